/- Regions that draw their order, in the small logic: those that only read; and any, order by order. No condition. -/
import Derived.Test.YtfhghnhgcdiknaaOps2
import Derived.Deep.Quiet
import Derived.OrdersHeld
namespace Go.Proofs.Ytfhghnhgcdiknaa
open Go.RowKit
/-- A walk in the text's order of operations that leave old blocks alone and have one value whatever was laid beside; w: the world at first. -/
def Wq (P : Program) (n : Nat) (all : Array Oper) (w : World) (l : List Oper) (K : Slots → Prop) (L : Slots) : Prop :=
  ∀ a, Fr a n L → wpQuiet P all (Ext w) (fun a' => ∃ L', Fr a' n L' ∧ K L') l a
section
variable {P : Program} {n : Nat} {Q : Post} {L : Slots} {G : Nat} {w0 w w1 : World} {H : List Res} {all : Array Oper} {l : List Oper} {d ty : Nat} {pos : String} {af : Array Edge} {s : List It}
theorem s_quiet {id : Nat} (hm : P.follows .mixedOrders = true) (hB : Region.lexB .any all = true) (h : Wq P n all w all.toList (fun L' => ∀ w', Ext w w' → Wps P n s Q L' w') L) : Wps P n (.c (.region id all true) :: s) Q L w := by
  intro a ha
  refine wp_region_quiet (C := Ext w) hm hB (Ext.drew w) ?_
  have h1 := h a ha
  exact wpQuiet_mono' h1 (fun a' ⟨L', h2, h3⟩ w' hw' => ⟨L', h2, h3 w' hw'⟩)
  where
  wpQuiet_mono' {C : World → Prop} {Q Q' : Act → Prop} : ∀ {l : List Oper} {a : Act}, wpQuiet P all C Q l a → (∀ a, Q a → Q' a) → wpQuiet P all C Q' l a
    | [], _, h, hi => hi _ h
    | o :: r, a, h, hi => by
      unfold wpQuiet at h ⊢
      split
      · rename_i hw
        rw [if_pos hw] at h
        obtain ⟨v, h1, h2⟩ := h
        exact ⟨v, h1, wpQuiet_mono' h2 hi⟩
      · rename_i hw
        rw [if_neg hw] at h
        exact wpQuiet_mono' h hi
variable {K : Slots → Prop}
theorem qq_nil (h : K L) : Wq P n all w [] K L := fun _ ha => ⟨L, ha, h⟩
theorem qq_r {op : Op} {v : Value} (hr : ∀ w', Ext w w' → Runs P n L ⟨some d, op, ty, pos, af, none⟩ v w') (hd : Nat.blt d n = true) (k : Wq P n all w l K ((d, v) :: L)) : Wq P n all w (⟨some d, op, ty, pos, af, none⟩ :: l) K L := by
  intro a ha
  simp only [wpQuiet, Region.wanted, if_true]
  refine ⟨v, fun w' hw' => ?_, k _ (ha.put hd v)⟩
  unfold Oper.quietAt
  rw [hr w' hw' a ha]
  exact ⟨rfl, rfl⟩
theorem qq_on {o : Option Tmp} {op : Op} {j dj : Nat} {b : Bool} (hj : (all[j]?).bind (·.dst) = some dj) (hb : get L dj = some (.bool b)) (hn : Nat.blt dj n = true)
    (k : Wq P n all w (⟨o, op, ty, pos, af, none⟩ :: l) K L) : Wq P n all w (⟨o, op, ty, pos, af, some (j, b)⟩ :: l) K L := by
  intro a ha
  have hy : yielded all a.tmps j = some b := by
    have h1 := ha.at_ _ _ hb
    have h2 : dj < a.tmps.size := by rw [ha.size]; simpa using hn
    simp only [Array.getD_eq_getD_getElem?, Array.getElem?_eq_getElem h2, Option.getD_some] at h1
    simp [yielded, hj, Array.getElem?_eq_getElem h2, h1]
  have h1 := k a ha
  simp only [wpQuiet, Region.wanted, hy, beq_self_eq_true, if_true] at h1 ⊢
  exact h1
theorem qq_off {op : Op} {j dj : Nat} {b c : Bool} (hj : (all[j]?).bind (·.dst) = some dj) (hb : get L dj = some (.bool b)) (hn : Nat.blt dj n = true) (hc : (b == c) = false) (hd : Nat.blt d n = true)
    (k : Wq P n all w l K ((d, undef) :: L)) : Wq P n all w (⟨some d, op, ty, pos, af, some (j, c)⟩ :: l) K L := by
  intro a ha
  have hy : yielded all a.tmps j = some b := by
    have h1 := ha.at_ _ _ hb
    have h2 : dj < a.tmps.size := by rw [ha.size]; simpa using hn
    simp only [Array.getD_eq_getD_getElem?, Array.getElem?_eq_getElem h2, Option.getD_some] at h1
    simp [yielded, hj, Array.getElem?_eq_getElem h2, h1]
  have hbc : (some b == some c) = false := by simpa using hc
  have h1 := k _ (ha.put hd undef)
  simp only [wpQuiet, Region.wanted, hy, hbc]
  exact h1
theorem qq_offu {op : Op} {j dj : Nat} {c : Bool} (hj : (all[j]?).bind (·.dst) = some dj) (hb : get L dj = some undef) (hn : Nat.blt dj n = true) (hd : Nat.blt d n = true)
    (k : Wq P n all w l K ((d, undef) :: L)) : Wq P n all w (⟨some d, op, ty, pos, af, some (j, c)⟩ :: l) K L := by
  intro a ha
  have hy : yielded all a.tmps j = none := by
    have h1 := ha.at_ _ _ hb
    have h2 : dj < a.tmps.size := by rw [ha.size]; simpa using hn
    simp only [Array.getD_eq_getD_getElem?, Array.getElem?_eq_getElem h2, Option.getD_some] at h1
    simp [yielded, hj, Array.getElem?_eq_getElem h2, h1, undef]
  have h1 := k _ (ha.put hd undef)
  simp only [wpQuiet, Region.wanted, hy]
  exact h1
theorem qq_call {f : Operand} {args : Array Operand} {at_ : Array TypeId} {g : Nat} {cap vs : List Value} {v : Value} (hf : ev L f = some (.func (.func g) #[] cap.toArray)) (ha : evs L args.toList = some vs) (hg : fnOk P g = true)
    (hc : ∀ w', Ext w w' → Calls P g (vs ++ cap).toArray w' (fun e w1 => e = .returned v ∧ Ext w' w1)) (hd : Nat.blt d n = true)
    (k : Wq P n all w l K ((d, v) :: L)) : Wq P n all w (⟨some d, .call { callee := .value f, args := args, argTypes := at_ }, ty, pos, af, none⟩ :: l) K L := by
  intro a hfr
  simp only [wpQuiet, Region.wanted, if_true]
  refine ⟨v, fun w' hw' => ?_, k _ (hfr.put hd v)⟩
  have h1 : args.map a.eval = vs.toArray := hfr.arr ha
  have hr : (execOp a.eval ⟨some d, .call { callee := .value f, args := args, argTypes := at_ }, ty, pos, af, none⟩).run P w' = .ok (.enter g (vs ++ cap).toArray) w' := by
    simp [execOp, resolve, Deferred.ofValue, hfr.ev hf, h1, invoke, run_callFunc hg]
  unfold Oper.quietAt
  rw [hr]
  refine ⟨rfl, (hc w' hw').mono fun e w1 ⟨he, hb⟩ => ⟨he, hw'.trans hb⟩⟩
end
/-! ### Any region, order by order -/
def Wa (P : Program) (n : Nat) (all : Array Oper) (S : World → Prop) (fuel : Nat) (listed : List Bool) (K : Slots → World → Prop) (L : Slots) (w : World) : Prop :=
  ∀ a, Fr a n L → wpAnyH P .any all (fun e a' w' => e = .normal ∧ ∃ L', Fr a' n L' ∧ K L' w') S fuel listed.toArray a w
/-- Which may come up now. -/
def readyNow (all : Array Oper) (listed : List Bool) : List Nat := Region.ready .any all listed.toArray
def mayTake (all : Array Oper) (listed : List Bool) (i : Nat) : Bool := Region.noSelect all && Region.free .any all listed.toArray i && (Region.ready .any all listed.toArray).contains i
section
variable {P : Program} {n : Nat} {Q : Post} {K : Slots → World → Prop} {L : Slots} {w w1 : World} {all : Array Oper} {fuel d ty : Nat} {pos : String} {af : Array Edge} {s : List It} {listed : List Bool} {S : World → Prop}
theorem s_any {id : Nat} (hm : P.follows .mixedOrders = true) (S : World → Prop) (K : Slots → World → Prop) (h : ∀ w1, Ext w w1 → w1.heap = w.heap → Wa P n all S all.size (List.replicate all.size false) K L w1) (k : ∀ L' w', K L' w' → Wps P n s Q L' w') : Wps P n (.c (.region id all true) :: s) Q L w := by
  intro a ha
  refine Code.wp_mono ?_ (wp_region_held (S := S) hm ?_ (Q := fun e a' w' => e = .normal ∧ ∃ L', Fr a' n L' ∧ K L' w'))
  · intro e a' w' ⟨he, L', h1, h2⟩
    subst he
    exact ⟨L', h1, k L' w' h2⟩
  · have h1 := h { w with drawn := w.drawn + 1 } (Ext.drew w) rfl a ha
    rwa [List.toArray_replicate] at h1
theorem wa_done (hr : readyNow all listed = []) (h : K L w) : Wa P n all S fuel listed K L w := fun _ ha => wpAnyH_done hr ⟨rfl, L, ha, h⟩ fuel
theorem wa_take (i : Nat) {op : Op} {v : Value} (hi : all[i]? = some ⟨some d, op, ty, pos, af, none⟩) (ht : mayTake all listed i = true) (hr : ∀ w', S w' → Runs P n L ⟨some d, op, ty, pos, af, none⟩ v w') (hS : S w) (hd : Nat.blt d n = true)
    (k : Wa P n all S fuel (listed.set i true) K ((d, v) :: L) w) : Wa P n all S (fuel + 1) listed K L w := by
  intro a ha
  simp only [mayTake, Bool.and_eq_true] at ht
  refine wpAnyH_take hi ht.1.1 ht.1.2 ht.2 (fun c a w h => by simp at h) (.inl ⟨rfl, fun w' hw' => hr w' hw' a ha⟩) hS ?_
  have h1 := k _ (ha.put hd v)
  rwa [← List.setIfInBounds_toArray] at h1
/-- One of those that may come up comes up: it is walked, and what follows. -/
theorem wa_one (rs : List Nat) (hr : readyNow all listed = rs) (hne : rs.isEmpty = false)
    (h : ∀ i ∈ rs, ∃ o, all[i]? = some o ∧ Wl P n all [o] (fun L' w' => S w' ∧ Wa P n all S fuel (listed.set i true) K L' w') L w) : Wa P n all S (fuel + 1) listed K L w := by
  intro a ha
  refine wpAnyH_all hr (by cases rs <;> simp at hne ⊢) fun i hi => ?_
  obtain ⟨o, ho, h1⟩ := h i hi
  have h2 := h1 a ha
  unfold wpOp
  simp only [ho]
  simp only [wpList] at h2
  split
  · rename_i hw
    rw [if_pos hw] at h2
    rcases h2 with h2 | h2
    · left
      refine Oper.wp_mono' h2 (fun a' w' ⟨_, L', h3, h4⟩ => ⟨h4.1, ?_⟩)
      have h5 := h4.2 a' h3
      rwa [← List.setIfInBounds_toArray] at h5
    · obtain ⟨_, a', w', h3, _⟩ := h2
      cases h3
  · rename_i hw
    rw [if_neg hw] at h2
    obtain ⟨_, L', h3, h4⟩ := h2
    have h5 := h4.2 _ h3
    rw [← List.setIfInBounds_toArray] at h5
    exact ⟨h4.1, h5⟩
  where
  Oper.wp_mono' {o : Oper} {a : Act} {w : World} {X Y : Act → World → Prop} {Q1 Q2 : Exit → Act → World → Prop} (h : o.wp P a w X (fun e a' w' => e = .normal ∧ Q1 e a' w')) (hi : ∀ a w, X a w → Y a w) : o.wp P a w Y Q2 := by
    unfold Oper.wp at *
    generalize (execOp a.eval o).run P w = r at *
    cases r with
    | ok nx w' =>
      cases nx <;> simp only [Oper.upon] at h ⊢
      case value u => exact hi _ _ h
      case skip => exact hi _ _ h
      case defer u => exact hi _ _ h
      case enter f args =>
        refine Calls.mono h (fun e w'' he => ?_)
        cases e with
        | returned v => exact hi _ _ he
        | panicked c => exact absurd he.1 (by simp)
        | outgrown => obtain ⟨_, _, he, _⟩ := he; cases he
      case row f args => exact Rows.mono h (fun _ _ he => hi _ _ he)
    | halt x w' => cases x <;> simp only [Oper.upon] at h ⊢ <;> first | exact absurd h.1 (by simp) | exact h
end
end Go.Proofs.Ytfhghnhgcdiknaa
