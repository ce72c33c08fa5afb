/- What a reading of an argument of bounded bulk says of its cells. No condition. -/
import Derived.Test.YtfhghnhgcdiknaaRead
import Derived.ChangeArms
import Derived.OpenShut
import Derived.Deep.Slices
namespace Go.Proofs.Ytfhghnhgcdiknaa
open Go.RowKit
/-- A property of data that goes down to the parts; slices are no longer than N. -/
structure Hered {H : Type} (B : DataW H → Prop) (N : Nat) : Prop where
  agg : ∀ ps, B (.agg ps) → ∀ d ∈ ps, B d
  elems : ∀ es sp, B (.slice es sp) → ∀ d ∈ es, B d
  len : ∀ es sp, B (.slice es sp) → es.length ≤ N
section
variable {H : Type} (enc : TypeId × Value → H) (P : Program) (w : World) (B : DataW H → Prop) (N : Nat)
def LeafOkB : Leaf → Value → Prop
  | .bool, v => ∃ b, v = .bool b
  | .str, v => ∃ s, v = .string s ∧ s.size ≤ maxLen
  | .int k, v => ∃ n, v = .int k n ∧ (Lit.int k n).wf = true
  | .slice e, v => v = .slice none 0 0 ∨ ∃ a len cap, v = .slice (some a) len cap ∧ len ≤ cap ∧ cap ≤ maxLen ∧ len ≤ N ∧ ∀ i, i < len → ∃ cs, w.cells? 0 (a.add (i * P.cellsOf e)) (P.cellsOf e) = some cs ∧ ∃ fuel x, DataW.trod enc P w 0 (fun _ => true) true fuel e cs = some x ∧ B x.1
def All2B : List Leaf → List Value → Prop
  | [], [] => True
  | l :: ls, c :: cs => LeafOkB enc P w B N l c ∧ All2B ls cs
  | _, _ => False
variable {enc P w B N}
theorem All2B.cons_inv {l : Leaf} {ls : List Leaf} {cs : List Value} (h : All2B enc P w B N (l :: ls) cs) : ∃ c cs', cs = c :: cs' ∧ LeafOkB enc P w B N l c ∧ All2B enc P w B N ls cs' := by
  cases cs with
  | nil => exact h.elim
  | cons c cs => exact ⟨c, cs, rfl, h.1, h.2⟩
theorem All2B.nil_inv {cs : List Value} (h : All2B enc P w B N [] cs) : cs = [] := by
  cases cs with
  | nil => rfl
  | cons c cs => exact h.elim
theorem All2B.append {l1 l2 : List Leaf} {c1 c2 : List Value} (h1 : All2B enc P w B N l1 c1) (h2 : All2B enc P w B N l2 c2) : All2B enc P w B N (l1 ++ l2) (c1 ++ c2) := by
  induction l1 generalizing c1 with
  | nil => rw [h1.nil_inv]; exact h2
  | cons l l1 ih =>
    obtain ⟨c, cs', rfl, h3, h4⟩ := h1.cons_inv
    exact ⟨h3, ih h4⟩
theorem flat_fieldsB {fl : TypeId → Option (List Leaf)} {cs : List Value} (hfl : ∀ t l, fl t = some l → ∀ f : Field, f.type = t → (∃ x m, DataW.trod enc P w 0 (fun _ => true) true m t ((cs.drop f.offset).take (P.cellsOf t)) = some x ∧ B x.1) → All2B enc P w B N l ((cs.drop f.offset).take (P.cellsOf t)))
    (fs : List Field) (o : Nat) (ls : List Leaf) (h : flatF P fl o fs = some ls) (hx : ∀ f ∈ fs, ∃ x m, DataW.trod enc P w 0 (fun _ => true) true m f.type ((cs.drop f.offset).take (P.cellsOf f.type)) = some x ∧ B x.1) :
    All2B enc P w B N ls ((cs.drop o).take ls.length) := by
  induction fs generalizing o ls with
  | nil =>
    simp only [flatF, Option.some.injEq] at h
    subst h
    simp [All2B]
  | cons f fs ih =>
    unfold flatF at h
    split at h
    · rename_i ho
      obtain ⟨l, hl, h⟩ := Option.bind_eq_some_iff.1 h
      split at h
      · rename_i hc
        obtain ⟨l2, hl2, rfl⟩ := Option.map_eq_some_iff.1 h
        have h1 := hfl _ _ hl f rfl (hx f List.mem_cons_self)
        have h2 := ih _ _ hl2 (fun g hg => hx g (List.mem_cons_of_mem _ hg))
        rw [ho, ← hc] at h1
        rw [List.length_append, List.take_add, List.drop_drop]
        exact h1.append h2
      · cases h
    · cases h
theorem flat_arrayB {l : List Leaf} {cs : List Value} (m : Nat) (h : ∀ i, i < m → All2B enc P w B N l ((cs.drop (i * l.length)).take l.length)) : All2B enc P w B N (List.replicate m l).flatten (cs.take (m * l.length)) := by
  induction m with
  | zero => simp [All2B]
  | succ m ih =>
    have e : (List.replicate (m + 1) l).flatten = (List.replicate m l).flatten ++ l := by
      rw [List.replicate_succ', List.flatten_append]; simp
    rw [e, Nat.succ_mul, List.take_add]
    exact (ih (fun i hi => h i (by omega))).append (h m (by omega))
theorem flat_readB (hB : Hered B N) : ∀ (n : Nat) (t : TypeId) (ls : List Leaf), flat P n t = some ls → ∀ (fuel : Nat) (cs : List Value) (x : DataW H × List MemPlace), DataW.trod enc P w 0 (fun _ => true) true fuel t cs = some x → B x.1 → All2B enc P w B N ls cs := by
  intro n
  induction n with
  | zero => intro t ls h; cases h
  | succ n ih =>
    intro t ls h fuel cs x hx hb
    unfold flat at h
    cases hu : P.underlying t with
    | none => rw [hu] at h; cases h
    | some d =>
      rw [hu] at h
      cases d with
      | bool =>
        simp only [Option.some.injEq] at h
        subst h
        cases fuel with
        | zero => simp [DataW.trod] at hx
        | succ m =>
          unfold DataW.trod at hx
          rw [hu] at hx
          split at hx <;> simp_all [All2B, LeafOkB]
      | string =>
        simp only [Option.some.injEq] at h
        subst h
        cases fuel with
        | zero => simp [DataW.trod] at hx
        | succ m =>
          unfold DataW.trod at hx
          rw [hu] at hx
          split at hx <;> simp_all [All2B, LeafOkB]
      | int k =>
        simp only [Option.some.injEq] at h
        subst h
        cases fuel with
        | zero => simp [DataW.trod] at hx
        | succ m =>
          unfold DataW.trod at hx
          rw [hu] at hx
          split at hx <;> simp_all [All2B, LeafOkB]
      | slice e =>
        simp only [Option.some.injEq] at h
        subst h
        rcases Go.Deep.open_slice hu hx with ⟨rfl, _⟩ | ⟨a, len, cap, m, n', D, Pl, rfl, _, hl, hm, hmm, rfl, hc⟩
        · exact ⟨.inl rfl, trivial⟩
        · refine ⟨.inr ⟨a, len, cap, rfl, hl, hm, by simpa using hB.len _ _ hb, fun i hi => ?_⟩, trivial⟩
          obtain ⟨cs', h1, h2⟩ := hc i (by rw [hmm, if_pos rfl]; omega)
          exact ⟨cs', h1, _, _, h2, hB.elems _ _ hb _ (List.mem_map.2 ⟨i, by simpa using hi, rfl⟩)⟩
      | struct fs =>
        obtain ⟨l, hl, h⟩ := Option.bind_eq_some_iff.1 h
        split at h
        · rename_i hlen
          cases h
          obtain ⟨xs, m, _, rfl, hcl, hxl, hf⟩ := DataW.trod_struct hu hx
          have hbx : ∀ y ∈ xs, B y.1 := fun y hy => hB.agg _ hb _ (List.mem_map.2 ⟨y, hy, rfl⟩)
          have := flat_fieldsB (enc := enc) (P := P) (w := w) (cs := cs) (fun t l hl f hft ⟨x, m, hx, hb⟩ => ih t l hl m _ x hx hb) fs.toList 0 ls hl (fun f hf' => by
            obtain ⟨i, hi, he⟩ := List.mem_iff_getElem.1 hf'
            have hi' : i < fs.size := by simpa using hi
            have hg : fs[i]? = some f := by
              rw [Array.getElem?_eq_getElem hi']
              exact congrArg some (by simpa using he)
            have := hf i f hg
            rw [List.getElem?_eq_getElem (by omega)] at this
            exact ⟨_, _, this, hbx _ (List.getElem_mem _)⟩)
          rw [List.drop_zero, hlen, ← hcl, List.take_length] at this
          exact this
        · cases h
      | array m e =>
        obtain ⟨l, hl, h⟩ := Option.bind_eq_some_iff.1 h
        split at h
        · rename_i hlen
          cases h
          obtain ⟨xs, m', _, rfl, hcl, hxl, hf⟩ := DataW.trod_array hu hx
          have hbx : ∀ y ∈ xs, B y.1 := fun y hy => hB.agg _ hb _ (List.mem_map.2 ⟨y, hy, rfl⟩)
          have := flat_arrayB (enc := enc) (P := P) (w := w) (l := l) (cs := cs) m (fun i hi => by
            have := hf i hi
            rw [List.getElem?_eq_getElem (by omega)] at this
            rw [hlen.1]
            exact ih e l hl _ _ _ this (hbx _ (List.getElem_mem _)))
          rw [hlen.2, ← hcl, List.take_length] at this
          exact this
        · cases h
      | _ => cases h
/-- What is read at t is of the kind k. -/
def RdB {α : Type} (P : Program) (k : Kd α) (t : TypeId) (bd : Nat → α → Prop) : Prop := ∀ {H : Type} (enc : TypeId × Value → H) (w : World) (B : DataW H → Prop) (N : Nat), Hered B N → ∀ (fuel : Nat) (cs : List Value) (x : DataW H × List MemPlace),
  DataW.trod enc P w 0 (fun _ => true) true fuel t cs = some x → B x.1 → ∃ a, k.K w (fun _ => True) a cs ∧ bd N a
theorem choose_listB {α : Type} {p : Nat → α → Prop} : ∀ n : Nat, (∀ i, i < n → ∃ a, p i a) → ∃ xs : List α, xs.length = n ∧ ∀ i x, xs[i]? = some x → p i x
  | 0, _ => ⟨[], rfl, fun i x h => by simp at h⟩
  | n + 1, h => by
    obtain ⟨xs, hl, hx⟩ := choose_listB n (fun i hi => h i (by omega))
    obtain ⟨a, ha⟩ := h n (by omega)
    refine ⟨xs ++ [a], by simp [hl], fun i x hi => ?_⟩
    by_cases hin : i < xs.length
    · rw [List.getElem?_append_left hin] at hi
      exact hx i x hi
    · have : i = n := by
        have := (List.getElem?_eq_some_iff.1 hi).1
        simp at this
        omega
      subst this
      rw [← hl] at hi
      simp at hi
      rw [← hi]
      exact ha
theorem leaf_sliceB {α : Type} {k : Kd α} {e : TypeId} {v : Value} {bd : Nat → α → Prop} (hB : Hered B N) (hr : RdB P k e bd) (hk : P.cellsOf e = k.sz) (hz : 0 < k.sz) (h : LeafOkB enc P w B N (.slice e) v) : ∃ A c xs, v = .slice A xs.length c ∧ Sl k w (fun _ => True) A c xs ∧ xs.length ≤ N ∧ ∀ x ∈ xs, bd N x := by
  rcases h with rfl | ⟨a, len, cap, rfl, hl, hm, hN, h⟩
  · exact ⟨none, 0, [], rfl, Sl.nil k w _ _ (by omega), Nat.zero_le _, fun x hx => by cases hx⟩
  · have hm' : cap ≤ 9223372036854775807 := by simp only [maxLen] at hm; omega
    obtain ⟨xs, hxl, hx⟩ := choose_listB (p := fun i x => ∃ cs, w.cells? 0 (a.add (i * P.cellsOf e)) (P.cellsOf e) = some cs ∧ k.K w (fun _ => True) x cs ∧ bd N x) len (fun i hi => by
      obtain ⟨cs, h1, fuel, x, h2, h3⟩ := h i hi
      obtain ⟨y, hy, hb⟩ := hr enc w B N hB fuel cs x h2 h3
      exact ⟨y, cs, h1, hy, hb⟩)
    refine ⟨some a, cap, xs, by rw [hxl], ⟨by omega, hm', fun j x hj => ?_⟩, by omega, fun x hx0 => by
      obtain ⟨j, hj⟩ := List.mem_iff_getElem?.1 hx0
      obtain ⟨_, _, _, h3⟩ := hx j x hj
      exact h3⟩
    have hspot : a.spot = none := by
      obtain ⟨cs, h1, _⟩ := h 0 (by have := (List.getElem?_eq_some_iff.1 hj).1; omega)
      obtain ⟨_, _, hc⟩ := World.cells?_some h1
      have h0 := hc 0 (by omega)
      cases hs : a.spot with
      | none => rfl
      | some s =>
        simp only [Nat.zero_mul, Addr.add, if_true, World.cell?, hs, Option.isSome_some] at h0
        split at h0
        · exfalso
          have hlt : 0 < cs.length := by omega
          rw [List.getElem?_eq_getElem hlt] at h0
          cases h0
        · exfalso
          have hlt : 0 < cs.length := by omega
          rw [List.getElem?_eq_getElem hlt] at h0
          cases h0
    obtain ⟨b, o, spot⟩ := a
    simp only at hspot
    subst hspot
    obtain ⟨cs, h1, hK, _⟩ := hx j x hj
    obtain ⟨_, hcl, hc⟩ := World.cells?_some h1
    refine ⟨b, o, cs, rfl, trivial, hK, fun i u hi => ?_⟩
    have hlt := (List.getElem?_eq_some_iff.1 hi).1
    have := hc i (by omega)
    rw [hi, hk] at this
    rw [← this]
    congr 1
    simp only [Addr.add]
    split <;> split <;> simp_all <;> omega
theorem rdB_int {t : TypeId} (ht : P.underlying t = some (.int .i64)) : RdB P Kd.int t (fun _ _ => True) := fun enc w B N hB fuel cs x h _ => by
  obtain ⟨a, ha⟩ := rd_int ht enc w fuel cs x h
  exact ⟨a, ha, trivial⟩
theorem rdB_bool {t : TypeId} (ht : P.underlying t = some .bool) : RdB P Kd.bool t (fun _ _ => True) := fun enc w B N hB fuel cs x h _ => by
  obtain ⟨a, ha⟩ := rd_bool ht enc w fuel cs x h
  exact ⟨a, ha, trivial⟩
end
end Go.Proofs.Ytfhghnhgcdiknaa
