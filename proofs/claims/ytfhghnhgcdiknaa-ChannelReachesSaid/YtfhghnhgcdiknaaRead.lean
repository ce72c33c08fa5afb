/- What a reading of an argument says of its cells: for every type of integers, bools, slices, structs and arrays. No condition. -/
import Derived.Test.YtfhghnhgcdiknaaKinds
import Derived.ChangeArms
import Derived.OpenShut
import Derived.Deep.Slices
namespace Go.Proofs.Ytfhghnhgcdiknaa
open Go.RowKit
/-- One cell of a value. -/
inductive Leaf where
  | bool | str | int (k : IntKind) | slice (e : TypeId)
def flatF (P : Program) (fl : TypeId → Option (List Leaf)) : Nat → List Field → Option (List Leaf)
  | _, [] => some []
  | o, f :: fs => if f.offset = o then (fl f.type).bind fun l => if l.length = P.cellsOf f.type then (flatF P fl (o + l.length) fs).map (l ++ ·) else none else none
/-- A type's cells, one behind the other. -/
def flat (P : Program) : Nat → TypeId → Option (List Leaf)
  | 0, _ => none
  | n + 1, t => match P.underlying t with
    | some .bool => some [.bool]
    | some .string => some [.str]
    | some (.int k) => some [.int k]
    | some (.slice e) => some [.slice e]
    | some (.struct fs) => (flatF P (flat P n) 0 fs.toList).bind fun l => if l.length = P.cellsOf t then some l else none
    | some (.array m e) => (flat P n e).bind fun l => if l.length = P.cellsOf e ∧ m * l.length = P.cellsOf t then some (List.replicate m l).flatten else none
    | _ => none
section
variable {H : Type} (enc : TypeId × Value → H) (P : Program) (w : World)
def LeafOk : Leaf → Value → Prop
  | .bool, v => ∃ b, v = .bool b
  | .str, v => ∃ s, v = .string s ∧ s.size ≤ maxLen
  | .int k, v => ∃ n, v = .int k n ∧ (Lit.int k n).wf = true
  | .slice e, v => v = .slice none 0 0 ∨ ∃ a len cap, v = .slice (some a) len cap ∧ len ≤ cap ∧ cap ≤ maxLen ∧ ∀ i, i < len → ∃ cs, w.cells? 0 (a.add (i * P.cellsOf e)) (P.cellsOf e) = some cs ∧ ∃ fuel x, DataW.trod enc P w 0 (fun _ => true) true fuel e cs = some x
def All2 : List Leaf → List Value → Prop
  | [], [] => True
  | l :: ls, c :: cs => LeafOk enc P w l c ∧ All2 ls cs
  | _, _ => False
variable {enc P w}
theorem All2.cons_inv {l : Leaf} {ls : List Leaf} {cs : List Value} (h : All2 enc P w (l :: ls) cs) : ∃ c cs', cs = c :: cs' ∧ LeafOk enc P w l c ∧ All2 enc P w ls cs' := by
  cases cs with
  | nil => exact h.elim
  | cons c cs => exact ⟨c, cs, rfl, h.1, h.2⟩
theorem All2.nil_inv {cs : List Value} (h : All2 enc P w [] cs) : cs = [] := by
  cases cs with
  | nil => rfl
  | cons c cs => exact h.elim
theorem All2.append {l1 l2 : List Leaf} {c1 c2 : List Value} (h1 : All2 enc P w l1 c1) (h2 : All2 enc P w l2 c2) : All2 enc P w (l1 ++ l2) (c1 ++ c2) := by
  induction l1 generalizing c1 with
  | nil => rw [h1.nil_inv]; exact h2
  | cons l l1 ih =>
    obtain ⟨c, cs', rfl, h3, h4⟩ := h1.cons_inv
    exact ⟨h3, ih h4⟩
theorem flat_fields {fl : TypeId → Option (List Leaf)} {cs : List Value} (hfl : ∀ t l, fl t = some l → ∀ f : Field, f.type = t → (∃ x m, DataW.trod enc P w 0 (fun _ => true) true m t ((cs.drop f.offset).take (P.cellsOf t)) = some x) → All2 enc P w l ((cs.drop f.offset).take (P.cellsOf t)))
    (fs : List Field) (o : Nat) (ls : List Leaf) (h : flatF P fl o fs = some ls) (hx : ∀ f ∈ fs, ∃ x m, DataW.trod enc P w 0 (fun _ => true) true m f.type ((cs.drop f.offset).take (P.cellsOf f.type)) = some x) :
    All2 enc P w ls ((cs.drop o).take ls.length) := by
  induction fs generalizing o ls with
  | nil =>
    simp only [flatF, Option.some.injEq] at h
    subst h
    simp [All2]
  | cons f fs ih =>
    unfold flatF at h
    split at h
    · rename_i ho
      obtain ⟨l, hl, h⟩ := Option.bind_eq_some_iff.1 h
      split at h
      · rename_i hc
        obtain ⟨l2, hl2, rfl⟩ := Option.map_eq_some_iff.1 h
        have h1 := hfl _ _ hl f rfl (hx f List.mem_cons_self)
        have h2 := ih _ _ hl2 (fun g hg => hx g (List.mem_cons_of_mem _ hg))
        rw [ho, ← hc] at h1
        rw [List.length_append, List.take_add, List.drop_drop]
        exact h1.append h2
      · cases h
    · cases h
theorem flat_array {l : List Leaf} {cs : List Value} (m : Nat) (h : ∀ i, i < m → All2 enc P w l ((cs.drop (i * l.length)).take l.length)) : All2 enc P w (List.replicate m l).flatten (cs.take (m * l.length)) := by
  induction m with
  | zero => simp [All2]
  | succ m ih =>
    have e : (List.replicate (m + 1) l).flatten = (List.replicate m l).flatten ++ l := by
      rw [List.replicate_succ', List.flatten_append]; simp
    rw [e, Nat.succ_mul, List.take_add]
    exact (ih (fun i hi => h i (by omega))).append (h m (by omega))
theorem flat_read : ∀ (n : Nat) (t : TypeId) (ls : List Leaf), flat P n t = some ls → ∀ (fuel : Nat) (cs : List Value) (x : DataW H × List MemPlace), DataW.trod enc P w 0 (fun _ => true) true fuel t cs = some x → All2 enc P w ls cs := by
  intro n
  induction n with
  | zero => intro t ls h; cases h
  | succ n ih =>
    intro t ls h fuel cs x hx
    unfold flat at h
    cases hu : P.underlying t with
    | none => rw [hu] at h; cases h
    | some d =>
      rw [hu] at h
      cases d with
      | bool =>
        simp only [Option.some.injEq] at h
        subst h
        cases fuel with
        | zero => simp [DataW.trod] at hx
        | succ m =>
          unfold DataW.trod at hx
          rw [hu] at hx
          split at hx <;> simp_all [All2, LeafOk]
      | string =>
        simp only [Option.some.injEq] at h
        subst h
        cases fuel with
        | zero => simp [DataW.trod] at hx
        | succ m =>
          unfold DataW.trod at hx
          rw [hu] at hx
          split at hx <;> simp_all [All2, LeafOk]
      | int k =>
        simp only [Option.some.injEq] at h
        subst h
        cases fuel with
        | zero => simp [DataW.trod] at hx
        | succ m =>
          unfold DataW.trod at hx
          rw [hu] at hx
          split at hx <;> simp_all [All2, LeafOk]
      | slice e =>
        simp only [Option.some.injEq] at h
        subst h
        rcases Go.Deep.open_slice hu hx with ⟨rfl, _⟩ | ⟨a, len, cap, m, n', D, Pl, rfl, _, hl, hm, hmm, _, hc⟩
        · exact ⟨.inl rfl, trivial⟩
        · refine ⟨.inr ⟨a, len, cap, rfl, hl, hm, fun i hi => ?_⟩, trivial⟩
          obtain ⟨cs', h1, h2⟩ := hc i (by rw [hmm, if_pos rfl]; omega)
          exact ⟨cs', h1, _, _, h2⟩
      | struct fs =>
        obtain ⟨l, hl, h⟩ := Option.bind_eq_some_iff.1 h
        split at h
        · rename_i hlen
          cases h
          obtain ⟨xs, m, _, _, hcl, hxl, hf⟩ := DataW.trod_struct hu hx
          have := flat_fields (enc := enc) (P := P) (w := w) (cs := cs) (fun t l hl f hft ⟨x, m, hx⟩ => ih t l hl m _ x hx) fs.toList 0 ls hl (fun f hf' => by
            obtain ⟨i, hi, he⟩ := List.mem_iff_getElem.1 hf'
            have hi' : i < fs.size := by simpa using hi
            have hg : fs[i]? = some f := by
              rw [Array.getElem?_eq_getElem hi']
              exact congrArg some (by simpa using he)
            have := hf i f hg
            rw [List.getElem?_eq_getElem (by omega)] at this
            exact ⟨_, _, this⟩)
          rw [List.drop_zero, hlen, ← hcl, List.take_length] at this
          exact this
        · cases h
      | array m e =>
        obtain ⟨l, hl, h⟩ := Option.bind_eq_some_iff.1 h
        split at h
        · rename_i hlen
          cases h
          obtain ⟨xs, m', _, _, hcl, hxl, hf⟩ := DataW.trod_array hu hx
          have := flat_array (enc := enc) (P := P) (w := w) (l := l) (cs := cs) m (fun i hi => by
            have := hf i hi
            rw [List.getElem?_eq_getElem (by omega)] at this
            rw [hlen.1]
            exact ih e l hl _ _ _ this)
          rw [hlen.2, ← hcl, List.take_length] at this
          exact this
        · cases h
      | _ => cases h
/-- What is read at t is of the kind k. -/
def Rd {α : Type} (P : Program) (k : Kd α) (t : TypeId) : Prop := ∀ {H : Type} (enc : TypeId × Value → H) (w : World) (fuel : Nat) (cs : List Value) (x : DataW H × List MemPlace),
  DataW.trod enc P w 0 (fun _ => true) true fuel t cs = some x → ∃ a, k.K w (fun _ => True) a cs
theorem choose_list {α : Type} {p : Nat → α → Prop} : ∀ n : Nat, (∀ i, i < n → ∃ a, p i a) → ∃ xs : List α, xs.length = n ∧ ∀ i x, xs[i]? = some x → p i x
  | 0, _ => ⟨[], rfl, fun i x h => by simp at h⟩
  | n + 1, h => by
    obtain ⟨xs, hl, hx⟩ := choose_list n (fun i hi => h i (by omega))
    obtain ⟨a, ha⟩ := h n (by omega)
    refine ⟨xs ++ [a], by simp [hl], fun i x hi => ?_⟩
    by_cases hin : i < xs.length
    · rw [List.getElem?_append_left hin] at hi
      exact hx i x hi
    · have : i = n := by
        have := (List.getElem?_eq_some_iff.1 hi).1
        simp at this
        omega
      subst this
      rw [← hl] at hi
      simp at hi
      rw [← hi]
      exact ha
theorem leaf_slice {α : Type} {k : Kd α} {e : TypeId} {v : Value} (hr : Rd P k e) (hk : P.cellsOf e = k.sz) (hz : 0 < k.sz) (h : LeafOk enc P w (.slice e) v) : ∃ A c xs, v = .slice A xs.length c ∧ Sl k w (fun _ => True) A c xs := by
  rcases h with rfl | ⟨a, len, cap, rfl, hl, hm, h⟩
  · exact ⟨none, 0, [], rfl, Sl.nil k w _ _ (by omega)⟩
  · have hm' : cap ≤ 9223372036854775807 := by simp only [maxLen] at hm; omega
    obtain ⟨xs, hxl, hx⟩ := choose_list (p := fun i x => ∃ cs, w.cells? 0 (a.add (i * P.cellsOf e)) (P.cellsOf e) = some cs ∧ k.K w (fun _ => True) x cs) len (fun i hi => by
      obtain ⟨cs, h1, fuel, x, h2⟩ := h i hi
      obtain ⟨y, hy⟩ := hr enc w fuel cs x h2
      exact ⟨y, cs, h1, hy⟩)
    refine ⟨some a, cap, xs, by rw [hxl], by omega, hm', fun j x hj => ?_⟩
    have hspot : a.spot = none := by
      obtain ⟨cs, h1, _⟩ := h 0 (by have := (List.getElem?_eq_some_iff.1 hj).1; omega)
      obtain ⟨_, _, hc⟩ := World.cells?_some h1
      have h0 := hc 0 (by omega)
      cases hs : a.spot with
      | none => rfl
      | some s =>
        simp only [Nat.zero_mul, Addr.add, if_true, World.cell?, hs, Option.isSome_some] at h0
        split at h0
        · exfalso
          have hlt : 0 < cs.length := by omega
          rw [List.getElem?_eq_getElem hlt] at h0
          cases h0
        · exfalso
          have hlt : 0 < cs.length := by omega
          rw [List.getElem?_eq_getElem hlt] at h0
          cases h0
    obtain ⟨b, o, spot⟩ := a
    simp only at hspot
    subst hspot
    obtain ⟨cs, h1, hK⟩ := hx j x hj
    obtain ⟨_, hcl, hc⟩ := World.cells?_some h1
    refine ⟨b, o, cs, rfl, trivial, hK, fun i u hi => ?_⟩
    have hlt := (List.getElem?_eq_some_iff.1 hi).1
    have := hc i (by omega)
    rw [hi, hk] at this
    rw [← this]
    congr 1
    simp only [Addr.add]
    split <;> split <;> simp_all <;> omega
theorem rd_int {t : TypeId} (ht : P.underlying t = some (.int .i64)) : Rd P Kd.int t := fun enc w fuel cs x h => by
  have := flat_read 1 t [.int .i64] (by simp [flat, ht]) fuel cs x h
  obtain ⟨c, r, rfl, ⟨n, rfl, _⟩, h2⟩ := this.cons_inv
  rw [h2.nil_inv]
  exact ⟨n, rfl⟩
theorem rd_bool {t : TypeId} (ht : P.underlying t = some .bool) : Rd P Kd.bool t := fun enc w fuel cs x h => by
  have := flat_read 1 t [.bool] (by simp [flat, ht]) fuel cs x h
  obtain ⟨c, r, rfl, ⟨n, rfl⟩, h2⟩ := this.cons_inv
  rw [h2.nil_inv]
  exact ⟨n, rfl⟩
end
end Go.Proofs.Ytfhghnhgcdiknaa
