/- How Go's data lie in memory: kinds with the blocks that they lie in. No condition. -/
import Derived.Test.YtfhghnhgcdiknaaOps2
namespace Go.Proofs.Ytfhghnhgcdiknaa
open Go.RowKit
/-- A kind of values: how many cells, and what the cells say of a Lean value, in w, the rows inside lying in blocks of ok. -/
structure Kd (α : Type) where
  sz : Nat
  K : World → (Nat → Prop) → α → List Value → Prop
  len : ∀ {w ok x cs}, K w ok x cs → cs.length = sz
  one : ∀ {w ok x cs}, K w ok x cs → ∀ u ∈ cs, u.oneCell' = true
  move : ∀ {w w1 : World} {ok x cs}, (∀ k, ok k → k < w.heap.size → w1.heap[k]? = w.heap[k]?) → K w ok x cs → K w1 ok x cs
  mono : ∀ {w ok ok' x cs}, (∀ k, ok k → k < w.heap.size → ok' k) → K w ok x cs → K w ok' x cs
/-- A slice's elements. -/
def Sl {α : Type} (d : Kd α) (w : World) (ok : Nat → Prop) (A : Option Addr) (c : Nat) (xs : List α) : Prop :=
  xs.length ≤ c ∧ c ≤ 9223372036854775807 ∧ ∀ j x, xs[j]? = some x → ∃ b o cs, A = some ⟨b, o, none⟩ ∧ ok b ∧ d.K w ok x cs ∧ Cells w b (o + j * d.sz) cs
/-- Elements one behind the other. -/
def Reps {α : Type} (d : Kd α) (w : World) (ok : Nat → Prop) (xs : List α) (cs : List Value) : Prop :=
  cs.length = xs.length * d.sz ∧ ∀ j x, xs[j]? = some x → d.K w ok x ((cs.drop (j * d.sz)).take d.sz)
theorem Cells.lt {w : World} {b o : Nat} {cs : List Value} (h : Cells w b o cs) (hl : 0 < cs.length) : b < w.heap.size := by
  have h1 := h 0 _ (List.getElem?_eq_getElem hl)
  exact World.block_lt_of_cell? w _ h1
theorem Cells.move {w w1 : World} {b o : Nat} {cs : List Value} (h : Cells w b o cs) (hb : w1.heap[b]? = w.heap[b]?) : Cells w1 b o cs := fun j u hu => by
  have h1 := h j u hu
  simp only [World.cell?] at h1 ⊢
  rw [hb]
  exact h1
theorem Cells.get {w : World} {b o : Nat} {cs : List Value} (h : Cells w b o cs) {j : Nat} {u : Value} (hu : cs[j]? = some u) : w.cell? ⟨b, o + j, none⟩ = some u := h j u hu
theorem Cells.seg {w : World} {b o : Nat} {cs : List Value} (h : Cells w b o cs) (i m : Nat) : Cells w b (o + i) ((cs.drop i).take m) := fun j u hu => by
  rw [List.getElem?_take] at hu
  split at hu
  · rw [List.getElem?_drop] at hu
    have := h _ u hu
    rwa [← Nat.add_assoc] at this
  · cases hu
section
variable {α : Type} {d : Kd α} {w w1 : World} {ok ok' : Nat → Prop} {A : Option Addr} {c : Nat} {xs : List α} {cs : List Value}
theorem cells_move (hm : ∀ k, ok k → k < w.heap.size → w1.heap[k]? = w.heap[k]?) {b o : Nat} (hb : ok b) (h : Cells w b o cs) : Cells w1 b o cs := by
  intro j u hu
  have hlt := World.block_lt_of_cell? w _ (h j u hu)
  exact (h.move (hm b hb hlt)) j u hu
theorem Sl.move (hm : ∀ k, ok k → k < w.heap.size → w1.heap[k]? = w.heap[k]?) (h : Sl d w ok A c xs) : Sl d w1 ok A c xs := by
  refine ⟨h.1, h.2.1, fun j x hj => ?_⟩
  obtain ⟨b, o, cs, hA, hb, hK, hc⟩ := h.2.2 j x hj
  exact ⟨b, o, cs, hA, hb, d.move hm hK, cells_move hm hb hc⟩
theorem Sl.mono (hi : ∀ k, ok k → k < w.heap.size → ok' k) (hz : 0 < d.sz) (h : Sl d w ok A c xs) : Sl d w ok' A c xs := by
  refine ⟨h.1, h.2.1, fun j x hj => ?_⟩
  obtain ⟨b, o, cs, hA, hb, hK, hc⟩ := h.2.2 j x hj
  exact ⟨b, o, cs, hA, hi b hb (hc.lt (by rw [d.len hK]; exact hz)), d.mono hi hK, hc⟩
theorem Sl.nil (d : Kd α) (w : World) (ok : Nat → Prop) (A : Option Addr) (hc : c ≤ 9223372036854775807) : Sl d w ok A c ([] : List α) := ⟨Nat.zero_le _, hc, fun j x hj => by simp at hj⟩
theorem Sl.len (h : Sl d w ok A c xs) : xs.length ≤ 9223372036854775807 := Nat.le_trans h.1 h.2.1
/-- Element i: its place and its cells. -/
theorem Sl.at_ (h : Sl d w ok A c xs) {i : Nat} (hi : i < xs.length) : ∃ b o cs, A = some ⟨b, o, none⟩ ∧ ok b ∧ d.K w ok xs[i] cs ∧ Cells w b (o + i * d.sz) cs := h.2.2 i _ (List.getElem?_eq_getElem hi)
theorem Sl.some_ (h : Sl d w ok A c xs) (hn : 0 < xs.length) : ∃ b o, A = some ⟨b, o, none⟩ ∧ ok b := by
  obtain ⟨b, o, _, h1, h2, _⟩ := h.at_ hn
  exact ⟨b, o, h1, h2⟩
/-- All cells of a slice, one behind the other. -/
theorem Sl.cells {b o : Nat} (h : Sl d w ok (some ⟨b, o, none⟩) c xs) : ∃ cs, Reps d w ok xs cs ∧ Cells w b o cs ∧ ∀ u ∈ cs, u.oneCell' = true := by
  obtain ⟨h1, h2, h3⟩ := h
  clear h1
  induction xs generalizing o with
  | nil => exact ⟨[], ⟨by simp, fun j x hj => by simp at hj⟩, fun j u hu => by simp at hu, fun u hu => by simp at hu⟩
  | cons x xs ih =>
    obtain ⟨b', o', cx, hA, hb, hK, hc⟩ := h3 0 x rfl
    simp only [Option.some.injEq, Addr.mk.injEq, and_true] at hA
    obtain ⟨rfl, rfl⟩ := hA
    obtain ⟨cs, hR, hcs, h1s⟩ := ih (o := o + d.sz) (fun j y hj => by
      obtain ⟨b', o', cy, hA, hb, hK, hc⟩ := h3 (j + 1) y (by simpa using hj)
      simp only [Option.some.injEq, Addr.mk.injEq, and_true] at hA
      obtain ⟨rfl, rfl⟩ := hA
      refine ⟨_, _, cy, rfl, hb, hK, ?_⟩
      have : o + (j + 1) * d.sz = o + d.sz + j * d.sz := by rw [Nat.succ_mul]; omega
      rwa [this] at hc)
    have hl := d.len hK
    refine ⟨cx ++ cs, ⟨?_, fun j y hj => ?_⟩, fun j u hu => ?_, fun u hu => ?_⟩
    · rw [List.length_append, hl, hR.1, List.length_cons, Nat.succ_mul]; omega
    · cases j with
      | zero =>
        simp at hj
        subst hj
        simp only [Nat.zero_mul, List.drop_zero]
        rw [List.take_left' hl]
        exact hK
      | succ j =>
        have h5 := hR.2 j y (by simpa using hj)
        have : (j + 1) * d.sz = d.sz + j * d.sz := by rw [Nat.succ_mul]; omega
        rw [this, ← hl, ← List.drop_drop, List.drop_left, hl]
        exact h5
    · rw [List.getElem?_append] at hu
      split at hu
      · simpa using hc j u hu
      · rename_i hj
        have := hcs _ u hu
        have e : o + d.sz + (j - cx.length) = o + j := by omega
        rwa [e] at this
    · rcases List.mem_append.1 hu with hu | hu
      · exact d.one hK u hu
      · exact h1s u hu
theorem Reps.move (hm : ∀ k, ok k → k < w.heap.size → w1.heap[k]? = w.heap[k]?) (h : Reps d w ok xs cs) : Reps d w1 ok xs cs := ⟨h.1, fun j x hj => d.move hm (h.2 j x hj)⟩
theorem Reps.mono (hi : ∀ k, ok k → k < w.heap.size → ok' k) (h : Reps d w ok xs cs) : Reps d w ok' xs cs := ⟨h.1, fun j x hj => d.mono hi (h.2 j x hj)⟩
theorem Reps.nil (d : Kd α) (w : World) (ok : Nat → Prop) : Reps d w ok ([] : List α) [] := ⟨by simp, fun j x hj => by simp at hj⟩
theorem Reps.snoc {x : α} {cx : List Value} (h : Reps d w ok xs cs) (hx : d.K w ok x cx) : Reps d w ok (xs ++ [x]) (cs ++ cx) := by
  have hl := d.len hx
  refine ⟨by rw [List.length_append, h.1, hl, List.length_append, List.length_singleton, Nat.succ_mul], fun j y hj => ?_⟩
  by_cases hlt : j < xs.length
  · rw [List.getElem?_append_left hlt] at hj
    have h1 := h.2 j y hj
    have hfit : j * d.sz + d.sz ≤ cs.length := by rw [h.1, ← Nat.succ_mul]; exact Nat.mul_le_mul_right _ hlt
    rw [List.drop_append_of_le_length (by omega), List.take_append_of_le_length (by rw [List.length_drop]; omega)]
    exact h1
  · have he : j = xs.length := by
      have := (List.getElem?_eq_some_iff.1 hj).1
      simp at this
      omega
    subst he
    simp at hj
    subst hj
    rw [← h.1, List.drop_left, ← hl, List.take_length]
    exact hx
theorem reps_one (h : Reps d w ok xs cs) (hz : 0 < d.sz) : ∀ u ∈ cs, u.oneCell' = true := by
  intro u hu
  obtain ⟨q, hq, rfl⟩ := List.mem_iff_getElem.1 hu
  have hql : q / d.sz < xs.length := by
    rw [Nat.div_lt_iff_lt_mul hz, ← h.1]
    exact hq
  refine d.one (h.2 (q / d.sz) _ (List.getElem?_eq_getElem hql)) _ ?_
  rw [List.mem_iff_getElem?]
  refine ⟨q % d.sz, ?_⟩
  rw [List.getElem?_take, if_pos (Nat.mod_lt _ hz), List.getElem?_drop, Nat.mul_comm, Nat.div_add_mod, List.getElem?_eq_getElem hq]
/-- Element i is x now: its cells are cx. -/
theorem Reps.set {i : Nat} {x : α} {cx : List Value} (h : Reps d w ok xs cs) (hi : i < xs.length) (hx : d.K w ok x cx) : Reps d w ok (xs.set i x) (cs.take (i * d.sz) ++ cx ++ cs.drop (i * d.sz + cx.length)) := by
  have hl := d.len hx
  have hfit : i * d.sz + d.sz ≤ cs.length := by rw [h.1, ← Nat.succ_mul]; exact Nat.mul_le_mul_right _ hi
  refine ⟨?_, fun m p hm => ?_⟩
  · rw [List.length_set, ← h.1]
    simp only [List.length_append, List.length_take, List.length_drop]
    omega
  · have hml : m < xs.length := by
      have := (List.getElem?_eq_some_iff.1 hm).1
      rwa [List.length_set] at this
    by_cases hmi : m = i
    · subst hmi
      rw [List.getElem?_set_self hml] at hm
      injection hm with hm
      subst hm
      rw [List.append_assoc, List.drop_left' (by rw [List.length_take]; omega), List.take_left' hl]
      exact hx
    · rw [List.getElem?_set_ne (Ne.symm hmi)] at hm
      have hmf : m * d.sz + d.sz ≤ cs.length := by rw [h.1, ← Nat.succ_mul]; exact Nat.mul_le_mul_right _ hml
      have e : ((cs.take (i * d.sz) ++ cx ++ cs.drop (i * d.sz + cx.length)).drop (m * d.sz)).take d.sz = (cs.drop (m * d.sz)).take d.sz := by
        rcases Nat.lt_or_gt_of_ne hmi with hlt | hgt
        · have h2 : m * d.sz + d.sz ≤ i * d.sz := by rw [← Nat.succ_mul]; exact Nat.mul_le_mul_right _ hlt
          rw [List.append_assoc, List.drop_append_of_le_length (by rw [List.length_take]; omega), List.take_append_of_le_length (by rw [List.length_drop, List.length_take]; omega), List.drop_take, List.take_take]
          congr 1
          omega
        · have h2 : i * d.sz + d.sz ≤ m * d.sz := by rw [← Nat.succ_mul]; exact Nat.mul_le_mul_right _ hgt
          have hlen : (cs.take (i * d.sz) ++ cx).length = i * d.sz + d.sz := by rw [List.length_append, List.length_take, hl]; omega
          rw [List.drop_append, List.drop_eq_nil_of_le (by rw [hlen]; exact h2), List.nil_append, hlen, List.drop_drop, hl]
          congr 2
          omega
      rw [e]
      exact h.2 m p hm
/-- A row of one's own whose elements are told is a slice that is read. -/
theorem sl_of_row {base e m : Nat} {v : Value} (hr : w.ownsRow base e d.sz v m cs) (h : Reps d w ok xs cs) (hm : xs.length = m) (hb : ∀ k, v.ownBlock = some k → ok k) : ∃ A c, v = .slice A xs.length c ∧ Sl d w ok A c xs := by
  subst hm
  rcases hr.2 with ⟨rfl, h0⟩ | ⟨g, cap, cur, rfl, hbb, hg, hnc, hcm, hcs, htake⟩
  · have : xs = [] := List.eq_nil_of_length_eq_zero h0
    subst this
    exact ⟨none, 0, rfl, Sl.nil d w ok none (by omega)⟩
  · refine ⟨_, cap, rfl, hnc, by simpa [maxLen] using hcm, fun j x hj => ⟨g, 0, _, rfl, hb g rfl, h.2 j x hj, ?_⟩⟩
    have h1 := row_cells hr (j * d.sz)
    rw [Nat.zero_add]
    intro i u hu
    rw [List.getElem?_take] at hu
    split at hu
    · exact h1 i u hu
    · cases hu
end
theorem sl_of_pt {α : Type} {d : Kd α} {w : World} {ok : Nat → Prop} {xs : List α} {cs : List Value} {b e : Nat} (h : w.heap[b]? = some (.cells cs.toArray e (0, 0))) (hR : Reps d w ok xs cs) (hb : ok b) (hl : xs.length ≤ 9223372036854775807) : Sl d w ok (some ⟨b, 0, none⟩) xs.length xs := by
  refine ⟨Nat.le_refl _, hl, fun j x hj => ⟨b, 0, _, rfl, hb, hR.2 j x hj, ?_⟩⟩
  have h1 := heap_cells h (j * d.sz)
  rw [Nat.zero_add]
  intro i u hu
  rw [List.getElem?_take] at hu
  split at hu
  · exact h1 i u hu
  · cases hu
namespace Kd
def int : Kd Int where
  sz := 1
  K := fun _ _ x cs => cs = [.int .i64 x]
  len := fun h => by rw [h]; rfl
  one := fun h u hu => by rw [h] at hu; rw [List.mem_singleton.1 hu]; rfl
  move := fun _ h => h
  mono := fun _ h => h
def bool : Kd Bool where
  sz := 1
  K := fun _ _ x cs => cs = [.bool x]
  len := fun h => by rw [h]; rfl
  one := fun h u hu => by rw [h] at hu; rw [List.mem_singleton.1 hu]; rfl
  move := fun _ h => h
  mono := fun _ h => h
def u8 : Kd Int where
  sz := 1
  K := fun _ _ x cs => cs = [.int .u8 x] ∧ 0 ≤ x ∧ x < 256
  len := fun h => by rw [h.1]; rfl
  one := fun h u hu => by rw [h.1] at hu; rw [List.mem_singleton.1 hu]; rfl
  move := fun _ h => h
  mono := fun _ h => h
def slice {α : Type} (d : Kd α) (hz : 0 < d.sz) : Kd (List α) where
  sz := 1
  K := fun w ok xs cs => ∃ A c, cs = [.slice A xs.length c] ∧ Sl d w ok A c xs
  len := by rintro w ok x cs ⟨A, c, rfl, _⟩; rfl
  one := by
    rintro w ok x cs ⟨A, c, rfl, _⟩ u hu
    rw [List.mem_singleton.1 hu]
    rfl
  move := by rintro w w1 ok x cs hm ⟨A, c, rfl, h⟩; exact ⟨A, c, rfl, h.move hm⟩
  mono := by rintro w ok ok' x cs hi ⟨A, c, rfl, h⟩; exact ⟨A, c, rfl, h.mono hi hz⟩
end Kd
theorem reps_int (w : World) (ok : Nat → Prop) (xs : List Int) : Reps Kd.int w ok xs (xs.map fun x => .int .i64 x) := by
  refine ⟨by simp [Kd.int], fun j x hj => ?_⟩
  obtain ⟨hl, rfl⟩ := List.getElem?_eq_some_iff.1 hj
  simp only [Kd.int, Nat.mul_one]
  rw [List.drop_eq_getElem_cons (by simpa using hl)]
  simp
theorem reps_int_eq {w : World} {ok : Nat → Prop} {xs : List Int} {cs : List Value} (h : Reps Kd.int w ok xs cs) : cs = xs.map fun x => .int .i64 x := by
  have hl : cs.length = xs.length := by simpa [Kd.int] using h.1
  apply List.ext_getElem?
  intro j
  rcases Nat.lt_or_ge j xs.length with hj | hj
  · have h2 := h.2 j _ (List.getElem?_eq_getElem hj)
    simp only [Kd.int, Nat.mul_one] at h2
    rw [List.drop_eq_getElem_cons (by omega), List.take_succ_cons] at h2
    injection h2 with h2 _
    simp [List.getElem?_eq_getElem hj, List.getElem?_eq_getElem (show j < cs.length by omega), h2]
  · rw [List.getElem?_eq_none (by omega), List.getElem?_eq_none (by simpa using hj)]
end Go.Proofs.Ytfhghnhgcdiknaa
