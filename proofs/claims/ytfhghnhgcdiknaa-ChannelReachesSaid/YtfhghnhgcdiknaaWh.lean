/- A list of partitions of one's own: the resources, and what a store into one of their queues or samples makes of them. -/
import Derived.Test.YtfhghnhgcdiknaaWg
set_option linter.unusedVariables false
namespace Go.Proofs.Ytfhghnhgcdiknaa
open Go.RowKit
structure OP where
  p : TPart
  cs : List Value
  vS : Value
  vQ : Value
  csS : List Value
  csQ : List Value
def OP.rowS (x : OP) : Res := .row 0 56 3 x.vS x.p.Samples.length x.csS
def OP.rowQ (x : OP) : Res := .row 0 52 3 x.vQ x.p.Queues.length x.csQ
def OP.rows (x : OP) : List Res := [x.rowS, x.rowQ]
def OP.ok (w : World) (F : Nat → Prop) (x : OP) : Prop := OwnPart w F x.p x.cs x.vS x.vQ x.csQ ∧ Reps Kd.sample w F x.p.Samples x.csS
/-- Partitions of one's own, vA the slice that holds them. -/
def OPs (xs : List OP) (vA : Value) (F : Nat → Prop) : List Res := .row 0 48 15 vA xs.length (xs.flatMap (·.cs)) :: .ro F (fun w' => ∀ x, x ∈ xs → OP.ok w' F x) :: xs.flatMap OP.rows
theorem OP.ok_len {w : World} {F : Nat → Prop} {x : OP} (h : OP.ok w F x) : x.cs.length = 15 := by
  obtain ⟨⟨A3, c3, A4, c4, A5, c5, A6, c6, A7, c7, A8, c8, A12, c12, A14, c14, h, _⟩, _⟩ := h
  rw [h]; rfl
theorem OP.ok_S {w : World} {F : Nat → Prop} {x : OP} (h : OP.ok w F x) : x.cs[9]? = some x.vS := by
  obtain ⟨⟨A3, c3, A4, c4, A5, c5, A6, c6, A7, c7, A8, c8, A12, c12, A14, c14, h, _⟩, _⟩ := h
  rw [h]; rfl
theorem OP.ok_Q {w : World} {F : Nat → Prop} {x : OP} (h : OP.ok w F x) : x.cs[10]? = some x.vQ := by
  obtain ⟨⟨A3, c3, A4, c4, A5, c5, A6, c6, A7, c7, A8, c8, A12, c12, A14, c14, h, _⟩, _⟩ := h
  rw [h]; rfl
theorem flat_get {xs : List OP} (hl : ∀ x, x ∈ xs → x.cs.length = 15) {i j : Nat} {x : OP} (hx : xs[i]? = some x) (hj : j < 15) : (xs.flatMap (·.cs))[i * 15 + j]? = x.cs[j]? := by
  induction xs generalizing i with
  | nil => simp at hx
  | cons y xs ih =>
    have hy := hl y List.mem_cons_self
    rw [List.flatMap_cons]
    cases i with
    | zero =>
      simp at hx
      subst hx
      rw [Nat.zero_mul, Nat.zero_add, List.getElem?_append_left (by omega)]
    | succ i =>
      rw [List.getElem?_append_right (by rw [hy]; omega), hy, show (i + 1) * 15 + j - 15 = i * 15 + j by omega]
      exact ih (fun z hz => hl z (List.mem_cons_of_mem _ hz)) (by simpa using hx)
theorem flat_len {xs : List OP} (hl : ∀ x, x ∈ xs → x.cs.length = 15) : (xs.flatMap (·.cs)).length = xs.length * 15 := by
  induction xs with
  | nil => rfl
  | cons y xs ih =>
    rw [List.flatMap_cons, List.length_append, hl y List.mem_cons_self, ih (fun z hz => hl z (List.mem_cons_of_mem _ hz)), List.length_cons]
    omega
theorem repl_append {r r' : Res} {A H H' : List Res} (h : Repl r r' H H') : Repl r r' (A ++ H) (A ++ H') := by
  induction A with
  | nil => exact h
  | cons a A ih => exact .there ih
theorem repl_Q {xs : List OP} {i : Nat} {x x' : OP} (hx : xs[i]? = some x) (hS : x'.rowS = x.rowS) : Repl x.rowQ x'.rowQ (xs.flatMap OP.rows) ((xs.set i x').flatMap OP.rows) := by
  induction xs generalizing i with
  | nil => simp at hx
  | cons y xs ih =>
    cases i with
    | zero =>
      simp at hx
      subst hx
      simp only [List.set_cons_zero, List.flatMap_cons, OP.rows, hS]
      exact .there .here
    | succ i =>
      simp only [List.set_cons_succ, List.flatMap_cons]
      exact repl_append (ih (by simpa using hx))
theorem repl_S {xs : List OP} {i : Nat} {x x' : OP} (hx : xs[i]? = some x) (hQ : x'.rowQ = x.rowQ) : Repl x.rowS x'.rowS (xs.flatMap OP.rows) ((xs.set i x').flatMap OP.rows) := by
  induction xs generalizing i with
  | nil => simp at hx
  | cons y xs ih =>
    cases i with
    | zero =>
      simp at hx
      subst hx
      simp only [List.set_cons_zero, List.flatMap_cons, OP.rows, hQ]
      exact .here
    | succ i =>
      simp only [List.set_cons_succ, List.flatMap_cons]
      exact repl_append (ih (by simpa using hx))
theorem flat_set {xs : List OP} {i : Nat} {x x' : OP} (hx : xs[i]? = some x) (hc : x'.cs = x.cs) : (xs.set i x').flatMap (·.cs) = xs.flatMap (·.cs) := by
  induction xs generalizing i with
  | nil => simp at hx
  | cons y xs ih =>
    cases i with
    | zero =>
      simp at hx
      subst hx
      simp only [List.set_cons_zero, List.flatMap_cons, hc]
    | succ i =>
      simp only [List.set_cons_succ, List.flatMap_cons]
      rw [ih (by simpa using hx)]
theorem mem_set {xs : List OP} {i : Nat} {x' y : OP} (h : y ∈ xs.set i x') : y = x' ∨ y ∈ xs := by
  rcases List.mem_or_eq_of_mem_set h with h | h
  · exact .inr h
  · exact .inl h
/-- A queue of partition x is q now. -/
def OP.putQ (x : OP) (j : Nat) (q : TQueue) (cq : List Value) : OP := { x with p := { x.p with Queues := x.p.Queues.set j q }, csQ := x.csQ.take (j * 3) ++ cq ++ x.csQ.drop (j * 3 + 3) }
def OP.putS (x : OP) (j : Nat) (s : TSample) (cs : List Value) : OP := { x with p := { x.p with Samples := x.p.Samples.set j s }, csS := x.csS.take (j * 3) ++ cs ++ x.csS.drop (j * 3 + 3) }
theorem OP.ok_mono {w : World} {F F' : Nat → Prop} {x : OP} (h : OP.ok w F x) (hF : ∀ k, F k → F' k) : OP.ok w F' x := by
  obtain ⟨⟨A3, c3, A4, c4, A5, c5, A6, c6, A7, c7, A8, c8, A12, c12, A14, c14, h, h3, h4, h5, h6, h7, h8, h12, h14, hR⟩, hS⟩ := h
  have m : ∀ k, F k → k < w.heap.size → F' k := fun k h _ => hF k h
  exact ⟨⟨A3, c3, A4, c4, A5, c5, A6, c6, A7, c7, A8, c8, A12, c12, A14, c14, h, h3.mono m (by decide), h4.mono m (by decide), h5.mono m (by decide), h6.mono m (by decide), h7.mono m (by decide), h8.mono m (by decide), h12.mono m (by decide), h14.mono m (by decide), hR.mono m⟩, hS.mono m⟩
theorem OP.ok_putQ {w : World} {F : Nat → Prop} {x : OP} (h : OP.ok w F x) {j : Nat} (hj : j < x.p.Queues.length) {q : TQueue} {cq : List Value} (hq : Kd.queue.K w F q cq) : OP.ok w F (x.putQ j q cq) := by
  obtain ⟨⟨A3, c3, A4, c4, A5, c5, A6, c6, A7, c7, A8, c8, A12, c12, A14, c14, h, h3, h4, h5, h6, h7, h8, h12, h14, hR⟩, hS⟩ := h
  have hl := Kd.queue.len hq
  have := hR.set hj hq
  rw [hl] at this
  exact ⟨⟨A3, c3, A4, c4, A5, c5, A6, c6, A7, c7, A8, c8, A12, c12, A14, c14, h, h3, h4, h5, h6, h7, h8, h12, h14, this⟩, hS⟩
theorem OP.ok_putS {w : World} {F : Nat → Prop} {x : OP} (h : OP.ok w F x) {j : Nat} (hj : j < x.p.Samples.length) {s : TSample} {cs : List Value} (hs : Kd.sample.K w F s cs) : OP.ok w F (x.putS j s cs) := by
  obtain ⟨⟨A3, c3, A4, c4, A5, c5, A6, c6, A7, c7, A8, c8, A12, c12, A14, c14, h, h3, h4, h5, h6, h7, h8, h12, h14, hR⟩, hS⟩ := h
  have hl := Kd.sample.len hs
  have := hS.set hj hs
  rw [hl] at this
  exact ⟨⟨A3, c3, A4, c4, A5, c5, A6, c6, A7, c7, A8, c8, A12, c12, A14, c14, h, h3, h4, h5, h6, h7, h8, h12, h14, hR⟩, this⟩
end Go.Proofs.Ytfhghnhgcdiknaa
