/- One partition more of one's own; what the channels bring, as a plain law. -/
import Derived.Test.YtfhghnhgcdiknaaWm
set_option linter.unusedVariables false
namespace Go.Proofs.Ytfhghnhgcdiknaa
open Go.RowKit
theorem ops_nil {w0 w : World} (hs : St 0 w0 w []) : St 0 w0 w (OPs [] (.slice none 0 0) (fun _ => False)) := ((hs.nil_row 0 48 15).ro0 _ (fun w' x hx => by cases hx))
theorem ops_snoc {w0 w w1 : World} {xs : List OP} {x : OP} {v' : Value} {F F2 F1 : Nat → Prop} (hR : Reps Kd.sample w1 F1 x.p.Samples x.csS)
    (hs : St 0 w0 w (x.rowS :: x.rowQ :: .ro F2 (fun w' => OwnPart w' F2 x.p x.cs x.vS x.vQ x.csQ) :: .row 0 48 15 v' (xs.length + 1) (xs.flatMap (·.cs) ++ x.cs) :: .ro F (fun w' => ∀ x, x ∈ xs → OP.ok w' F x) :: xs.flatMap OP.rows)) :
    St 0 w0 w (OPs (xs ++ [x]) v' (fun b => F2 b ∨ F b)) := by
  have h1 : St 0 w0 w (.ro F2 (fun w' => OwnPart w' F2 x.p x.cs x.vS x.vQ x.csQ) :: .ro F (fun w' => ∀ x, x ∈ xs → OP.ok w' F x) :: .row 0 48 15 v' (xs.length + 1) (xs.flatMap (·.cs) ++ x.cs) :: (xs.flatMap OP.rows ++ [x.rowS, x.rowQ])) :=
    hs.perm ((List.perm_append_comm (l₁ := [x.rowS, x.rowQ])).trans ((List.Perm.swap _ _ _).cons _))
  have h2 := (h1.join (fun w' => ∀ y, y ∈ xs ++ [x] → OP.ok w' (fun b => F2 b ∨ F b) y) (fun w' h3 h4 y hy => by
    rcases List.mem_append.1 hy with hy | hy
    · exact OP.ok_mono (h4 y hy) (fun k hk => .inr hk)
    · rw [List.mem_singleton.1 hy]
      exact OP.ok_mono (F := F2) ⟨h3, rep_any hR⟩ (fun k hk => .inl hk))).swap
  unfold OPs
  simp only [List.flatMap_append, List.flatMap_cons, List.flatMap_nil, List.append_nil, List.length_append, List.length_cons, List.length_nil]
  exact h2
theorem ops_box0 {w0 w : World} {r : Res} (hs : St 0 w0 w [r]) : St 0 w0 w (r :: OPs [] (.slice none 0 0) (fun _ => False)) := by
  have h1 := hs.nil_row 0 48 15
  have h2 := h1.pure_ (fun w' => ∀ x, x ∈ ([] : List OP) → OP.ok w' (fun _ => False) x) (fun w' _ x hx => by cases hx)
  exact h2.perm ((List.Perm.swap _ _ _).trans (((List.Perm.swap _ _ _).cons _).trans (List.Perm.swap _ _ _)))
theorem ops_box {w0 w w1 : World} {xs : List OP} {x : OP} {r : Res} {v' : Value} {F F2 F1 : Nat → Prop} (hR : Reps Kd.sample w1 F1 x.p.Samples x.csS)
    (hs : St 0 w0 w (r :: x.rowS :: x.rowQ :: .ro F2 (fun w' => OwnPart w' F2 x.p x.cs x.vS x.vQ x.csQ) :: .row 0 48 15 v' (xs.length + 1) (xs.flatMap (·.cs) ++ x.cs) :: .ro F (fun w' => ∀ x, x ∈ xs → OP.ok w' F x) :: xs.flatMap OP.rows)) :
    St 0 w0 w (r :: OPs (xs ++ [x]) v' (fun b => F2 b ∨ F b)) := by
  have h1 : St 0 w0 w (.ro F2 (fun w' => OwnPart w' F2 x.p x.cs x.vS x.vQ x.csQ) :: .ro F (fun w' => ∀ x, x ∈ xs → OP.ok w' F x) :: r :: .row 0 48 15 v' (xs.length + 1) (xs.flatMap (·.cs) ++ x.cs) :: (xs.flatMap OP.rows ++ [x.rowS, x.rowQ])) :=
    hs.perm (((List.perm_append_comm (l₁ := [x.rowS, x.rowQ])).cons _).trans ((List.Perm.swap _ _ _).trans ((((List.Perm.swap _ _ _).cons _).trans (List.Perm.swap _ _ _)).cons _)))
  have h2 := (h1.join (fun w' => ∀ y, y ∈ xs ++ [x] → OP.ok w' (fun b => F2 b ∨ F b) y) (fun w' h3 h4 y hy => by
    rcases List.mem_append.1 hy with hy | hy
    · exact OP.ok_mono (h4 y hy) (fun k hk => .inr hk)
    · rw [List.mem_singleton.1 hy]
      exact OP.ok_mono (F := F2) ⟨h3, rep_any hR⟩ (fun k hk => .inl hk))).perm ((List.Perm.swap _ _ _).trans ((List.Perm.swap _ _ _).cons _))
  unfold OPs
  simp only [List.flatMap_append, List.flatMap_cons, List.flatMap_nil, List.append_nil, List.length_append, List.length_cons, List.length_nil]
  exact h2
/-- What one channel brings. -/
def stepL (ps : List TPart) (x : TChannel) : List TPart :=
  if 0 ≤ x.From ∧ x.From < ps.length ∧ 0 ≤ x.To ∧ x.To < ps.length then
    match ps[x.From.toNat]?, ps[x.To.toNat]? with
    | some p, some q =>
      if x.Queuing then
        match (if 0 ≤ x.A then p.Queues[x.A.toNat]? else none), (if 0 ≤ x.B then q.Queues[x.B.toNat]? else none) with
        | some a, some b =>
          let m := moveQ a.Values b.Values b.Depth
          let b' := { b with Values := m.2 }
          putQP (putQP ps x.From.toNat x.A.toNat (if x.From = x.To ∧ x.A = x.B then b' else { a with Values := m.1 })) x.To.toNat x.B.toNat b'
        | _, _ => ps
      else
        match (if 0 ≤ x.A then p.Samples[x.A.toNat]? else none), (if 0 ≤ x.B then q.Samples[x.B.toNat]? else none) with
        | some a, some b => putSP ps x.To.toNat x.B.toNat (carryL a b)
        | _, _ => ps
    | _, _ => ps
  else ps
def moveL (c : TConfig) (ps : List TPart) : List TPart := c.Channels.foldl stepL ps
end Go.Proofs.Ytfhghnhgcdiknaa
