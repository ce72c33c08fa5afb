/- Stores into the queues of partitions of one's own. -/
import Derived.Test.YtfhghnhgcdiknaaWj
set_option linter.unusedVariables false
namespace Go.Proofs.Ytfhghnhgcdiknaa
open Go.RowKit
/-- Partitions of one's own, and something more that is known. -/
def OPsX (xs : List OP) (vA : Value) (F : Nat → Prop) (ψ : World → Prop) : List Res := .row 0 48 15 vA xs.length (xs.flatMap (·.cs)) :: .ro F (fun w' => (∀ x, x ∈ xs → OP.ok w' F x) ∧ ψ w') :: xs.flatMap OP.rows
theorem ops_join {w0 w : World} {xs : List OP} {vA : Value} {F Fq : Nat → Prop} {φ : World → Prop} (hs : St 0 w0 w (.ro Fq φ :: OPs xs vA F)) : St 0 w0 w (OPsX xs vA (fun b => Fq b ∨ F b) φ) := by
  have h1 : St 0 w0 w (.ro Fq φ :: .ro F (fun w' => ∀ x, x ∈ xs → OP.ok w' F x) :: .row 0 48 15 vA xs.length (xs.flatMap (·.cs)) :: xs.flatMap OP.rows) := hs.perm ((List.Perm.swap _ _ _).cons _)
  exact (h1.join (fun w' => (∀ x, x ∈ xs → OP.ok w' (fun b => Fq b ∨ F b) x) ∧ φ w') (fun w' h2 h3 => ⟨fun x hx => OP.ok_mono (h3 x hx) (fun k hk => .inr hk), h2⟩)).swap
theorem ops_drop {w0 w : World} {xs : List OP} {R : List Res} {vA : Value} {F : Nat → Prop} {ψ : World → Prop} (hs : St 0 w0 w (R ++ OPsX xs vA F ψ)) : St 0 w0 w (R ++ OPs xs vA F) := by
  have h2 : St 0 w0 w ((R ++ [.row 0 48 15 vA xs.length (xs.flatMap (·.cs))]) ++ .ro F (fun w' => (∀ x, x ∈ xs → OP.ok w' F x) ∧ ψ w') :: xs.flatMap OP.rows) := by
    rw [List.append_assoc]; exact hs
  have h3 := h2.at_ro (ψ := fun w' => ∀ x, x ∈ xs → OP.ok w' F x) (fun w' h => h.1)
  rw [List.append_assoc] at h3
  exact h3
theorem opsX_ok {w0 w : World} {xs : List OP} {R : List Res} {vA : Value} {F : Nat → Prop} {ψ : World → Prop} (hs : St 0 w0 w (R ++ OPsX xs vA F ψ)) : (∀ x, x ∈ xs → OP.ok w F x) ∧ ψ w := hs.get (r := .ro F (fun w' => (∀ x, x ∈ xs → OP.ok w' F x) ∧ ψ w')) (List.mem_append_right _ (List.mem_cons_of_mem _ List.mem_cons_self))
section
variable {n : Nat} {K : Slots → World → Prop} {L : Slots} {w0 w : World} {all : Array Oper} {l : List Oper} {ty : Nat} {pos : String} {af : Array Edge}
theorem l_putQ {x y : Operand} {xs : List OP} {z : OP} {R : List Res} {vA : Value} {F : Nat → Prop} {ψ : World → Prop} {j a g c : Nat} {q : TQueue} {cq : List Value} (hx : ev L x = some (.pointer (some ⟨g, 0 + a * 3, none⟩))) (hy : ev L y = some (.agg cq.toArray))
    (hs : St 0 w0 w (R ++ OPsX xs vA F ψ)) (hq : ∀ w', ψ w' → Kd.queue.K w' F q cq) (hz : xs[j]? = some z) (hv : z.vQ = .slice (some ⟨g, 0, none⟩) z.p.Queues.length c) (ha : a < z.p.Queues.length)
    (k : ∀ w1, St 0 w0 w1 (R ++ OPsX (xs.set j (z.putQ a q cq)) vA F ψ) → Wl Try.prog n all l K L w1) : Wl Try.prog n all (⟨none, .store 52 x y, ty, pos, af, none⟩ :: l) K L w := by
  have hall := opsX_ok hs
  have hok := hall.1 z (List.mem_of_getElem? hz)
  have hq1 := queue_one (hq w hall.2)
  have hlen : z.csQ.length = z.p.Queues.length * 3 := by
    obtain ⟨⟨A3, c3, A4, c4, A5, c5, A6, c6, A7, c7, A8, c8, A12, c12, A14, c14, h, h3, h4, h5, h6, h7, h8, h12, h14, hR⟩, hS⟩ := hok
    exact hR.1
  have hfit : a * 3 + 3 ≤ z.csQ.length := by rw [hlen, ← Nat.succ_mul]; exact Nat.mul_le_mul_right _ ha
  have hr : Repl (.row 0 52 3 (.slice (some ⟨g, 0, none⟩) z.p.Queues.length c) z.p.Queues.length z.csQ) (.row 0 52 3 (.slice (some ⟨g, 0, none⟩) z.p.Queues.length c) z.p.Queues.length (z.csQ.take (a * 3) ++ cq ++ z.csQ.drop (a * 3 + 3))) (xs.flatMap OP.rows) ((xs.set j (z.putQ a q cq)).flatMap OP.rows) := by
    have h1 := repl_Q (x' := z.putQ a q cq) hz rfl
    have e1 : z.rowQ = .row 0 52 3 (.slice (some ⟨g, 0, none⟩) z.p.Queues.length c) z.p.Queues.length z.csQ := by rw [← hv]; rfl
    have e2 : (z.putQ a q cq).rowQ = .row 0 52 3 (.slice (some ⟨g, 0, none⟩) z.p.Queues.length c) z.p.Queues.length (z.csQ.take (a * 3) ++ cq ++ z.csQ.drop (a * 3 + 3)) := by
      rw [← hv]
      simp [OP.rowQ, OP.putQ]
    rw [e1, e2] at h1
    exact h1
  refine l_storeR (vs := cq) hx hy rfl (by rw [hq1.1]; exact sz52) hq1.2 (Nat.zero_le _) hs (repl_append (.there (.there hr))) (by rw [hq1.1]; omega) (by rw [Nat.zero_add, hq1.1]) (fun w1 _ _ hs1 => k w1 ?_)
  have h2 : St 0 w0 w1 ((R ++ [.row 0 48 15 vA xs.length (xs.flatMap (·.cs))]) ++ .ro F (fun w' => (∀ x, x ∈ xs → OP.ok w' F x) ∧ ψ w') :: (xs.set j (z.putQ a q cq)).flatMap OP.rows) := by
    rw [List.append_assoc]; exact hs1
  have h3 := h2.at_ro (ψ := fun w' => (∀ x, x ∈ xs.set j (z.putQ a q cq) → OP.ok w' F x) ∧ ψ w') (fun w' h => ⟨fun y hy => by
    rcases mem_set hy with rfl | hy
    · exact OP.ok_putQ (h.1 z (List.mem_of_getElem? hz)) ha (hq w' h.2)
    · exact h.1 y hy, h.2⟩)
  rw [List.append_assoc] at h3
  unfold OPsX
  rw [flat_set (x' := z.putQ a q cq) hz rfl, List.length_set]
  exact h3
end
end Go.Proofs.Ytfhghnhgcdiknaa
