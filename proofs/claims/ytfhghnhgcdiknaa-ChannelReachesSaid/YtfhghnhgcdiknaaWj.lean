/- Stores into the ports of partitions of one's own. -/
import Derived.Test.YtfhghnhgcdiknaaWi
set_option linter.unusedVariables false
namespace Go.Proofs.Ytfhghnhgcdiknaa
open Go.RowKit
theorem St.at_ro {G : Nat} {w0 w : World} {A B : List Res} {F : Nat → Prop} {φ ψ : World → Prop} (h : St G w0 w (A ++ .ro F φ :: B)) (hi : ∀ w', φ w' → ψ w') : St G w0 w (A ++ .ro F ψ :: B) :=
  ((h.perm List.perm_middle).hide ψ hi).perm List.perm_middle.symm
theorem mem_S {xs : List OP} {i : Nat} {x : OP} (hx : xs[i]? = some x) (R : List Res) (vA : Value) (F : Nat → Prop) : x.rowS ∈ R ++ OPs xs vA F :=
  List.mem_append_right _ (List.mem_cons_of_mem _ (List.mem_cons_of_mem _ (List.mem_flatMap.2 ⟨x, List.mem_of_getElem? hx, by simp [OP.rows]⟩)))
theorem mem_Q {xs : List OP} {i : Nat} {x : OP} (hx : xs[i]? = some x) (R : List Res) (vA : Value) (F : Nat → Prop) : x.rowQ ∈ R ++ OPs xs vA F :=
  List.mem_append_right _ (List.mem_cons_of_mem _ (List.mem_cons_of_mem _ (List.mem_flatMap.2 ⟨x, List.mem_of_getElem? hx, by simp [OP.rows]⟩)))
theorem mem_ro {xs : List OP} (R : List Res) (vA : Value) (F : Nat → Prop) : Res.ro F (fun w' => ∀ x, x ∈ xs → OP.ok w' F x) ∈ R ++ OPs xs vA F := List.mem_append_right _ (List.mem_cons_of_mem _ List.mem_cons_self)
theorem ops_ok {w0 w : World} {xs : List OP} {R : List Res} {vA : Value} {F : Nat → Prop} (hs : St 0 w0 w (R ++ OPs xs vA F)) : ∀ x, x ∈ xs → OP.ok w F x := hs.get (mem_ro R vA F)
theorem elem_cells {w : World} {base e n c g sz : Nat} {cs l : List Value} (h : w.ownsRow base e sz (.slice (some ⟨g, 0, none⟩) n c) n cs) {o : Nat} (hl : (cs.drop o).take sz = l) : Cells w g (0 + o) l := by
  intro j u hu
  have h1 := row_cells h o
  rw [Nat.zero_add]
  refine h1 j u ?_
  subst hl
  rw [List.getElem?_take] at hu
  split at hu
  · exact hu
  · cases hu
section
variable {n : Nat} {K : Slots → World → Prop} {L : Slots} {w0 w : World} {all : Array Oper} {l : List Oper} {ty : Nat} {pos : String} {af : Array Edge}
theorem l_putS {x y : Operand} {xs : List OP} {z : OP} {R : List Res} {vA : Value} {F : Nat → Prop} {j a g c : Nat} {s : TSample} (hx : ev L x = some (.pointer (some ⟨g, 0 + a * 3, none⟩))) (hy : ev L y = some (.agg (sampCells s).toArray))
    (hs : St 0 w0 w (R ++ OPs xs vA F)) (hz : xs[j]? = some z) (hv : z.vS = .slice (some ⟨g, 0, none⟩) z.p.Samples.length c) (ha : a < z.p.Samples.length)
    (k : ∀ w1, St 0 w0 w1 (R ++ OPs (xs.set j (z.putS a s (sampCells s))) vA F) → Wl Try.prog n all l K L w1) : Wl Try.prog n all (⟨none, .store 56 x y, ty, pos, af, none⟩ :: l) K L w := by
  have hok := ops_ok hs z (List.mem_of_getElem? hz)
  have hlen : z.csS.length = z.p.Samples.length * 3 := hok.2.1
  have hfit : a * 3 + 3 ≤ z.csS.length := by rw [hlen, ← Nat.succ_mul]; exact Nat.mul_le_mul_right _ ha
  have hr : Repl (.row 0 56 3 (.slice (some ⟨g, 0, none⟩) z.p.Samples.length c) z.p.Samples.length z.csS) (.row 0 56 3 (.slice (some ⟨g, 0, none⟩) z.p.Samples.length c) z.p.Samples.length (z.csS.take (a * 3) ++ sampCells s ++ z.csS.drop (a * 3 + 3))) (xs.flatMap OP.rows) ((xs.set j (z.putS a s (sampCells s))).flatMap OP.rows) := by
    have h1 := repl_S (x' := z.putS a s (sampCells s)) hz rfl
    have e1 : z.rowS = .row 0 56 3 (.slice (some ⟨g, 0, none⟩) z.p.Samples.length c) z.p.Samples.length z.csS := by rw [← hv]; rfl
    have e2 : (z.putS a s (sampCells s)).rowS = .row 0 56 3 (.slice (some ⟨g, 0, none⟩) z.p.Samples.length c) z.p.Samples.length (z.csS.take (a * 3) ++ sampCells s ++ z.csS.drop (a * 3 + 3)) := by
      rw [← hv]
      simp [OP.rowS, OP.putS]
    rw [e1, e2] at h1
    exact h1
  refine l_storeR (vs := sampCells s) hx hy rfl sz56 (fun u hu => by
    simp only [sampCells, List.mem_cons, List.not_mem_nil, or_false] at hu
    rcases hu with rfl | rfl | rfl <;> rfl) (Nat.zero_le _) hs (repl_append (.there (.there hr))) (by simp only [sampCells, List.length_cons, List.length_nil]; omega) (by rw [Nat.zero_add]; rfl) (fun w1 _ _ hs1 => k w1 ?_)
  have h2 : St 0 w0 w1 ((R ++ [.row 0 48 15 vA xs.length (xs.flatMap (·.cs))]) ++ .ro F (fun w' => ∀ x, x ∈ xs → OP.ok w' F x) :: (xs.set j (z.putS a s (sampCells s))).flatMap OP.rows) := by
    rw [List.append_assoc]; exact hs1
  have h3 := h2.at_ro (ψ := fun w' => ∀ x, x ∈ xs.set j (z.putS a s (sampCells s)) → OP.ok w' F x) (fun w' h y hy => by
    rcases mem_set hy with rfl | hy
    · exact OP.ok_putS (h z (List.mem_of_getElem? hz)) ha rfl
    · exact h y hy)
  rw [List.append_assoc] at h3
  unfold OPs
  rw [flat_set (x' := z.putS a s (sampCells s)) hz rfl, List.length_set]
  exact h3
end
end Go.Proofs.Ytfhghnhgcdiknaa
