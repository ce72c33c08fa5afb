/- What bounded bulk gives. -/
import Derived.Test.YtfhghnhgcdiknaaReadsB
import Derived.Test.YtfhghnhgcdiknaaWzc
set_option linter.unusedVariables false
namespace Go.Proofs.Ytfhghnhgcdiknaa
open Go.RowKit
theorem small_of {ps : List TPart} (h : ps.length ≤ 1048576 ∧ ∀ p ∈ ps, bd_part 1048576 p) : ∀ p, p ∈ ps → PartSmall p := by
  intro p hp
  obtain ⟨h3, _, h4, _, h5, k5, h6, k6, h7, k7, h8, k8, h9, _, h10, k10, h12, _, h14, _⟩ := h.2 p hp
  refine ⟨by omega, by omega, by omega, by omega, by omega, by omega, by omega, by omega, by omega, by omega, ?_, ?_, ?_, ?_, ?_⟩
  · intro x hx; have := (k5 x hx).1; omega
  · intro x hx; obtain ⟨a, _, b, _⟩ := k6 x hx; exact ⟨by omega, by omega⟩
  · intro x hx; have := (k7 x hx).1; omega
  · intro x hx; have := (k8 x hx).1; omega
  · intro x hx; have := (k10 x hx).1; omega
end Go.Proofs.Ytfhghnhgcdiknaa
