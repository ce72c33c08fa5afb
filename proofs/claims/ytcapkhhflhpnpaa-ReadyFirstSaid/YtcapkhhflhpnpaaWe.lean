/- Who is found: plain. -/
import Derived.Test.YtcapkhhflhpnpaaWd
namespace Go.Proofs.Ytcapkhhflhpnpaa
open Go.RowKit
def toldOf (n : Nat) (out : List Nat) : List Bool := (List.range n).map fun i => decide (i ∈ out)
theorem toldOf_get {n i : Nat} {out : List Nat} (h : i < n) : (toldOf n out)[i]? = some (decide (i ∈ out)) := by simp [toldOf, h]
theorem toldOf_nil (n : Nat) : toldOf n [] = List.replicate n false := by
  apply List.ext_getElem?
  intro i
  by_cases h : i < n
  · simp [toldOf, h]
  · simp [toldOf, h]
theorem toldOf_snoc {n j : Nat} {out : List Nat} : (toldOf n out).set j true = toldOf n (out ++ [j]) := by
  apply List.ext_getElem?
  intro i
  by_cases h : i < n
  · by_cases e : j = i
    · subst e; simp [toldOf, h]
    · rw [List.getElem?_set_ne e, toldOf_get h, toldOf_get h]
      have : ¬ i = j := fun e2 => e e2.symm
      simp [this]
  · by_cases e : j = i
    · subst e; simp [toldOf, h]
    · rw [List.getElem?_set_ne e]; simp [toldOf, h]
theorem mostN_lt {n i : Nat} {mode : Int} (h : i < n) : i < mostN n mode ↔ (mode = 2 ∨ mode = 1 ∧ i = 0) := by
  unfold mostN
  by_cases h2 : mode = 2
  · simp [h2, h]
  · by_cases h1 : mode = 1
    · simp [h1]; omega
    · simp [h1, h2]
theorem could_cand {xs : List TProc} {mode : Int} {i : Nat} (h : i < xs.length) : couldB xs[i] i mode = true ↔ i ∈ candN xs (mostN xs.length mode) := by
  simp only [candN, List.mem_filter, List.mem_range, mostN_lt h, readyB_at h, couldB, Bool.and_eq_true, Bool.or_eq_true, beq_iff_eq, Bool.not_eq_true']
  constructor
  · rintro ⟨⟨a, b⟩, c | ⟨c, d⟩⟩
    · exact ⟨.inl c, a, b⟩
    · exact ⟨.inr ⟨c, by omega⟩, a, b⟩
  · rintro ⟨c | ⟨c, d⟩, a, b⟩
    · exact ⟨⟨a, b⟩, .inl c⟩
    · exact ⟨⟨a, b⟩, .inr ⟨c, by omega⟩⟩
theorem ordL_mem {xs : List TProc} {mode : Int} {i : Nat} : i ∈ ordL xs mode ↔ i ∈ candN xs (mostN xs.length mode) := by simp [ordL, List.mem_mergeSort]
theorem ordL_lt {xs : List TProc} {mode : Int} {i : Nat} (h : i ∈ ordL xs mode) : i < xs.length := Nat.lt_of_lt_of_le (candN_mem (ordL_mem.1 h)) (mostN_le _ _)
theorem ordL_sorted (xs : List TProc) (mode : Int) : (ordL xs mode).Pairwise (fun i j => aheadB xs j i = false) := by
  have h := List.pairwise_mergeSort (le := fun i j => !aheadB xs j i) (fun a b c h1 h2 => ?_) (fun a b => ?_) (candN xs (mostN xs.length mode))
  · exact h.imp (fun h => by simpa using h)
  · simp only [Bool.not_eq_true'] at h1 h2 ⊢
    by_cases hcb : c = b
    · subst hcb; exact h1
    cases h3 : aheadB xs c a with
    | false => rfl
    | true => exact absurd (ahead_trans (ahead_tot hcb h2) h3) (by simp [h1])
  · by_cases e : a = b
    · subst e; simp [ahead_irrefl]
    · cases h : aheadB xs b a with
      | false => simp
      | true =>
        simp only [Bool.not_true, Bool.false_or, Bool.not_eq_true']
        cases h2 : aheadB xs a b with
        | false => rfl
        | true => have := ahead_trans h h2; rw [ahead_irrefl] at this; cases this
theorem ordL_nodup (xs : List TProc) (mode : Int) : (ordL xs mode).Nodup := (List.mergeSort_perm _ _).nodup_iff.2 (candN_nodup _ _)
/-- Out is the order's beginning: what has been found is next. -/
theorem next_found {xs : List TProc} {mode : Int} {out rest : List Nat} {j : Nat} (hS : ordL xs mode = out ++ rest) (hb : Best xs mode (toldOf xs.length out) xs.length (j : Int)) : ∃ r, rest = j :: r := by
  rcases hb with ⟨h, _⟩ | ⟨j', hj', hj, hjx, h1, h2, h3⟩
  · omega
  · have : j' = j := by omega
    subst this
    rw [toldOf_get hjx] at h2
    have hnot : j' ∉ out := by simpa using h2
    have hmem : j' ∈ ordL xs mode := ordL_mem.2 ((could_cand hjx).1 h1)
    rw [hS] at hmem
    have hr : j' ∈ rest := (List.mem_append.1 hmem).resolve_left hnot
    cases rest with
    | nil => cases hr
    | cons a r =>
      refine ⟨r, ?_⟩
      rcases List.mem_cons.1 hr with rfl | hr'
      · rfl
      · have ha : a ∈ ordL xs mode := by rw [hS]; simp
        have hax := ordL_lt ha
        have hnd := ordL_nodup xs mode
        rw [hS] at hnd
        have hao : a ∉ out := fun h => (List.nodup_append.1 hnd).2.2 a h a (by simp) rfl
        rcases h3 a hax hax ((could_cand hax).2 (ordL_mem.1 ha)) (by rw [toldOf_get hax]; simpa using hao) with e | e
        · rw [e]
        · have hs := ordL_sorted xs mode
          rw [hS] at hs
          have := (List.pairwise_cons.1 (List.pairwise_append.1 hs).2.1).1 j' hr'
          rw [this] at e
          cases e
theorem none_found {xs : List TProc} {mode : Int} {out rest : List Nat} (hS : ordL xs mode = out ++ rest) {b : Int} (hb : Best xs mode (toldOf xs.length out) xs.length b) (hneg : b < 0) : rest = [] := by
  rcases hb with ⟨_, h⟩ | ⟨j, rfl, _⟩
  · cases rest with
    | nil => rfl
    | cons a r =>
      have ha : a ∈ ordL xs mode := by rw [hS]; simp
      have hax := ordL_lt ha
      have h1 := h a hax hax ((could_cand hax).2 (ordL_mem.1 ha))
      rw [toldOf_get hax] at h1
      have hao : a ∈ out := by simpa using h1
      have hnd := ordL_nodup xs mode
      rw [hS] at hnd
      exact absurd rfl ((List.nodup_append.1 hnd).2.2 a hao a (by simp))
  · omega

end Go.Proofs.Ytcapkhhflhpnpaa
