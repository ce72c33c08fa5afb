/- Who is found: plain. -/
import Derived.Test.YtcapkhhflhpnpaaWc
namespace Go.Proofs.Ytcapkhhflhpnpaa
open Go.RowKit
/-- Who the document's search has found so far, of the first k. -/
def Best (xs : List TProc) (mode : Int) (told : List Bool) (k : Nat) (b : Int) : Prop :=
  (b = -1 ∧ ∀ i (h : i < xs.length), i < k → couldB xs[i] i mode = true → told[i]? = some true) ∨
  ∃ j : Nat, b = (j : Int) ∧ j < k ∧ ∃ h : j < xs.length, couldB xs[j] j mode = true ∧ told[j]? = some false ∧ ∀ i (h : i < xs.length), i < k → couldB xs[i] i mode = true → told[i]? = some false → i = j ∨ aheadB xs j i = true
theorem Best.zero (xs : List TProc) (mode : Int) (told : List Bool) : Best xs mode told 0 (-1) := .inl ⟨rfl, fun _ _ h => by omega⟩
section
variable {xs : List TProc} {mode : Int} {told : List Bool} {k : Nat} {b : Int}
theorem Best.skip (h : Best xs mode told k b) (hk : k < xs.length) (hs : couldB xs[k] k mode = true → told[k]? = some true) : Best xs mode told (k + 1) b := by
  rcases h with ⟨rfl, h⟩ | ⟨j, rfl, hj, hjx, h1, h2, h3⟩
  · refine .inl ⟨rfl, fun i hi hik hc => ?_⟩
    rcases Nat.lt_or_ge i k with h4 | h4
    · exact h i hi h4 hc
    · have : i = k := by omega
      subst this
      exact hs hc
  · refine .inr ⟨j, rfl, by omega, hjx, h1, h2, fun i hi hik hc ht => ?_⟩
    rcases Nat.lt_or_ge i k with h4 | h4
    · exact h3 i hi h4 hc ht
    · have : i = k := by omega
      subst this
      rw [hs hc] at ht
      cases ht
theorem Best.first (h : Best xs mode told k b) (hb : b < 0) (hk : k < xs.length) (hc : couldB xs[k] k mode = true) (ht : told[k]? = some false) : Best xs mode told (k + 1) (k : Int) := by
  rcases h with ⟨rfl, h⟩ | ⟨j, rfl, _⟩
  · refine .inr ⟨k, rfl, by omega, hk, hc, ht, fun i hi hik hci hti => ?_⟩
    rcases Nat.lt_or_ge i k with h4 | h4
    · rw [h i hi h4 hci] at hti
      cases hti
    · exact .inl (by omega)
  · omega
theorem Best.keep {j : Nat} (h : Best xs mode told k (j : Int)) (hk : k < xs.length) (ha : aheadB xs k j = false) (hne : k ≠ j → aheadB xs k j = false → aheadB xs j k = true) : Best xs mode told (k + 1) (j : Int) := by
  rcases h with ⟨h, _⟩ | ⟨j', hj', hj, hjx, h1, h2, h3⟩
  · omega
  · have : j' = j := by omega
    subst this
    refine .inr ⟨j', rfl, by omega, hjx, h1, h2, fun i hi hik hc ht => ?_⟩
    rcases Nat.lt_or_ge i k with h4 | h4
    · exact h3 i hi h4 hc ht
    · have : i = k := by omega
      subst this
      exact .inr (hne (by omega) ha)
theorem Best.take {j : Nat} (h : Best xs mode told k (j : Int)) (hk : k < xs.length) (hc : couldB xs[k] k mode = true) (ht : told[k]? = some false) (ha : aheadB xs k j = true) (htr : ∀ i, aheadB xs j i = true → aheadB xs k i = true) : Best xs mode told (k + 1) (k : Int) := by
  rcases h with ⟨h, _⟩ | ⟨j', hj', hj, hjx, h1, h2, h3⟩
  · omega
  · have : j' = j := by omega
    subst this
    refine .inr ⟨k, rfl, by omega, hk, hc, ht, fun i hi hik hci hti => ?_⟩
    rcases Nat.lt_or_ge i k with h4 | h4
    · rcases h3 i hi h4 hci hti with h5 | h5
      · subst h5; exact .inr ha
      · exact .inr (htr i h5)
    · exact .inl (by omega)
end
theorem ahead_total {xs : List TProc} {i j : Nat} (hi : i < xs.length) (hj : j < xs.length) (hne : i ≠ j) (h : aheadB xs i j = false) : aheadB xs j i = true := by
  rw [aheadB_eq hi hj] at h
  rw [aheadB_eq hj hi]
  by_cases h1 : xs[i].Prio = xs[j].Prio
  · by_cases h2 : xs[i].Since = xs[j].Since
    · simp [h1, h2] at h ⊢; omega
    · have h2' : ¬ xs[j].Since = xs[i].Since := fun e => h2 e.symm
      simp [h1, h2, h2'] at h ⊢; omega
  · have h1' : ¬ xs[j].Prio = xs[i].Prio := fun e => h1 e.symm
    simp [h1, h1'] at h ⊢; omega
theorem ahead_trans {xs : List TProc} {i j k : Nat} (h1 : aheadB xs i j = true) (h2 : aheadB xs j k = true) : aheadB xs i k = true := by
  unfold aheadB at h1 h2 ⊢
  cases hi : xs[i]? with
  | none =>
    cases hj : xs[j]? with
    | none =>
      cases hk : xs[k]? with
      | none => rw [hi, hj] at h1; rw [hj, hk] at h2; simp at h1 h2 ⊢; omega
      | some z => rw [hj, hk] at h2; simp at h2
    | some y => rw [hi, hj] at h1; simp at h1
  | some x =>
    cases hj : xs[j]? with
    | none =>
      cases hk : xs[k]? with
      | none => rfl
      | some z => rw [hj, hk] at h2; simp at h2
    | some y =>
      cases hk : xs[k]? with
      | none => rfl
      | some z =>
        rw [hi, hj] at h1
        rw [hj, hk] at h2
        simp only at h1 h2 ⊢
        by_cases a1 : x.Prio = y.Prio <;> by_cases a2 : y.Prio = z.Prio <;> by_cases b1 : x.Since = y.Since <;> by_cases b2 : y.Since = z.Since <;> simp_all <;> (try omega) <;> (split <;> (try simp) <;> (try omega) <;> (split <;> (try simp) <;> omega))
theorem ahead_tot {xs : List TProc} {i j : Nat} (hne : i ≠ j) (h : aheadB xs i j = false) : aheadB xs j i = true := by
  by_cases hi : i < xs.length
  · by_cases hj : j < xs.length
    · exact ahead_total hi hj hne h
    · simp [aheadB, List.getElem?_eq_getElem hi, List.getElem?_eq_none (Nat.le_of_not_lt hj)] at h
  · by_cases hj : j < xs.length
    · simp [aheadB, List.getElem?_eq_getElem hj, List.getElem?_eq_none (Nat.le_of_not_lt hi)]
    · simp [aheadB, List.getElem?_eq_none (Nat.le_of_not_lt hj), List.getElem?_eq_none (Nat.le_of_not_lt hi)] at h ⊢; omega
theorem ahead_irrefl (xs : List TProc) (i : Nat) : aheadB xs i i = false := by
  unfold aheadB
  cases xs[i]? <;> simp
theorem told_get {told : List Bool} {k : Nat} {b : Bool} (h : told[k]? = some b) : (told.map Value.bool)[0 + (k : Int).toNat * 1]? = some (.bool b) := by simp [h]

end Go.Proofs.Ytcapkhhflhpnpaa
