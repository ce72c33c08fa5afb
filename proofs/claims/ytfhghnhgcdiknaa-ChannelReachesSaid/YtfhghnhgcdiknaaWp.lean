/- What one channel makes of partitions of one's own. -/
import Derived.Test.YtfhghnhgcdiknaaWn
set_option linter.unusedVariables false
namespace Go.Proofs.Ytfhghnhgcdiknaa
open Go.RowKit
theorem ops_sep {w0 w : World} {xs : List OP} {vA : Value} {F : Nat → Prop} (hs : St 0 w0 w (OPs xs vA F)) {i j : Nat} {x y : OP} (hx : xs[i]? = some x) (hy : xs[j]? = some y) (h : i ≠ j) : ∀ b, x.rowQ.fp b → y.rowQ.fp b → False := by
  have h1 := (List.pairwise_cons.1 (List.pairwise_cons.1 hs.sep).2).2
  rw [List.pairwise_flatMap] at h1
  have h2 := List.pairwise_iff_getElem.1 h1.2
  obtain ⟨hi, rfl⟩ := List.getElem?_eq_some_iff.1 hx
  obtain ⟨hj, rfl⟩ := List.getElem?_eq_some_iff.1 hy
  rcases Nat.lt_or_gt_of_ne h with hlt | hlt
  · exact h2 i j hi hj hlt _ (by simp [OP.rows]) _ (by simp [OP.rows])
  · exact fun b h3 h4 => h2 j i hj hi hlt _ (by simp [OP.rows]) _ (by simp [OP.rows]) b h4 h3
theorem ops_apart {w0 w : World} {xs : List OP} {vA : Value} {F : Nat → Prop} (hs : St 0 w0 w (OPs xs vA F)) {i j a b : Nat} {x y : OP} (hx : xs[i]? = some x) (hy : xs[j]? = some y) (h : i ≠ j ∨ a ≠ b) :
    ∀ gx gy cx cy, x.vQ = .slice (some ⟨gx, 0, none⟩) x.p.Queues.length cx → y.vQ = .slice (some ⟨gy, 0, none⟩) y.p.Queues.length cy → (⟨gx, 0 + a * 3, none⟩ : Addr) ≠ ⟨gy, 0 + b * 3, none⟩ := by
  intro gx gy cx cy h1 h2 h3
  simp only [Addr.mk.injEq, and_true] at h3
  by_cases hij : i = j
  · omega
  · refine ops_sep hs hx hy hij gx ?_ ?_
    · simp [Res.fp, OP.rowQ, h1, Value.ownBlock]
    · simp [Res.fp, OP.rowQ, h2, Value.ownBlock, h3.1]
theorem step_out_q {ps : List TPart} {p q : TPart} {i j : Nat} {a b : Int} (hp : ps[i]? = some p) (hq : ps[j]? = some q) (h : ¬ (0 ≤ a ∧ a < (p.Queues.length : Int)) ∨ ¬ (0 ≤ b ∧ b < (q.Queues.length : Int))) : stepL ps ⟨true, i, a, j, b⟩ = ps := by
  have hi := (List.getElem?_eq_some_iff.1 hp).1
  have hj := (List.getElem?_eq_some_iff.1 hq).1
  unfold stepL
  rw [if_pos ⟨by simp, by simpa using hi, by simp, by simpa using hj⟩]
  simp only [Int.toNat_natCast, hp, hq, if_true]
  rcases h with h | h
  · have : (if 0 ≤ a then p.Queues[a.toNat]? else none) = none := by
      split
      · exact List.getElem?_eq_none (by omega)
      · rfl
    rw [this]
  · have : (if 0 ≤ b then q.Queues[b.toNat]? else none) = none := by
      split
      · exact List.getElem?_eq_none (by omega)
      · rfl
    rw [this]
    split <;> simp_all
theorem step_out_s {ps : List TPart} {p q : TPart} {i j : Nat} {a b : Int} (hp : ps[i]? = some p) (hq : ps[j]? = some q) (h : ¬ (0 ≤ a ∧ a < (p.Samples.length : Int)) ∨ ¬ (0 ≤ b ∧ b < (q.Samples.length : Int))) : stepL ps ⟨false, i, a, j, b⟩ = ps := by
  have hi := (List.getElem?_eq_some_iff.1 hp).1
  have hj := (List.getElem?_eq_some_iff.1 hq).1
  unfold stepL
  rw [if_pos ⟨by simp, by simpa using hi, by simp, by simpa using hj⟩]
  simp only [Int.toNat_natCast, hp, hq, Bool.false_eq_true, if_false]
  rcases h with h | h
  · have : (if 0 ≤ a then p.Samples[a.toNat]? else none) = none := by
      split
      · exact List.getElem?_eq_none (by omega)
      · rfl
    rw [this]
  · have : (if 0 ≤ b then q.Samples[b.toNat]? else none) = none := by
      split
      · exact List.getElem?_eq_none (by omega)
      · rfl
    rw [this]
    split <;> simp_all
theorem step_none {ps : List TPart} {x : TChannel} (h : ¬ (0 ≤ x.From ∧ x.From < (ps.length : Int)) ∨ ¬ (0 ≤ x.To ∧ x.To < (ps.length : Int))) : stepL ps x = ps := by
  unfold stepL
  rw [if_neg (by omega)]
theorem step_in_q {ps : List TPart} {p q : TPart} {i j : Nat} {a b : Int} (hp : ps[i]? = some p) (hq : ps[j]? = some q) (ha0 : 0 ≤ a) (ha1 : a.toNat < p.Queues.length) (hb0 : 0 ≤ b) (hb1 : b.toNat < q.Queues.length) : stepL ps ⟨true, i, a, j, b⟩ =
    putQP (putQP ps i a.toNat (if i = j ∧ a = b then { q.Queues[b.toNat] with Values := (moveQ p.Queues[a.toNat].Values q.Queues[b.toNat].Values q.Queues[b.toNat].Depth).2 } else { p.Queues[a.toNat] with Values := (moveQ p.Queues[a.toNat].Values q.Queues[b.toNat].Values q.Queues[b.toNat].Depth).1 })) j b.toNat { q.Queues[b.toNat] with Values := (moveQ p.Queues[a.toNat].Values q.Queues[b.toNat].Values q.Queues[b.toNat].Depth).2 } := by
  have hi := (List.getElem?_eq_some_iff.1 hp).1
  have hj := (List.getElem?_eq_some_iff.1 hq).1
  unfold stepL
  rw [if_pos ⟨by simp, by simpa using hi, by simp, by simpa using hj⟩]
  simp only [Int.toNat_natCast, hp, hq, if_true, if_pos ha0, if_pos hb0, List.getElem?_eq_getElem ha1, List.getElem?_eq_getElem hb1]
  have e : ((i : Int) = (j : Int) ∧ a = b) = (i = j ∧ a = b) := propext ⟨fun ⟨h1, h2⟩ => ⟨by omega, h2⟩, fun ⟨h1, h2⟩ => ⟨by omega, h2⟩⟩
  simp only [e]
theorem step_in_s {ps : List TPart} {p q : TPart} {i j : Nat} {a b : Int} (hp : ps[i]? = some p) (hq : ps[j]? = some q) (ha0 : 0 ≤ a) (ha1 : a.toNat < p.Samples.length) (hb0 : 0 ≤ b) (hb1 : b.toNat < q.Samples.length) : stepL ps ⟨false, i, a, j, b⟩ =
    putSP ps j b.toNat (carryL p.Samples[a.toNat] q.Samples[b.toNat]) := by
  have hi := (List.getElem?_eq_some_iff.1 hp).1
  have hj := (List.getElem?_eq_some_iff.1 hq).1
  unfold stepL
  rw [if_pos ⟨by simp, by simpa using hi, by simp, by simpa using hj⟩]
  simp only [Int.toNat_natCast, hp, hq, Bool.false_eq_true, if_false, if_pos ha0, if_pos hb0, List.getElem?_eq_getElem ha1, List.getElem?_eq_getElem hb1]
theorem map_get {xs : List OP} {i : Nat} {x : OP} (h : xs[i]? = some x) : (xs.map OP.p)[i]? = some x.p := by simp [h]
theorem queues_any {w0 w : World} {xs : List OP} {x y : OP} {g c i j : Nat} {F : Nat → Prop} {a b : Int} (hs0 : St 0 w0 w (OPs xs (.slice (some ⟨g, 0, none⟩) xs.length c) F)) (hx : xs[i]? = some x) (hy : xs[j]? = some y) (hbq : ∀ z, z ∈ xs → ∀ q, q ∈ z.p.Queues → q.Values.length ≤ 100000000) :
    Calls Try.prog 22 #[.pointer (some ⟨g, 0 + i * 15, none⟩), .pointer (some ⟨g, 0 + j * 15, none⟩), .agg ([.bool true, .int .i64 (i : Int), .int .i64 a, .int .i64 (j : Int), .int .i64 b] : List Value).toArray] w (fun e w' => e = .returned (.tuple #[]) ∧ ∃ (xs' : List OP) (F' : Nat → Prop), St 0 w0 w' (OPs xs' (.slice (some ⟨g, 0, none⟩) xs.length c) F') ∧ xs'.length = xs.length ∧ xs'.map OP.p = stepL (xs.map OP.p) ⟨true, (i : Int), a, (j : Int), b⟩) := by
  by_cases ha : 0 ≤ a ∧ a < (x.p.Queues.length : Int)
  · by_cases hb : 0 ≤ b ∧ b < (y.p.Queues.length : Int)
    · have hst := step_in_q (map_get hx) (map_get hy) ha.1 (by omega) hb.1 (by omega)
      by_cases hij : i = j ∧ a = b
      · obtain ⟨rfl, rfl⟩ := hij
        rw [hx] at hy
        injection hy with hy
        subst hy
        rw [hst, if_pos ⟨rfl, rfl⟩]
        exact queues_same hs0 hx ha.1 ha.2 hbq
      · rw [hst, if_neg hij]
        exact queues_apart hs0 hx hy ha.1 ha.2 hb.1 hb.2 hbq (ops_apart hs0 hx hy (by omega))
    · rw [step_out_q (map_get hx) (map_get hy) (.inr hb)]
      exact (queues_in_out hs0 hx hy ha.1 ha.2 hb).mono fun e w' ⟨h1, h2⟩ => ⟨h1, xs, F, h2, rfl, rfl⟩
  · rw [step_out_q (map_get hx) (map_get hy) (.inl ha)]
    by_cases hb : 0 ≤ b ∧ b < (y.p.Queues.length : Int)
    · exact (queues_out_in hs0 hx hy ha hb.1 hb.2).mono fun e w' ⟨h1, h2⟩ => ⟨h1, xs, F, h2, rfl, rfl⟩
    · exact (queues_out_out hs0 hx hy ha hb).mono fun e w' ⟨h1, h2⟩ => ⟨h1, xs, F, h2, rfl, rfl⟩
theorem samples_any {w0 w : World} {xs : List OP} {x y : OP} {g c i j : Nat} {F : Nat → Prop} {a b : Int} (hs0 : St 0 w0 w (OPs xs (.slice (some ⟨g, 0, none⟩) xs.length c) F)) (hx : xs[i]? = some x) (hy : xs[j]? = some y) :
    Calls Try.prog 23 #[.pointer (some ⟨g, 0 + i * 15, none⟩), .pointer (some ⟨g, 0 + j * 15, none⟩), .agg ([.bool false, .int .i64 (i : Int), .int .i64 a, .int .i64 (j : Int), .int .i64 b] : List Value).toArray] w (fun e w' => e = .returned (.tuple #[]) ∧ ∃ (xs' : List OP) (F' : Nat → Prop), St 0 w0 w' (OPs xs' (.slice (some ⟨g, 0, none⟩) xs.length c) F') ∧ xs'.length = xs.length ∧ xs'.map OP.p = stepL (xs.map OP.p) ⟨false, (i : Int), a, (j : Int), b⟩) := by
  by_cases ha : 0 ≤ a ∧ a < (x.p.Samples.length : Int)
  · by_cases hb : 0 ≤ b ∧ b < (y.p.Samples.length : Int)
    · rw [step_in_s (map_get hx) (map_get hy) ha.1 (by omega) hb.1 (by omega)]
      exact (samples_in_in hs0 hx hy ha.1 ha.2 hb.1 hb.2).mono fun e w' ⟨h1, h2⟩ => ⟨h1, _, F, h2, by simp, map_putS hy⟩
    · rw [step_out_s (map_get hx) (map_get hy) (.inr hb)]
      exact (samples_in_out hs0 hx hy ha.1 ha.2 hb).mono fun e w' ⟨h1, h2⟩ => ⟨h1, xs, F, h2, rfl, rfl⟩
  · rw [step_out_s (map_get hx) (map_get hy) (.inl ha)]
    by_cases hb : 0 ≤ b ∧ b < (y.p.Samples.length : Int)
    · exact (samples_out_in hs0 hx hy ha hb.1 hb.2).mono fun e w' ⟨h1, h2⟩ => ⟨h1, xs, F, h2, rfl, rfl⟩
    · exact (samples_out_out hs0 hx hy ha hb).mono fun e w' ⟨h1, h2⟩ => ⟨h1, xs, F, h2, rfl, rfl⟩
/-- How long queues may be. -/
def QB (ps : List TPart) (n : Nat) : Prop := ∀ p, p ∈ ps → ∀ q, q ∈ p.Queues → q.Values.length ≤ n
theorem moveQ_len (d : Int) : ∀ (fs ts : List Int), (moveQ fs ts d).1.length ≤ fs.length ∧ (moveQ fs ts d).2.length ≤ fs.length + ts.length
  | [], ts => ⟨Nat.le_refl _, by simp [moveQ]⟩
  | f :: fs, ts => by
    by_cases h : (ts.length : Int) < d
    · rw [moveQ_step h]
      have h1 := moveQ_len d fs (ts ++ [f])
      simp at h1 ⊢
      omega
    · rw [moveQ_full h]
      simp
theorem QB.put {ps : List TPart} {n : Nat} (h : QB ps n) (i a : Nat) {q : TQueue} (hq : q.Values.length ≤ n) : QB (putQP ps i a q) n := by
  intro p hp r hr
  unfold putQP at hp
  rw [List.mem_iff_getElem?] at hp
  obtain ⟨k, hk⟩ := hp
  rw [List.getElem?_modify] at hk
  cases hg : ps[k]? with
  | none => rw [hg] at hk; simp at hk
  | some p0 =>
    rw [hg] at hk
    simp only [Option.map_eq_map, Option.map_some, Option.some.injEq] at hk
    have h0 := h p0 (List.mem_of_getElem? hg)
    by_cases e : i = k
    · rw [if_pos e] at hk
      subst hk
      rcases List.mem_or_eq_of_mem_set hr with hr | hr
      · exact h0 r hr
      · rw [hr]; exact hq
    · rw [if_neg e] at hk
      subst hk
      exact h0 r hr
theorem QB.putS {ps : List TPart} {n : Nat} (h : QB ps n) (i a : Nat) {s : TSample} : QB (putSP ps i a s) n := by
  intro p hp r hr
  unfold putSP at hp
  rw [List.mem_iff_getElem?] at hp
  obtain ⟨k, hk⟩ := hp
  rw [List.getElem?_modify] at hk
  cases hg : ps[k]? with
  | none => rw [hg] at hk; simp at hk
  | some p0 =>
    rw [hg] at hk
    simp only [Option.map_eq_map, Option.map_some, Option.some.injEq] at hk
    have h0 := h p0 (List.mem_of_getElem? hg)
    by_cases e : i = k
    · rw [if_pos e] at hk
      subst hk
      exact h0 r hr
    · rw [if_neg e] at hk
      subst hk
      exact h0 r hr
theorem QB.mono {ps : List TPart} {n m : Nat} (h : QB ps n) (hm : n ≤ m) : QB ps m := fun p hp q hq => Nat.le_trans (h p hp q hq) hm
theorem QB.step {ps : List TPart} {n : Nat} (h : QB ps n) (x : TChannel) : QB (stepL ps x) (2 * n) := by
  have h2 : QB ps (2 * n) := h.mono (by omega)
  unfold stepL
  split
  · split
    · rename_i p q hp hq
      split
      · split
        · rename_i a b ha hb
          have ha' : a.Values.length ≤ n := by
            split at ha
            · exact h p (List.mem_of_getElem? hp) a (List.mem_of_getElem? ha)
            · cases ha
          have hb' : b.Values.length ≤ n := by
            split at hb
            · exact h q (List.mem_of_getElem? hq) b (List.mem_of_getElem? hb)
            · cases hb
          have hl := moveQ_len b.Depth a.Values b.Values
          refine (h2.put _ _ ?_).put _ _ ?_
          · split
            · exact Nat.le_trans hl.2 (by omega)
            · exact Nat.le_trans hl.1 (by omega)
          · exact Nat.le_trans hl.2 (by omega)
        · exact h2
      · split
        · exact h2.putS _ _
        · exact h2
    · exact h2
  · exact h2
theorem stepL_len (ps : List TPart) (x : TChannel) : (stepL ps x).length = ps.length := by
  unfold stepL putQP putSP
  split
  · split
    · split
      · split
        · simp
        · rfl
      · split
        · simp
        · rfl
    · rfl
  · rfl
theorem fold_len (xs : List TChannel) : ∀ ps : List TPart, (xs.foldl stepL ps).length = ps.length := by
  induction xs with
  | nil => intro ps; rfl
  | cons x xs ih => intro ps; rw [List.foldl_cons, ih, stepL_len]
theorem fold_QB (xs : List TChannel) : ∀ (ps : List TPart) (n : Nat), QB ps n → QB (xs.foldl stepL ps) (n * 2 ^ xs.length) := by
  induction xs with
  | nil => intro ps n h; simpa using h
  | cons x xs ih =>
    intro ps n h
    rw [List.foldl_cons, List.length_cons, Nat.pow_succ]
    have := ih _ _ (h.step x)
    rwa [Nat.mul_comm 2 n, Nat.mul_assoc, Nat.mul_comm 2] at this
theorem fold_take {xs : List TChannel} {k : Nat} {x : TChannel} (h : xs[k]? = some x) (ps : List TPart) : (xs.take (k + 1)).foldl stepL ps = stepL ((xs.take k).foldl stepL ps) x := by
  rw [List.take_add_one, h]
  simp
end Go.Proofs.Ytfhghnhgcdiknaa
