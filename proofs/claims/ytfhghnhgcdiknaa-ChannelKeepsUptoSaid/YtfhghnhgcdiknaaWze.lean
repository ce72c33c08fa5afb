/- What a partition becomes hangs on those alone that reach it; moving twice is moving once; no message is lost. Plain. -/
import Derived.Test.YtfhghnhgcdiknaaWzd
set_option linter.unusedVariables false
namespace Go.Proofs.Ytfhghnhgcdiknaa
open Go.RowKit
theorem getQP (ps : List TPart) (i a : Nat) (q : TQueue) (k : Nat) : (putQP ps i a q)[k]? = (ps[k]?).map (fun p => if i = k then { p with Queues := p.Queues.set a q } else p) := by
  unfold putQP
  rw [List.getElem?_modify]
  by_cases h : i = k
  · simp [h]
  · simp [h]
theorem getSP (ps : List TPart) (i a : Nat) (q : TSample) (k : Nat) : (putSP ps i a q)[k]? = (ps[k]?).map (fun p => if i = k then { p with Samples := p.Samples.set a q } else p) := by
  unfold putSP
  rw [List.getElem?_modify]
  by_cases h : i = k
  · simp [h]
  · simp [h]
/-- What a channel makes of partitions, if both its ends are there. -/
theorem step_some {ps : List TPart} {x : TChannel} (h1 : portL ps x.Queuing x.From x.A = true) (h2 : portL ps x.Queuing x.To x.B = true) :
    (x.Queuing = true ∧ ∃ p q a b, 0 ≤ x.From ∧ 0 ≤ x.To ∧ 0 ≤ x.A ∧ 0 ≤ x.B ∧ ps[x.From.toNat]? = some p ∧ ps[x.To.toNat]? = some q ∧ p.Queues[x.A.toNat]? = some a ∧ q.Queues[x.B.toNat]? = some b ∧
      stepL ps x = putQP (putQP ps x.From.toNat x.A.toNat { a with Values := (moveQ a.Values b.Values b.Depth).1 }) x.To.toNat x.B.toNat { b with Values := (moveQ a.Values b.Values b.Depth).2 }) ∨
    (x.Queuing = false ∧ ∃ p q a b, 0 ≤ x.From ∧ 0 ≤ x.To ∧ 0 ≤ x.A ∧ 0 ≤ x.B ∧ ps[x.From.toNat]? = some p ∧ ps[x.To.toNat]? = some q ∧ p.Samples[x.A.toNat]? = some a ∧ q.Samples[x.B.toNat]? = some b ∧ stepL ps x = putSP ps x.To.toNat x.B.toNat (carryL a b)) := by
  obtain ⟨p, hp, a0, a1, _, a2⟩ := portL_true h1
  obtain ⟨q, hq, b0, b1, _, b2⟩ := portL_true h2
  cases hQ : x.Queuing with
  | true =>
    left
    rw [hQ] at a2 b2
    simp only [if_true] at a2 b2
    have ha : x.A.toNat < p.Queues.length := by omega
    have hb : x.B.toNat < q.Queues.length := by omega
    exact ⟨rfl, p, q, p.Queues[x.A.toNat], q.Queues[x.B.toNat], a0, b0, a1, b1, hp, hq, List.getElem?_eq_getElem ha, List.getElem?_eq_getElem hb, (refstep_q hQ hp hq a0 b0 a1 b1 (List.getElem?_eq_getElem ha) (List.getElem?_eq_getElem hb)).symm⟩
  | false =>
    right
    rw [hQ] at a2 b2
    simp only [Bool.false_eq_true, if_false] at a2 b2
    have ha : x.A.toNat < p.Samples.length := by omega
    have hb : x.B.toNat < q.Samples.length := by omega
    exact ⟨rfl, p, q, p.Samples[x.A.toNat], q.Samples[x.B.toNat], a0, b0, a1, b1, hp, hq, List.getElem?_eq_getElem ha, List.getElem?_eq_getElem hb, (refstep_s hQ hp hq a0 b0 a1 b1 (List.getElem?_eq_getElem ha) (List.getElem?_eq_getElem hb)).symm⟩
/-! ### Who doesn't reach it -/
structure Agree (cf : TConfig) (part : Int) (ps ns : List TPart) : Prop where
  len : ps.length = cf.Parts.length
  same : ∀ j : Nat, Rch cf part (j : Int) → ps[j]? = ns[j]?
  ports : ps.map (fun p => (p.Samples.length, p.Queues.length)) = ns.map (fun p => (p.Samples.length, p.Queues.length))
theorem ports_step (ps : List TPart) (x : TChannel) : (stepL ps x).map (fun p => (p.Samples.length, p.Queues.length)) = ps.map (fun p => (p.Samples.length, p.Queues.length)) := by
  have h := congrArg (fun l => l.map (fun y : TPart × Nat × Nat => y.2)) (strip_step ps x)
  simp only [List.map_map] at h
  exact h
theorem ports_get {ps ns : List TPart} (h : ps.map (fun p => (p.Samples.length, p.Queues.length)) = ns.map (fun p => (p.Samples.length, p.Queues.length))) {i : Nat} {p : TPart} (hp : ps[i]? = some p) : ∃ q, ns[i]? = some q ∧ q.Samples.length = p.Samples.length ∧ q.Queues.length = p.Queues.length := by
  have h1 := congrArg (fun l => l[i]?) h
  simp only [List.getElem?_map, hp] at h1
  cases hn : ns[i]? with
  | none => rw [hn] at h1; simp at h1
  | some q => rw [hn] at h1; simp at h1; exact ⟨q, rfl, h1.1.symm, h1.2.symm⟩
theorem blind_port {ps ns : List TPart} (h : ps.map (fun p => (p.Samples.length, p.Queues.length)) = ns.map (fun p => (p.Samples.length, p.Queues.length))) (q : Bool) (i a : Int) : portL ps q i a = portL ns q i a := by
  unfold portL
  split
  · cases hp : ps[i.toNat]? with
    | some p =>
      obtain ⟨p', hp', h1, h2⟩ := ports_get h hp
      rw [hp']
      simp only [h1, h2]
    | none =>
      cases hn : ns[i.toNat]? with
      | none => rfl
      | some p' =>
        obtain ⟨p2, hp2, _⟩ := ports_get h.symm hn
        rw [hp] at hp2
        cases hp2
  · rfl
theorem Agree.step {cf : TConfig} {part : Int} {ps ns : List TPart} (h : Agree cf part ps ns) {x : TChannel} (hx : x ∈ cf.Channels) : Agree cf part (stepL ps x) (stepL ns x) := by
  have hin : ∀ {i : Int} {p : TPart}, 0 ≤ i → ps[i.toNat]? = some p → inR cf i := fun {i p} h0 hp => by
    have := (List.getElem?_eq_some_iff.1 hp).1
    rw [h.len] at this
    exact ⟨h0, by omega⟩
  refine ⟨by rw [stepL_len]; exact h.len, fun j hj => ?_, by rw [ports_step, ports_step]; exact h.ports⟩
  have hjs := h.same j hj
  by_cases h1 : portL ps x.Queuing x.From x.A = true
  · by_cases h2 : portL ps x.Queuing x.To x.B = true
    · have k1 := h1
      have k2 := h2
      rw [blind_port h.ports] at k1 k2
      rcases step_some h1 h2 with ⟨hQ, p, q, a, b, a0, b0, a1, b1, hp, hq, ha, hb, e1⟩ | ⟨hQ, p, q, a, b, a0, b0, a1, b1, hp, hq, ha, hb, e1⟩
      · rcases step_some k1 k2 with ⟨_, p', q', a', b', _, _, _, _, hp', hq', ha', hb', e2⟩ | ⟨hQ', _⟩
        · rw [e1, e2]
          simp only [getQP]
          rw [hjs]
          have hF := hin a0 hp
          have hT := hin b0 hq
          by_cases hR : Rch cf part x.From
          · have hRT : Rch cf part x.To := .to_ hx hQ hR hT
            have s1 := h.same x.From.toNat (by rw [Int.toNat_of_nonneg a0]; exact hR)
            have s2 := h.same x.To.toNat (by rw [Int.toNat_of_nonneg b0]; exact hRT)
            rw [hp, hp'] at s1
            rw [hq, hq'] at s2
            cases s1
            cases s2
            rw [ha] at ha'
            rw [hb] at hb'
            cases ha'
            cases hb'
            rfl
          · have hRT : ¬ Rch cf part x.To := fun hr => hR (.from_ hx hr hF)
            have n1 : ¬ x.From.toNat = j := fun e => hR (by rw [← Int.toNat_of_nonneg a0, e]; exact hj)
            have n2 : ¬ x.To.toNat = j := fun e => hRT (by rw [← Int.toNat_of_nonneg b0, e]; exact hj)
            simp [n1, n2]
        · rw [hQ] at hQ'; cases hQ'
      · rcases step_some k1 k2 with ⟨hQ', _⟩ | ⟨_, p', q', a', b', _, _, _, _, hp', hq', ha', hb', e2⟩
        · rw [hQ] at hQ'; cases hQ'
        · rw [e1, e2]
          simp only [getSP]
          rw [hjs]
          have hF := hin a0 hp
          by_cases hR : Rch cf part x.To
          · have hRF : Rch cf part x.From := .from_ hx hR hF
            have s1 := h.same x.From.toNat (by rw [Int.toNat_of_nonneg a0]; exact hRF)
            have s2 := h.same x.To.toNat (by rw [Int.toNat_of_nonneg b0]; exact hR)
            rw [hp, hp'] at s1
            rw [hq, hq'] at s2
            cases s1
            cases s2
            rw [ha] at ha'
            rw [hb] at hb'
            cases ha'
            cases hb'
            rfl
          · have n2 : ¬ x.To.toNat = j := fun e => hR (by rw [← Int.toNat_of_nonneg b0, e]; exact hj)
            simp [n2]
    · have k2 := h2
      rw [blind_port h.ports] at k2
      rw [refstep_none (.inr (by simpa using h2)), refstep_none (.inr (by simpa using k2))]
      exact hjs
  · have k1 := h1
    rw [blind_port h.ports] at k1
    rw [refstep_none (.inl (by simpa using h1)), refstep_none (.inl (by simpa using k1))]
    exact hjs
theorem Agree.fold {cf : TConfig} {part : Int} : ∀ (xs : List TChannel) (ps ns : List TPart), (∀ x ∈ xs, x ∈ cf.Channels) → Agree cf part ps ns → Agree cf part (xs.foldl stepL ps) (xs.foldl stepL ns)
  | [], _, _, _, h => h
  | x :: xs, ps, ns, hx, h => Agree.fold xs _ _ (fun y hy => hx y (List.mem_cons_of_mem _ hy)) (h.step (hx x List.mem_cons_self))
theorem Agree.move {cf : TConfig} {part : Int} {ps ns : List TPart} (h : Agree cf part ps ns) : Agree cf part (moveL cf ps) (moveL cf ns) := Agree.fold cf.Channels ps ns (fun _ h => h) h
/-! ### Twice is once -/
theorem moveQ_keeps (d : Int) : ∀ fs ts : List Int, (moveQ fs ts d).2 ++ (moveQ fs ts d).1 = ts ++ fs
  | [], ts => by simp [moveQ]
  | f :: fs, ts => by
    by_cases h : (ts.length : Int) < d
    · rw [moveQ_step h, moveQ_keeps d fs (ts ++ [f])]
      simp
    · rw [moveQ_full h]
theorem moveQ_twice (d : Int) : ∀ fs ts : List Int, moveQ (moveQ fs ts d).1 (moveQ fs ts d).2 d = moveQ fs ts d
  | [], ts => by simp [moveQ]
  | f :: fs, ts => by
    by_cases h : (ts.length : Int) < d
    · rw [moveQ_step h]
      exact moveQ_twice d fs (ts ++ [f])
    · rw [moveQ_full h, moveQ_full h]
/-- The queue, the sample at a port. -/
def qAt (ps : List TPart) (i a : Int) : Option TQueue := (ps[i.toNat]?).bind (fun p => p.Queues[a.toNat]?)
def sAt (ps : List TPart) (i a : Int) : Option TSample := (ps[i.toNat]?).bind (fun p => p.Samples[a.toNat]?)
def Clash (x y : TChannel) : Prop := x.Queuing = y.Queuing ∧ ((x.From = y.From ∧ x.A = y.A) ∨ (x.From = y.To ∧ x.A = y.B) ∨ (x.To = y.From ∧ x.B = y.A) ∨ (x.To = y.To ∧ x.B = y.B))
theorem Clash.symm {x y : TChannel} (h : Clash x y) : Clash y x := by
  obtain ⟨hq, h⟩ := h
  exact ⟨hq.symm, by omega⟩
/-- What the law asks of a channel. -/
def Fine (ps : List TPart) (x : TChannel) : Prop := x.From ≠ x.To ∧ 0 ≤ x.From ∧ 0 ≤ x.To ∧ x.From < (ps.length : Int) ∧ x.To < (ps.length : Int) ∧ 0 ≤ x.A ∧ 0 ≤ x.B ∧ (x.Queuing = true → (∃ p, ps[x.From.toNat]? = some p ∧ x.A < (p.Queues.length : Int)) ∧ ∃ q, ps[x.To.toNat]? = some q ∧ x.B < (q.Queues.length : Int))
theorem qAt_put {ps : List TPart} {i j : Nat} {a : Nat} {u : TQueue} {k c : Int} (hk : 0 ≤ k) (hc : 0 ≤ c) (hne : ¬ ((i : Int) = k ∧ (a : Int) = c)) : qAt (putQP ps i a u) k c = qAt ps k c := by
  unfold qAt
  rw [getQP]
  cases hp : ps[k.toNat]? with
  | none => rfl
  | some p =>
    simp only [Option.map_some, Option.bind_some]
    by_cases e : i = k.toNat
    · rw [if_pos e]
      simp only
      rw [List.getElem?_set, if_neg (fun e2 => hne ⟨by omega, by omega⟩)]
    · rw [if_neg e]
theorem qAt_putS {ps : List TPart} {i : Nat} {a : Nat} {u : TSample} {k c : Int} : qAt (putSP ps i a u) k c = qAt ps k c := by
  unfold qAt
  rw [getSP]
  cases hp : ps[k.toNat]? with
  | none => rfl
  | some p =>
    simp only [Option.map_some, Option.bind_some]
    split <;> rfl
theorem sAt_putQ {ps : List TPart} {i : Nat} {a : Nat} {u : TQueue} {k c : Int} : sAt (putQP ps i a u) k c = sAt ps k c := by
  unfold sAt
  rw [getQP]
  cases hp : ps[k.toNat]? with
  | none => rfl
  | some p =>
    simp only [Option.map_some, Option.bind_some]
    split <;> rfl
theorem sAt_put {ps : List TPart} {i : Nat} {a : Nat} {u : TSample} {k c : Int} (hk : 0 ≤ k) (hc : 0 ≤ c) (hne : ¬ ((i : Int) = k ∧ (a : Int) = c)) : sAt (putSP ps i a u) k c = sAt ps k c := by
  unfold sAt
  rw [getSP]
  cases hp : ps[k.toNat]? with
  | none => rfl
  | some p =>
    simp only [Option.map_some, Option.bind_some]
    by_cases e : i = k.toNat
    · rw [if_pos e]
      simp only
      rw [List.getElem?_set, if_neg (fun e2 => hne ⟨by omega, by omega⟩)]
    · rw [if_neg e]
theorem qAt_self {ps : List TPart} {i a : Nat} {u v : TQueue} (h : qAt ps i a = some v) : qAt (putQP ps i a u) i a = some u := by
  unfold qAt at h ⊢
  rw [getQP]
  simp only [Int.toNat_natCast] at h ⊢
  cases hp : ps[i]? with
  | none => rw [hp] at h; cases h
  | some p =>
    rw [hp] at h
    simp only [Option.bind_some] at h
    have hl := (List.getElem?_eq_some_iff.1 h).1
    simp [hl]
theorem sAt_self {ps : List TPart} {i a : Nat} {u v : TSample} (h : sAt ps i a = some v) : sAt (putSP ps i a u) i a = some u := by
  unfold sAt at h ⊢
  rw [getSP]
  simp only [Int.toNat_natCast] at h ⊢
  cases hp : ps[i]? with
  | none => rw [hp] at h; cases h
  | some p =>
    rw [hp] at h
    simp only [Option.bind_some] at h
    have hl := (List.getElem?_eq_some_iff.1 h).1
    simp [hl]
theorem list_set_self {α : Type} {xs : List α} {i : Nat} {x : α} (h : xs[i]? = some x) : xs.set i x = xs := by
  apply List.ext_getElem?
  intro j
  rw [List.getElem?_set]
  split
  · rename_i e
    subst e
    obtain ⟨hl, hv⟩ := List.getElem?_eq_some_iff.1 h
    simp [hl, hv]
  · rfl
theorem putQ_same {ps : List TPart} {i a : Nat} {u : TQueue} (h : qAt ps i a = some u) : putQP ps i a u = ps := by
  unfold qAt at h
  simp only [Int.toNat_natCast] at h
  apply List.ext_getElem?
  intro k
  rw [getQP]
  cases hp : ps[k]? with
  | none => rfl
  | some p =>
    simp only [Option.map_some]
    by_cases e : i = k
    · subst e
      rw [hp] at h
      simp only [Option.bind_some] at h
      rw [if_pos rfl, list_set_self h]
    · rw [if_neg e]
theorem putS_same {ps : List TPart} {i a : Nat} {u : TSample} (h : sAt ps i a = some u) : putSP ps i a u = ps := by
  unfold sAt at h
  simp only [Int.toNat_natCast] at h
  apply List.ext_getElem?
  intro k
  rw [getSP]
  cases hp : ps[k]? with
  | none => rfl
  | some p =>
    simp only [Option.map_some]
    by_cases e : i = k
    · subst e
      rw [hp] at h
      simp only [Option.bind_some] at h
      rw [if_pos rfl, list_set_self h]
    · rw [if_neg e]
/-- A step, told by the ports. -/
theorem step_q {ps : List TPart} {x : TChannel} {a b : TQueue} (hQ : x.Queuing = true) (h0 : 0 ≤ x.From) (h1 : 0 ≤ x.To) (h2 : 0 ≤ x.A) (h3 : 0 ≤ x.B) (ha : qAt ps x.From x.A = some a) (hb : qAt ps x.To x.B = some b) :
    stepL ps x = putQP (putQP ps x.From.toNat x.A.toNat { a with Values := (moveQ a.Values b.Values b.Depth).1 }) x.To.toNat x.B.toNat { b with Values := (moveQ a.Values b.Values b.Depth).2 } := by
  unfold qAt at ha hb
  obtain ⟨p, hp, ha⟩ := Option.bind_eq_some_iff.1 ha
  obtain ⟨q, hq, hb⟩ := Option.bind_eq_some_iff.1 hb
  exact (refstep_q hQ hp hq h0 h1 h2 h3 ha hb).symm
theorem step_s {ps : List TPart} {x : TChannel} {a b : TSample} (hQ : x.Queuing = false) (h0 : 0 ≤ x.From) (h1 : 0 ≤ x.To) (h2 : 0 ≤ x.A) (h3 : 0 ≤ x.B) (ha : sAt ps x.From x.A = some a) (hb : sAt ps x.To x.B = some b) : stepL ps x = putSP ps x.To.toNat x.B.toNat (carryL a b) := by
  unfold sAt at ha hb
  obtain ⟨p, hp, ha⟩ := Option.bind_eq_some_iff.1 ha
  obtain ⟨q, hq, hb⟩ := Option.bind_eq_some_iff.1 hb
  exact (refstep_s hQ hp hq h0 h1 h2 h3 ha hb).symm
theorem step_s_none {ps : List TPart} {x : TChannel} (hQ : x.Queuing = false) (h : sAt ps x.From x.A = none ∨ sAt ps x.To x.B = none) (h2 : 0 ≤ x.A) (h3 : 0 ≤ x.B) (h0 : 0 ≤ x.From) (h1 : 0 ≤ x.To) : stepL ps x = ps := by
  refine refstep_none ?_
  rw [hQ]
  have key : ∀ {i a : Int}, sAt ps i a = none → portL ps false i a = false := by
    intro i a hs
    unfold portL
    unfold sAt at hs
    split
    · cases hp : ps[i.toNat]? with
      | none => rfl
      | some p =>
        rw [hp] at hs
        simp only [Option.bind_some, List.getElem?_eq_none_iff] at hs
        simp only [Bool.false_eq_true, if_false, decide_eq_false_iff_not]
        omega
    · rfl
  exact h.imp key key
/-- Another port than those of a channel is left as it was. -/
theorem step_other_q {ps : List TPart} {x : TChannel} {i a : Int} (hi : 0 ≤ i) (ha : 0 ≤ a) (hF : ¬ (x.Queuing = true ∧ x.From = i ∧ x.A = a)) (hT : ¬ (x.Queuing = true ∧ x.To = i ∧ x.B = a)) : qAt (stepL ps x) i a = qAt ps i a := by
  by_cases h1 : portL ps x.Queuing x.From x.A = true
  · by_cases h2 : portL ps x.Queuing x.To x.B = true
    · rcases step_some h1 h2 with ⟨hQ, p, q, u, v, a0, b0, a1, b1, hp, hq, hu, hv, e⟩ | ⟨hQ, p, q, u, v, a0, b0, a1, b1, hp, hq, hu, hv, e⟩
      · rw [e, qAt_put (j := 0) hi ha (fun h => hT ⟨hQ, by omega, by omega⟩), qAt_put (j := 0) hi ha (fun h => hF ⟨hQ, by omega, by omega⟩)]
      · rw [e, qAt_putS]
    · rw [refstep_none (.inr (by simpa using h2))]
  · rw [refstep_none (.inl (by simpa using h1))]
theorem step_other_s {ps : List TPart} {x : TChannel} {i a : Int} (hi : 0 ≤ i) (ha : 0 ≤ a) (hT : ¬ (x.Queuing = false ∧ x.To = i ∧ x.B = a)) : sAt (stepL ps x) i a = sAt ps i a := by
  by_cases h1 : portL ps x.Queuing x.From x.A = true
  · by_cases h2 : portL ps x.Queuing x.To x.B = true
    · rcases step_some h1 h2 with ⟨hQ, p, q, u, v, a0, b0, a1, b1, hp, hq, hu, hv, e⟩ | ⟨hQ, p, q, u, v, a0, b0, a1, b1, hp, hq, hu, hv, e⟩
      · rw [e, sAt_putQ, sAt_putQ]
      · rw [e, sAt_put hi ha (fun h => hT ⟨hQ, by omega, by omega⟩)]
    · rw [refstep_none (.inr (by simpa using h2))]
  · rw [refstep_none (.inl (by simpa using h1))]
/-- What the ports of a channel hold behind a list of channels that it is among. -/
structure Held (ps s : List TPart) (x : TChannel) : Prop where
  queue : x.Queuing = true → ∀ a b, qAt ps x.From x.A = some a → qAt ps x.To x.B = some b → qAt s x.From x.A = some { a with Values := (moveQ a.Values b.Values b.Depth).1 } ∧ qAt s x.To x.B = some { b with Values := (moveQ a.Values b.Values b.Depth).2 }
  sample : x.Queuing = false → sAt s x.From x.A = sAt ps x.From x.A ∧ sAt s x.To x.B = match sAt ps x.From x.A, sAt ps x.To x.B with | some a, some b => some (carryL a b) | _, r => r
theorem nat_cast {i : Int} (h : 0 ≤ i) : ((i.toNat : Nat) : Int) = i := Int.toNat_of_nonneg h
theorem held_step {ps : List TPart} {x : TChannel} (hf : x.From ≠ x.To) (h0 : 0 ≤ x.From) (h1 : 0 ≤ x.To) (h2 : 0 ≤ x.A) (h3 : 0 ≤ x.B) : Held ps (stepL ps x) x := by
  refine ⟨fun hQ a b ha hb => ?_, fun hQ => ?_⟩
  · rw [step_q hQ h0 h1 h2 h3 ha hb]
    have ha' : qAt ps (x.From.toNat : Int) (x.A.toNat : Int) = some a := by rw [nat_cast h0, nat_cast h2]; exact ha
    have hb' : qAt ps (x.To.toNat : Int) (x.B.toNat : Int) = some b := by rw [nat_cast h1, nat_cast h3]; exact hb
    constructor
    · rw [qAt_put (j := 0) h0 h2 (fun h => by omega)]
      have := qAt_self (u := { a with Values := (moveQ a.Values b.Values b.Depth).1 }) ha'
      rwa [nat_cast h0, nat_cast h2] at this
    · have hb2 : qAt (putQP ps x.From.toNat x.A.toNat { a with Values := (moveQ a.Values b.Values b.Depth).1 }) (x.To.toNat : Int) (x.B.toNat : Int) = some b := by
        rw [qAt_put (j := 0) (by omega) (by omega) (fun h => by omega)]
        exact hb'
      have := qAt_self (u := { b with Values := (moveQ a.Values b.Values b.Depth).2 }) hb2
      rwa [nat_cast h1, nat_cast h3] at this
  · cases ha : sAt ps x.From x.A with
    | none =>
      rw [step_s_none hQ (.inl ha) h2 h3 h0 h1]
      exact ⟨ha, rfl⟩
    | some a =>
      cases hb : sAt ps x.To x.B with
      | none =>
        rw [step_s_none hQ (.inr hb) h2 h3 h0 h1]
        exact ⟨ha, hb⟩
      | some b =>
        rw [step_s hQ h0 h1 h2 h3 ha hb]
        have hb' : sAt ps (x.To.toNat : Int) (x.B.toNat : Int) = some b := by rw [nat_cast h1, nat_cast h3]; exact hb
        constructor
        · rw [sAt_put h0 h2 (fun h => by omega)]
          exact ha
        · have := sAt_self (u := carryL a b) hb'
          rwa [nat_cast h1, nat_cast h3] at this
def Good4 (x : TChannel) : Prop := x.From ≠ x.To ∧ 0 ≤ x.From ∧ 0 ≤ x.To ∧ 0 ≤ x.A ∧ 0 ≤ x.B
theorem clash_not {x y : TChannel} (h : ¬ Clash x y) (hQ : x.Queuing = y.Queuing) : ¬ (x.From = y.From ∧ x.A = y.A) ∧ ¬ (x.From = y.To ∧ x.A = y.B) ∧ ¬ (x.To = y.From ∧ x.B = y.A) ∧ ¬ (x.To = y.To ∧ x.B = y.B) :=
  ⟨fun e => h ⟨hQ, .inl e⟩, fun e => h ⟨hQ, .inr (.inl e)⟩, fun e => h ⟨hQ, .inr (.inr (.inl e))⟩, fun e => h ⟨hQ, .inr (.inr (.inr e))⟩⟩
/-- A channel that has no port with x leaves x's ports as they were. -/
theorem ports_kept {s : List TPart} {x y : TChannel} (hx : Good4 x) (h : ¬ Clash x y) : (x.Queuing = true → qAt (stepL s y) x.From x.A = qAt s x.From x.A ∧ qAt (stepL s y) x.To x.B = qAt s x.To x.B) ∧ (x.Queuing = false → sAt (stepL s y) x.From x.A = sAt s x.From x.A ∧ sAt (stepL s y) x.To x.B = sAt s x.To x.B) := by
  obtain ⟨_, h0, h1, h2, h3⟩ := hx
  refine ⟨fun hQ => ⟨?_, ?_⟩, fun hQ => ⟨?_, ?_⟩⟩
  · refine step_other_q h0 h2 (fun e => ?_) (fun e => ?_)
    · exact (clash_not h (hQ.trans e.1.symm)).1 ⟨e.2.1.symm, e.2.2.symm⟩
    · exact (clash_not h (hQ.trans e.1.symm)).2.1 ⟨e.2.1.symm, e.2.2.symm⟩
  · refine step_other_q h1 h3 (fun e => ?_) (fun e => ?_)
    · exact (clash_not h (hQ.trans e.1.symm)).2.2.1 ⟨e.2.1.symm, e.2.2.symm⟩
    · exact (clash_not h (hQ.trans e.1.symm)).2.2.2 ⟨e.2.1.symm, e.2.2.symm⟩
  · exact step_other_s h0 h2 (fun e => (clash_not h (hQ.trans e.1.symm)).2.1 ⟨e.2.1.symm, e.2.2.symm⟩)
  · exact step_other_s h1 h3 (fun e => (clash_not h (hQ.trans e.1.symm)).2.2.2 ⟨e.2.1.symm, e.2.2.symm⟩)
theorem held_fold : ∀ (xs : List TChannel) (ps : List TPart), xs.Pairwise (fun x y => ¬ Clash x y) → (∀ x ∈ xs, Good4 x) → ∀ x ∈ xs, Held ps (xs.foldl stepL ps) x
  | [], _, _, _, x, h => by cases h
  | y :: xs, ps, hp, hg, x, hx => by
    have hp' := List.pairwise_cons.1 hp
    have kept : ∀ (zs : List TChannel) (s : List TPart) (x : TChannel), Good4 x → (∀ z ∈ zs, ¬ Clash x z) → (x.Queuing = true → qAt (zs.foldl stepL s) x.From x.A = qAt s x.From x.A ∧ qAt (zs.foldl stepL s) x.To x.B = qAt s x.To x.B) ∧ (x.Queuing = false → sAt (zs.foldl stepL s) x.From x.A = sAt s x.From x.A ∧ sAt (zs.foldl stepL s) x.To x.B = sAt s x.To x.B) := by
      intro zs
      induction zs with
      | nil => intro s x _ _; exact ⟨fun _ => ⟨rfl, rfl⟩, fun _ => ⟨rfl, rfl⟩⟩
      | cons z zs ih =>
        intro s x hgx hz
        have h1 := ih (stepL s z) x hgx (fun z' hz' => hz z' (List.mem_cons_of_mem _ hz'))
        have h2 := ports_kept (s := s) hgx (hz z List.mem_cons_self)
        refine ⟨fun hQ => ?_, fun hQ => ?_⟩
        · exact ⟨((h1.1 hQ).1).trans (h2.1 hQ).1, ((h1.1 hQ).2).trans (h2.1 hQ).2⟩
        · exact ⟨((h1.2 hQ).1).trans (h2.2 hQ).1, ((h1.2 hQ).2).trans (h2.2 hQ).2⟩
    rw [List.foldl_cons]
    rcases List.mem_cons.1 hx with rfl | hx'
    · have hgx := hg x List.mem_cons_self
      have h1 := held_step (ps := ps) hgx.1 hgx.2.1 hgx.2.2.1 hgx.2.2.2.1 hgx.2.2.2.2
      have h2 := kept xs (stepL ps x) x hgx (fun z hz => hp'.1 z hz)
      refine ⟨fun hQ a b ha hb => ?_, fun hQ => ?_⟩
      · rw [(h2.1 hQ).1, (h2.1 hQ).2]
        exact h1.queue hQ a b ha hb
      · rw [(h2.2 hQ).1, (h2.2 hQ).2]
        exact h1.sample hQ
    · have hgx := hg x (List.mem_cons_of_mem _ hx')
      have h1 := held_fold xs (stepL ps y) hp'.2 (fun z hz => hg z (List.mem_cons_of_mem _ hz)) x hx'
      have h2 := ports_kept (s := ps) hgx (fun h => hp'.1 x hx' h.symm)
      refine ⟨fun hQ a b ha hb => ?_, fun hQ => ?_⟩
      · exact h1.queue hQ a b (by rw [(h2.1 hQ).1]; exact ha) (by rw [(h2.1 hQ).2]; exact hb)
      · have h3 := h1.sample hQ
        rw [(h2.2 hQ).1, (h2.2 hQ).2] at h3
        exact h3
theorem carry_twice (a b : TSample) : carryL a (carryL a b) = carryL a b := by
  unfold carryL
  by_cases h : a.Is = true <;> simp [h]
/-- A channel whose ports hold what it brings brings nothing. -/
theorem held_same {ps s : List TPart} {x : TChannel} (h : Held ps s x) (hg : Good4 x) (hq : x.Queuing = true → (qAt ps x.From x.A).isSome = true ∧ (qAt ps x.To x.B).isSome = true) : stepL s x = s := by
  obtain ⟨hf, h0, h1, h2, h3⟩ := hg
  cases hQ : x.Queuing with
  | true =>
    obtain ⟨ha, hb⟩ := hq hQ
    obtain ⟨a, ha⟩ := Option.isSome_iff_exists.1 ha
    obtain ⟨b, hb⟩ := Option.isSome_iff_exists.1 hb
    obtain ⟨e1, e2⟩ := h.queue hQ a b ha hb
    rw [step_q hQ h0 h1 h2 h3 e1 e2]
    simp only [moveQ_twice]
    have e1' : qAt s (x.From.toNat : Int) (x.A.toNat : Int) = some { a with Values := (moveQ a.Values b.Values b.Depth).1 } := by rw [nat_cast h0, nat_cast h2]; exact e1
    have e2' : qAt s (x.To.toNat : Int) (x.B.toNat : Int) = some { b with Values := (moveQ a.Values b.Values b.Depth).2 } := by rw [nat_cast h1, nat_cast h3]; exact e2
    rw [putQ_same e1', putQ_same e2']
  | false =>
    obtain ⟨e1, e2⟩ := h.sample hQ
    cases ha : sAt ps x.From x.A with
    | none => exact step_s_none hQ (.inl (by rw [e1, ha])) h2 h3 h0 h1
    | some a =>
      cases hb : sAt ps x.To x.B with
      | none => exact step_s_none hQ (.inr (by rw [e2, ha, hb])) h2 h3 h0 h1
      | some b =>
        rw [ha] at e1 e2
        rw [hb] at e2
        rw [step_s hQ h0 h1 h2 h3 e1 e2, carry_twice]
        have e2' : sAt s (x.To.toNat : Int) (x.B.toNat : Int) = some (carryL a b) := by rw [nat_cast h1, nat_cast h3]; exact e2
        exact putS_same e2'
theorem fine_good {ps : List TPart} {x : TChannel} (h : Fine ps x) : Good4 x := ⟨h.1, h.2.1, h.2.2.1, h.2.2.2.2.2.1, h.2.2.2.2.2.2.1⟩
theorem fine_q {ps : List TPart} {x : TChannel} (h : Fine ps x) (hQ : x.Queuing = true) : (qAt ps x.From x.A).isSome = true ∧ (qAt ps x.To x.B).isSome = true := by
  obtain ⟨_, _, _, _, _, hA, hB, hq⟩ := h
  obtain ⟨⟨p, hp, h1⟩, q, hq', h2⟩ := hq hQ
  unfold qAt
  rw [hp, hq']
  have l1 : x.A.toNat < p.Queues.length := by omega
  have l2 : x.B.toNat < q.Queues.length := by omega
  simp [l1, l2]
theorem fold_same (s : List TPart) : ∀ xs : List TChannel, (∀ x ∈ xs, stepL s x = s) → xs.foldl stepL s = s
  | [], _ => rfl
  | x :: xs, h => by
    rw [List.foldl_cons, h x List.mem_cons_self]
    exact fold_same s xs (fun y hy => h y (List.mem_cons_of_mem _ hy))
section
variable {cf : TConfig} {ps : List TPart} (hf : ∀ x ∈ cf.Channels, Fine ps x) (hp : cf.Channels.Pairwise (fun x y => ¬ Clash x y))
include hf hp
theorem keeps_step : ∀ x ∈ cf.Channels, stepL (moveL cf ps) x = moveL cf ps := fun x hx =>
  held_same (held_fold cf.Channels ps hp (fun y hy => fine_good (hf y hy)) x hx) (fine_good (hf x hx)) (fine_q (hf x hx))
theorem keeps_twice : moveL cf (moveL cf ps) = moveL cf ps := fold_same _ _ (keeps_step hf hp)
theorem keeps_take (k : Nat) : (cf.Channels.take k).foldl stepL (moveL cf ps) = moveL cf ps := fold_same _ _ (fun x hx => keeps_step hf hp x (List.mem_of_mem_take hx))
theorem keeps_values {x : TChannel} (hx : x ∈ cf.Channels) (hQ : x.Queuing = true) {p q p' q' : TPart} {a b a' b' : TQueue} (h1 : ps[x.From.toNat]? = some p) (h2 : ps[x.To.toNat]? = some q) (h3 : p.Queues[x.A.toNat]? = some a) (h4 : q.Queues[x.B.toNat]? = some b) (h5 : (moveL cf ps)[x.From.toNat]? = some p') (h6 : (moveL cf ps)[x.To.toNat]? = some q') (h7 : p'.Queues[x.A.toNat]? = some a') (h8 : q'.Queues[x.B.toNat]? = some b') : b'.Values ++ a'.Values = b.Values ++ a.Values := by
  obtain ⟨e1, e2⟩ := (held_fold cf.Channels ps hp (fun y hy => fine_good (hf y hy)) x hx).queue hQ a b (by unfold qAt; rw [h1]; exact h3) (by unfold qAt; rw [h2]; exact h4)
  unfold qAt at e1 e2
  unfold moveL at h5 h6
  rw [h5] at e1
  rw [h6] at e2
  simp only [Option.bind_some] at e1 e2
  rw [h7] at e1
  rw [h8] at e2
  cases e1
  cases e2
  exact moveQ_keeps _ _ _
end
end Go.Proofs.Ytfhghnhgcdiknaa
