/- The document's Move is the channels' one: plain. -/
import Derived.Test.YtfhghnhgcdiknaaWv
set_option linter.unusedVariables false
namespace Go.Proofs.Ytfhghnhgcdiknaa
open Go.RowKit
theorem portL_true {ps : List TPart} {q : Bool} {part at_ : Int} (h : portL ps q part at_ = true) : ∃ p, ps[part.toNat]? = some p ∧ 0 ≤ part ∧ 0 ≤ at_ ∧ part.toNat < ps.length ∧ at_ < ((if q then p.Queues.length else p.Samples.length : Nat) : Int) := by
  unfold portL at h
  split at h
  · rename_i h0
    split at h
    · rename_i p hp
      exact ⟨p, hp, h0.1, h0.2, (List.getElem?_eq_some_iff.1 hp).1, of_decide_eq_true h⟩
    · cases h
  · cases h
theorem portL_in {ps : List TPart} {q : Bool} {part at_ : Int} {p : TPart} (hp : ps[part.toNat]? = some p) (h0 : 0 ≤ part) (h1 : 0 ≤ at_) (h2 : at_ < ((if q then p.Queues.length else p.Samples.length : Nat) : Int)) : portL ps q part at_ = true := by
  unfold portL
  rw [if_pos ⟨h0, h1⟩, hp]
  exact decide_eq_true h2
theorem refstep_none {ps : List TPart} {x : TChannel} (h : portL ps x.Queuing x.From x.A = false ∨ portL ps x.Queuing x.To x.B = false) : stepL ps x = ps := by
  have no : ∀ {p q : TPart}, ps[x.From.toNat]? = some p → ps[x.To.toNat]? = some q → 0 ≤ x.From → 0 ≤ x.To → 0 ≤ x.A → 0 ≤ x.B → x.A < ((if x.Queuing then p.Queues.length else p.Samples.length : Nat) : Int) → x.B < ((if x.Queuing then q.Queues.length else q.Samples.length : Nat) : Int) → False := by
    intro p q hp hq h0 h1 h2 h3 h4 h5
    rw [portL_in hp h0 h2 h4, portL_in hq h1 h3 h5] at h
    simp at h
  unfold stepL
  split
  · rename_i hr
    split
    · rename_i p q hp hq
      by_cases hQ : x.Queuing = true
      · rw [if_pos hQ]
        split
        · rename_i a b ha hb
          exfalso
          split at ha
          · split at hb
            · have h1 := (List.getElem?_eq_some_iff.1 ha).1
              have h2 := (List.getElem?_eq_some_iff.1 hb).1
              exact no hp hq hr.1 hr.2.2.1 (by assumption) (by assumption) (by rw [if_pos hQ]; omega) (by rw [if_pos hQ]; omega)
            · cases hb
          · cases ha
        · rfl
      · rw [if_neg hQ]
        split
        · rename_i a b ha hb
          exfalso
          split at ha
          · split at hb
            · have h1 := (List.getElem?_eq_some_iff.1 ha).1
              have h2 := (List.getElem?_eq_some_iff.1 hb).1
              exact no hp hq hr.1 hr.2.2.1 (by assumption) (by assumption) (by rw [if_neg hQ]; omega) (by rw [if_neg hQ]; omega)
            · cases hb
          · cases ha
        · rfl
    · rfl
  · rfl
theorem putQ_putQ {ps : List TPart} (i a : Nat) (u v : TQueue) : putQP (putQP ps i a u) i a v = putQP ps i a v := by
  unfold putQP
  apply List.ext_getElem?
  intro k
  simp only [List.getElem?_modify]
  by_cases h : i = k
  · subst h
    cases ps[i]? <;> simp
  · simp [h]
theorem refstep_q {ps : List TPart} {x : TChannel} {p q : TPart} {qa qb : TQueue} (hQ : x.Queuing = true) (hp : ps[x.From.toNat]? = some p) (hq : ps[x.To.toNat]? = some q) (h0 : 0 ≤ x.From) (h1 : 0 ≤ x.To) (ha0 : 0 ≤ x.A) (hb0 : 0 ≤ x.B) (ha : p.Queues[x.A.toNat]? = some qa) (hb : q.Queues[x.B.toNat]? = some qb) :
    putQP (putQP ps x.From.toNat x.A.toNat { qa with Values := (moveQ qa.Values qb.Values qb.Depth).1 }) x.To.toNat x.B.toNat { qb with Values := (moveQ qa.Values qb.Values qb.Depth).2 } = stepL ps x := by
  obtain ⟨Q, fr, a, to, b⟩ := x
  simp only at hQ hp hq h0 h1 ha0 hb0 ha hb ⊢
  subst hQ
  obtain ⟨i, rfl⟩ := Int.eq_ofNat_of_zero_le h0
  obtain ⟨j, rfl⟩ := Int.eq_ofNat_of_zero_le h1
  obtain ⟨hal, rfl⟩ := List.getElem?_eq_some_iff.1 ha
  obtain ⟨hbl, rfl⟩ := List.getElem?_eq_some_iff.1 hb
  simp only [Int.toNat_natCast] at hp hq ⊢
  rw [step_in_q hp hq ha0 hal hb0 hbl]
  split
  · rename_i e
    obtain ⟨rfl, rfl⟩ := e
    rw [putQ_putQ, putQ_putQ]
  · rfl
theorem refstep_s {ps : List TPart} {x : TChannel} {p q : TPart} {sa sb : TSample} (hQ : x.Queuing = false) (hp : ps[x.From.toNat]? = some p) (hq : ps[x.To.toNat]? = some q) (h0 : 0 ≤ x.From) (h1 : 0 ≤ x.To) (ha0 : 0 ≤ x.A) (hb0 : 0 ≤ x.B) (ha : p.Samples[x.A.toNat]? = some sa) (hb : q.Samples[x.B.toNat]? = some sb) :
    putSP ps x.To.toNat x.B.toNat (carryL sa sb) = stepL ps x := by
  obtain ⟨Q, fr, a, to, b⟩ := x
  simp only at hQ hp hq h0 h1 ha0 hb0 ha hb ⊢
  subst hQ
  obtain ⟨i, rfl⟩ := Int.eq_ofNat_of_zero_le h0
  obtain ⟨j, rfl⟩ := Int.eq_ofNat_of_zero_le h1
  obtain ⟨hal, rfl⟩ := List.getElem?_eq_some_iff.1 ha
  obtain ⟨hbl, rfl⟩ := List.getElem?_eq_some_iff.1 hb
  simp only [Int.toNat_natCast] at hp hq ⊢
  rw [step_in_s hp hq ha0 hal hb0 hbl]
theorem get_putQ {ps : List TPart} {i a j : Nat} {u : TQueue} {y : TPart} (h : ps[j]? = some y) : ∃ y', (putQP ps i a u)[j]? = some y' ∧ y'.Queues.length = y.Queues.length ∧ y'.Samples.length = y.Samples.length := by
  unfold putQP
  rw [List.getElem?_modify, h]
  by_cases e : i = j
  · exact ⟨{ y with Queues := y.Queues.set a u }, by simp [e], by simp, rfl⟩
  · exact ⟨y, by simp [e], rfl, rfl⟩
/-- How many ports there are. -/
def QL (ps : List TPart) (n : Nat) : Prop := ∀ p, p ∈ ps → p.Queues.length ≤ n ∧ p.Samples.length ≤ n
theorem QL.put {ps : List TPart} {n : Nat} (h : QL ps n) (i a : Nat) (q : TQueue) : QL (putQP ps i a q) n := by
  intro p hp
  obtain ⟨k, hk⟩ := List.mem_iff_getElem?.1 hp
  unfold putQP at hk
  rw [List.getElem?_modify] at hk
  cases hg : ps[k]? with
  | none => rw [hg] at hk; simp at hk
  | some p0 =>
    rw [hg] at hk
    simp only [Option.map_eq_map, Option.map_some, Option.some.injEq] at hk
    have h0 := h p0 (List.mem_of_getElem? hg)
    split at hk
    · subst hk; simpa using h0
    · subst hk; exact h0
theorem QL.putS {ps : List TPart} {n : Nat} (h : QL ps n) (i a : Nat) (q : TSample) : QL (putSP ps i a q) n := by
  intro p hp
  obtain ⟨k, hk⟩ := List.mem_iff_getElem?.1 hp
  unfold putSP at hk
  rw [List.getElem?_modify] at hk
  cases hg : ps[k]? with
  | none => rw [hg] at hk; simp at hk
  | some p0 =>
    rw [hg] at hk
    simp only [Option.map_eq_map, Option.map_some, Option.some.injEq] at hk
    have h0 := h p0 (List.mem_of_getElem? hg)
    split at hk
    · subst hk; simpa using h0
    · subst hk; exact h0
theorem QL.step {ps : List TPart} {n : Nat} (h : QL ps n) (x : TChannel) : QL (stepL ps x) n := by
  unfold stepL
  split
  · split
    · split
      · split
        · exact (h.put _ _ _).put _ _ _
        · exact h
      · split
        · exact h.putS _ _ _
        · exact h
    · exact h
  · exact h
theorem fold_QL (xs : List TChannel) : ∀ (ps : List TPart) (n : Nat), QL ps n → QL (xs.foldl stepL ps) n := by
  induction xs with
  | nil => intro ps n h; exact h
  | cons x xs ih => intro ps n h; exact ih _ _ (h.step x)
theorem QL.of_small {ps : List TPart} (h : ∀ p, p ∈ ps → PartSmall p) : QL ps 100000000 := fun p hp => by
  obtain ⟨_, _, _, _, _, _, h7, h8, _⟩ := h p hp
  exact ⟨h8, h7⟩
/-! ### Calls that take ints -/
section
variable {ps : List TPart} {A : Option Addr} {c : Nat} {i a : Int} {p : TPart} {cq : List Value} {ok ok2 : Nat → Prop}
theorem refqueueZ {q : TQueue} (w : World) (hx : Sl Kd.part w ok A c ps) (h0 : 0 ≤ i) (h1 : 0 ≤ a) (hi : ps[i.toNat]? = some p) (ha : a.toNat < p.Queues.length) (hn : ps.length ≤ 100000000) (hm : p.Queues.length ≤ 100000000) (hq : Kd.queue.K w ok2 q cq) :
    Calls Try.prog 26 #[.slice A ps.length c, .int .i64 i, .int .i64 a, .agg cq.toArray] w (fun e w' => ∃ A' c', e = .returned (.slice A' (putQP ps i.toNat a.toNat q).length c') ∧ Ext w w' ∧ Sl Kd.part w' (fun _ => True) A' c' (putQP ps i.toNat a.toNat q)) := by
  rw [show (putQP ps i.toNat a.toNat q).length = ps.length by simp [putQP]]
  obtain ⟨i, rfl⟩ := Int.eq_ofNat_of_zero_le h0
  obtain ⟨a, rfl⟩ := Int.eq_ofNat_of_zero_le h1
  exact refqueue w hx hi ha hn hm hq
theorem refsampleZ {q : TSample} (w : World) (hx : Sl Kd.part w ok A c ps) (h0 : 0 ≤ i) (h1 : 0 ≤ a) (hi : ps[i.toNat]? = some p) (ha : a.toNat < p.Samples.length) (hn : ps.length ≤ 100000000) (hm : p.Samples.length ≤ 100000000) (hq : Kd.sample.K w ok2 q cq) :
    Calls Try.prog 27 #[.slice A ps.length c, .int .i64 i, .int .i64 a, .agg cq.toArray] w (fun e w' => ∃ A' c', e = .returned (.slice A' (putSP ps i.toNat a.toNat q).length c') ∧ Ext w w' ∧ Sl Kd.part w' (fun _ => True) A' c' (putSP ps i.toNat a.toNat q)) := by
  rw [show (putSP ps i.toNat a.toNat q).length = ps.length by simp [putSP]]
  obtain ⟨i, rfl⟩ := Int.eq_ofNat_of_zero_le h0
  obtain ⟨a, rfl⟩ := Int.eq_ofNat_of_zero_le h1
  exact refsample w hx hi ha hn hm hq
end
/-! ### What a call has made and is not written any more -/
theorem Kd.lt_ {α : Type} (d : Kd α) {w : World} {ok : Nat → Prop} {x : α} {cs : List Value} (h : d.K w ok x cs) : d.K w (fun k => k < w.heap.size) x cs := d.mono (fun _ _ h => h) h
theorem Kd.foot {α : Type} (d : Kd α) {w : World} {ok fp : Nat → Prop} {x : α} {cs : List Value} (h : d.K w ok x cs) (hok : ∀ k, ok k → k < w.heap.size → fp k) : Foot (fun w' => d.K w' ok x cs) w fp := fun w' hw => d.move (fun k hk hlt => hw k (hok k hk hlt) hlt) h
theorem St.callv {G : Nat} {w0 w w1 : World} {H : List Res} (h : St G w0 w H) (hx : Ext w w1) {φ : World → Prop} (hf : Foot φ w1 (fun k => k < G ∨ (w.heap.size ≤ k ∧ k < w1.heap.size))) : St G w0 w1 (.ro (fun k => w.heap.size ≤ k ∧ k < w1.heap.size) φ :: H) := by
  have h1 := h.ext hx
  refine ⟨h1.below, h1.drawn, fun r hr => ?_, fun r hr => ?_, List.pairwise_cons.2 ⟨fun r hr b hb hb2 => ?_, h1.sep⟩⟩
  · rcases List.mem_cons.1 hr with rfl | hr
    · exact hf
    · exact h1.foot r hr
  · rcases List.mem_cons.1 hr with rfl | hr
    · exact fun b hb => ⟨Nat.le_trans h.size hb.1, hb.2⟩
    · exact h1.dom r hr
  · have h2 := (h.dom r hr b hb2).2
    have h3 : w.heap.size ≤ b := hb.1
    omega
theorem St.callK2 {α β : Type} (d : Kd α) (e : Kd β) {G : Nat} {w0 w w1 : World} {H : List Res} {ok ok2 : Nat → Prop} {x : α} {y : β} {ca cb : List Value} (h : St G w0 w H) (hx : Ext w w1) (ha : d.K w1 ok x ca) (hb : e.K w1 ok2 y cb) (hok : ∀ k, ok k → k < G ∨ w.heap.size ≤ k) (hok2 : ∀ k, ok2 k → k < G ∨ w.heap.size ≤ k) :
    St G w0 w1 (.ro (fun k => w.heap.size ≤ k ∧ k < w1.heap.size) (fun w' => d.K w' (fun _ => True) x ca ∧ e.K w' (fun _ => True) y cb) :: H) :=
  h.callv hx (((d.foot ha (fun k hk hlt => (hok k hk).imp id (fun h => ⟨h, hlt⟩))).and (e.foot hb (fun k hk hlt => (hok2 k hk).imp id (fun h => ⟨h, hlt⟩)))).imp (fun w' h => ⟨d.all_ h.1, e.all_ h.2⟩))
end Go.Proofs.Ytfhghnhgcdiknaa
