/- The document's ports. -/
import Derived.Test.YtfhghnhgcdiknaaWu
set_option linter.unusedVariables false
namespace Go.Proofs.Ytfhghnhgcdiknaa
open Go.RowKit
def portL (ps : List TPart) (q : Bool) (part at_ : Int) : Bool := if 0 ≤ part ∧ 0 ≤ at_ then match ps[part.toNat]? with
  | some p => decide (at_ < ((if q then p.Queues.length else p.Samples.length : Nat) : Int))
  | none => false else false
theorem portL_out {ps : List TPart} {q : Bool} {part at_ : Int} (h : part < 0 ∨ (ps.length : Int) ≤ part ∨ at_ < 0) : portL ps q part at_ = false := by
  unfold portL
  split
  · rename_i h1
    rw [List.getElem?_eq_none (by omega)]
  · rfl
theorem portL_q {ps : List TPart} {part at_ : Int} {x : TPart} (hx : ps[part.toNat]? = some x) (h0 : 0 ≤ part) (h1 : 0 ≤ at_) : portL ps true part at_ = decide (at_ < (x.Queues.length : Int)) := by
  unfold portL
  rw [if_pos ⟨h0, h1⟩, hx]
  rfl
theorem portL_s {ps : List TPart} {part at_ : Int} {x : TPart} (hx : ps[part.toNat]? = some x) (h0 : 0 ≤ part) (h1 : 0 ≤ at_) : portL ps false part at_ = decide (at_ < (x.Samples.length : Int)) := by
  unfold portL
  rw [if_pos ⟨h0, h1⟩, hx]
  rfl
theorem put_modify {ps : List TPart} {i : Nat} {p : TPart} (h : ps[i]? = some p) (f : TPart → TPart) : ps.modify i f = ps.set i (f p) := by
  apply List.ext_getElem?
  intro k
  rw [List.getElem?_modify, List.getElem?_set]
  by_cases e : i = k
  · subst e
    obtain ⟨hi, hp⟩ := List.getElem?_eq_some_iff.1 h
    simp [hi, hp]
  · simp [e]
section
variable {w' : World} {ok ok2 : Nat → Prop} {ps : List TPart} {i a : Nat} {p : TPart} {DO : Option Addr} {kO : Nat} {csO csQ cq : List Value} {A : Option Addr} {c : Nat}
theorem fin_queue {q : TQueue} (hp : ps[i]? = some p) (ha : a < p.Queues.length) (hRO : Reps Kd.part w' ok ps csO) (hRQ : Reps Kd.queue w' ok p.Queues csQ) (hq : Kd.queue.K w' ok2 q cq)
    (hO : w'.ownsRow 0 48 15 (.slice DO ps.length kO) ps.length (csO.take (i * 15 + 10) ++ [.slice A p.Queues.length c] ++ csO.drop (i * 15 + 10 + 1))) (hQ : w'.ownsRow 0 52 3 (.slice A p.Queues.length c) p.Queues.length (csQ.take (a * 3) ++ cq ++ csQ.drop (a * 3 + 3))) :
    Sl Kd.part w' (fun _ => True) DO kO (putQP ps i a q) := by
  have hi := (List.getElem?_eq_some_iff.1 hp).1
  have hl : cq.length = 3 := Kd.queue.len hq
  have h1 := (hRQ.all_).set ha (Kd.queue.all_ hq)
  rw [hl] at h1
  have h2 := row_slT (d := Kd.queue) hQ h1 (by rw [List.length_set])
  have h3 := part_setQ (Kd.part.all_ (hRO.2 i p hp)) h2
  have hfit : i * 15 + 15 ≤ csO.length := by rw [hRO.1, ← Nat.succ_mul]; exact Nat.mul_le_mul_right _ hi
  have h4 : ((csO.drop (i * 15)).take 15).length = 15 := by rw [List.length_take, List.length_drop]; omega
  have h5 := (hRO.all_).set hi h3
  simp only [List.length_set] at h5
  rw [show (List.take Kd.part.sz (List.drop (i * Kd.part.sz) csO)).length = 15 from h4] at h5
  rw [seg_put (k := 15) rfl h4 (by decide)] at hO
  have h6 := row_slT (d := Kd.part) hO h5 (by rw [List.length_set])
  unfold putQP
  rw [put_modify hp]
  exact h6
theorem fin_sample {q : TSample} (hp : ps[i]? = some p) (ha : a < p.Samples.length) (hRO : Reps Kd.part w' ok ps csO) (hRQ : Reps Kd.sample w' ok p.Samples csQ) (hq : Kd.sample.K w' ok2 q cq)
    (hO : w'.ownsRow 0 48 15 (.slice DO ps.length kO) ps.length (csO.take (i * 15 + 9) ++ [.slice A p.Samples.length c] ++ csO.drop (i * 15 + 9 + 1))) (hQ : w'.ownsRow 0 56 3 (.slice A p.Samples.length c) p.Samples.length (csQ.take (a * 3) ++ cq ++ csQ.drop (a * 3 + 3))) :
    Sl Kd.part w' (fun _ => True) DO kO (putSP ps i a q) := by
  have hi := (List.getElem?_eq_some_iff.1 hp).1
  have hl : cq.length = 3 := Kd.sample.len hq
  have h1 := (hRQ.all_).set ha (Kd.sample.all_ hq)
  rw [hl] at h1
  have h2 := row_slT (d := Kd.sample) hQ h1 (by rw [List.length_set])
  have h3 := part_setS (Kd.part.all_ (hRO.2 i p hp)) h2
  have hfit : i * 15 + 15 ≤ csO.length := by rw [hRO.1, ← Nat.succ_mul]; exact Nat.mul_le_mul_right _ hi
  have h4 : ((csO.drop (i * 15)).take 15).length = 15 := by rw [List.length_take, List.length_drop]; omega
  have h5 := (hRO.all_).set hi h3
  simp only [List.length_set] at h5
  rw [show (List.take Kd.part.sz (List.drop (i * Kd.part.sz) csO)).length = 15 from h4] at h5
  rw [seg_put (k := 15) rfl h4 (by decide)] at hO
  have h6 := row_slT (d := Kd.part) hO h5 (by rw [List.length_set])
  unfold putSP
  rw [put_modify hp]
  exact h6
end

set_option maxRecDepth 100000 in
theorem refport {ps : List TPart} {A : Option Addr} {c : Nat} {q : Bool} {part at_ : Int} (w : World) {ok : Nat → Prop} (hx : Sl Kd.part w ok A c ps) :
    Calls Try.prog 24 #[.slice A ps.length c, .bool q, .int .i64 part, .int .i64 at_] w (fun e w' => e = .returned (.bool (portL ps q part at_)) ∧ St 0 w w' []) := by
  refine q_call (n := 38) (args := [.slice A ps.length c, .bool q, .int .i64 part, .int .i64 at_]) Try.func24 rfl rfl rfl ?_
  have hs0 := St.refl 0 w
  have hlx := hx.len
  refine s_seq ?_
  refine s_region ?_
  refine l_r (r_assign rfl) rfl ?_
  refine l_nil ?_
  refine s_seq ?_
  refine s_seq ?_
  refine s_region ?_
  refine l_r (r_move rfl) rfl ?_
  refine l_r (r_cmp rfl rfl rfl) rfl ?_
  refine l_r (r_move rfl) rfl ?_
  refine l_part (dj := 11) rfl (fun hc1 => ?_) (fun hc1 => ?_)
  ·
    have hc1p := of_decide_eq_true hc1
    refine l_off (dj := 11) (b := true) rfl rfl rfl rfl rfl ?_
    refine l_off (dj := 11) (b := true) rfl rfl rfl rfl rfl ?_
    refine l_off (dj := 11) (b := true) rfl rfl rfl rfl rfl ?_
    refine l_off (dj := 11) (b := true) rfl rfl rfl rfl rfl ?_
    refine l_r (r_pick_t rfl rfl) rfl ?_
    refine l_r (r_move rfl) rfl ?_
    refine l_off (dj := 17) (b := true) rfl rfl rfl rfl rfl ?_
    refine l_off (dj := 17) (b := true) rfl rfl rfl rfl rfl ?_
    refine l_r (r_pick_t rfl rfl) rfl ?_
    refine l_nil ?_
    refine s_then rfl ?_
    refine s_seq ?_
    refine s_region ?_
    refine l_r (r_assign rfl) rfl ?_
    refine l_nil ?_
    refine s_ret ?_
    exact q_done (.inr rfl) (.tmp rfl .nil) ⟨ret_bool (portL_out (by omega)).symm, hs0.nil⟩
  ·
    have hc1p := of_decide_eq_false hc1
    refine l_on (dj := 11) rfl rfl rfl ?_
    refine l_r (r_move rfl) rfl ?_
    refine l_on (dj := 11) rfl rfl rfl ?_
    refine l_r (r_move rfl) rfl ?_
    refine l_on (dj := 11) rfl rfl rfl ?_
    refine l_r (r_len rfl el28) rfl ?_
    refine l_on (dj := 11) rfl rfl rfl ?_
    refine l_r (r_cmp rfl rfl rfl) rfl ?_
    refine l_r (r_pick_f rfl rfl) rfl ?_
    refine l_r (r_move rfl) rfl ?_
    refine l_part (dj := 17) rfl (fun hc2 => ?_) (fun hc2 => ?_)
    ·
      have hc2p := of_decide_eq_true hc2
      refine l_off (dj := 17) (b := true) rfl rfl rfl rfl rfl ?_
      refine l_off (dj := 17) (b := true) rfl rfl rfl rfl rfl ?_
      refine l_r (r_pick_t rfl rfl) rfl ?_
      refine l_nil ?_
      refine s_then rfl ?_
      refine s_seq ?_
      refine s_region ?_
      refine l_r (r_assign rfl) rfl ?_
      refine l_nil ?_
      refine s_ret ?_
      exact q_done (.inr rfl) (.tmp rfl .nil) ⟨ret_bool (portL_out (by omega)).symm, hs0.nil⟩
    ·
      have hc2p := of_decide_eq_false hc2
      refine l_on (dj := 17) rfl rfl rfl ?_
      refine l_r (r_move rfl) rfl ?_
      refine l_on (dj := 17) rfl rfl rfl ?_
      refine l_r (r_cmp rfl rfl rfl) rfl ?_
      refine l_r (r_pick_f rfl rfl) rfl ?_
      refine l_nil ?_
      refine s_part (dj := 20) rfl (fun hc3 => ?_) (fun hc3 => ?_)
      ·
        have hc3p := of_decide_eq_true hc3
        refine s_then rfl ?_
        refine s_seq ?_
        refine s_region ?_
        refine l_r (r_assign rfl) rfl ?_
        refine l_nil ?_
        refine s_ret ?_
        exact q_done (.inr rfl) (.tmp rfl .nil) ⟨ret_bool (portL_out (by omega)).symm, hs0.nil⟩
      ·
        have hc3p := of_decide_eq_false hc3
        refine s_else rfl ?_
        refine s_skip ?_
        refine s_seq ?_
        refine s_seq ?_
        refine s_region ?_
        refine l_r (r_move rfl) rfl ?_
        refine l_nil ?_
        refine s_part (dj := 21) rfl (fun hq => ?_) (fun hq => ?_)
        ·
          refine s_then rfl ?_
          refine s_seq ?_
          refine s_region ?_
          refine l_r (r_move rfl) rfl ?_
          refine l_r (r_move rfl) rfl ?_
          refine l_r (r_move rfl) rfl ?_
          obtain ⟨e5x, e5h, e5b, e5o, e5cs, e5A, _, e5K, e5c⟩ := hx.get_ (i := part.toNat) (by omega)
          have e5K0 := e5K
          obtain ⟨Ae5_3, ce5_3, Ae5_4, ce5_4, Ae5_5, ce5_5, Ae5_6, ce5_6, Ae5_7, ce5_7, Ae5_8, ce5_8, Ae5_9, ce5_9, Ae5_10, ce5_10, Ae5_12, ce5_12, Ae5_14, ce5_14, rfl, he5_3, he5_4, he5_5, he5_6, he5_7, he5_8, he5_9, he5_10, he5_12, he5_14⟩ := e5K
          refine l_r (r_indexA rfl e5A rfl (by omega) (by omega) el28) rfl ?_
          refine l_r (r_field rfl fo48_10) rfl ?_
          refine l_r (r_load1 rfl ag44 ((e5c.on hs0).get (j := 10) rfl)) rfl ?_
          refine l_r (r_len rfl el44) rfl ?_
          refine l_r (r_cmp rfl rfl rfl) rfl ?_
          refine l_r (r_assign rfl) rfl ?_
          refine l_nil ?_
          refine s_ret ?_
          subst hq
          exact q_done (.inr rfl) (.tmp rfl .nil) ⟨ret_bool (portL_q e5h (by omega) (by omega)).symm, hs0.nil⟩
        ·
          refine s_else rfl ?_
          refine s_skip ?_
          refine s_seq ?_
          refine s_region ?_
          refine l_r (r_move rfl) rfl ?_
          refine l_r (r_move rfl) rfl ?_
          refine l_r (r_move rfl) rfl ?_
          obtain ⟨e6x, e6h, e6b, e6o, e6cs, e6A, _, e6K, e6c⟩ := hx.get_ (i := part.toNat) (by omega)
          have e6K0 := e6K
          obtain ⟨Ae6_3, ce6_3, Ae6_4, ce6_4, Ae6_5, ce6_5, Ae6_6, ce6_6, Ae6_7, ce6_7, Ae6_8, ce6_8, Ae6_9, ce6_9, Ae6_10, ce6_10, Ae6_12, ce6_12, Ae6_14, ce6_14, rfl, he6_3, he6_4, he6_5, he6_6, he6_7, he6_8, he6_9, he6_10, he6_12, he6_14⟩ := e6K
          refine l_r (r_indexA rfl e6A rfl (by omega) (by omega) el28) rfl ?_
          refine l_r (r_field rfl fo48_9) rfl ?_
          refine l_r (r_load1 rfl ag43 ((e6c.on hs0).get (j := 9) rfl)) rfl ?_
          refine l_r (r_len rfl el43) rfl ?_
          refine l_r (r_cmp rfl rfl rfl) rfl ?_
          refine l_r (r_assign rfl) rfl ?_
          refine l_nil ?_
          refine s_ret ?_
          subst hq
          exact q_done (.inr rfl) (.tmp rfl .nil) ⟨ret_bool (portL_s e6h (by omega) (by omega)).symm, hs0.nil⟩

set_option maxRecDepth 100000 in
theorem refqueue {ps : List TPart} {A : Option Addr} {c i a : Nat} {p : TPart} {q : TQueue} {cq : List Value} (w : World) {ok ok2 : Nat → Prop} (hx : Sl Kd.part w ok A c ps) (hi : ps[i]? = some p) (ha : a < p.Queues.length) (hn : ps.length ≤ 100000000) (hm : p.Queues.length ≤ 100000000) (hq : Kd.queue.K w ok2 q cq) :
    Calls Try.prog 26 #[.slice A ps.length c, .int .i64 (i : Int), .int .i64 (a : Int), .agg cq.toArray] w (fun e w' => ∃ A' c', e = .returned (.slice A' ps.length c') ∧ Ext w w' ∧ Sl Kd.part w' (fun _ => True) A' c' (putQP ps i a q)) := by
  refine q_call (n := 29) (args := [.slice A ps.length c, .int .i64 (i : Int), .int .i64 (a : Int), .agg cq.toArray]) Try.func26 rfl rfl rfl ?_
  have hs0 := St.refl 0 w
  have hq0 := hq
  obtain ⟨Aq, dq, rfl, hq1⟩ := hq
  have hlx := hx.len
  have hii := (List.getElem?_eq_some_iff.1 hi).1
  refine s_seq ?_
  refine s_region ?_
  refine l_box rfl rfl rfl hs0 ?_
  intro w1 b7 hb7 hx1 hs1
  refine l_r (r_assign rfl) rfl ?_
  refine l_nil ?_
  refine s_seq ?_
  refine s_region ?_
  refine l_r (r_move rfl) rfl ?_
  refine l_copyB hs1 (dk := Kd.part) Try.underlying28 rw48 rfl rfl rfl rfl (hx) (by omega) rfl rfl ?_
  intro _ nO w2 hRO hx2
  obtain ⟨gO, kO, rfl, hcapO⟩ := row_some (hx2.get (r := .row _ _ _ _ _ _) List.mem_cons_self) (by omega)
  have hs2 := hs1.call1 hx2
  refine l_r (r_assign rfl) rfl ?_
  refine l_nil ?_
  refine s_seq ?_
  refine s_region ?_
  refine l_r (r_move rfl) rfl ?_
  refine l_r (r_move rfl) rfl ?_
  obtain ⟨e3b, e3o, e3cs, e3A, _, e3K, e3c⟩ := hx.2.2 _ _ hi
  have e3K0 := e3K
  obtain ⟨Ae3_3, ce3_3, Ae3_4, ce3_4, Ae3_5, ce3_5, Ae3_6, ce3_6, Ae3_7, ce3_7, Ae3_8, ce3_8, Ae3_9, ce3_9, Ae3_10, ce3_10, Ae3_12, ce3_12, Ae3_14, ce3_14, rfl, he3_3, he3_4, he3_5, he3_6, he3_7, he3_8, he3_9, he3_10, he3_12, he3_14⟩ := e3K
  refine l_r (r_indexA rfl e3A rfl (by omega) (by omega) el28) rfl ?_
  refine l_r (r_field rfl fo48_10) rfl ?_
  refine l_r (r_load1 rfl ag44 ((e3c.on hs2).get (j := 10) rfl)) rfl ?_
  refine l_copyB hs2 (dk := Kd.queue) Try.underlying44 rw52 rfl rfl rfl rfl (he3_10) (by omega) rfl rfl ?_
  intro _ nQ w4 hRQ hx4
  obtain ⟨gQ, kQ, rfl, hcapQ⟩ := row_some (hx4.get (r := .row _ _ _ _ _ _) List.mem_cons_self) (by omega)
  have hs4 := hs2.call1 hx4
  refine l_r (r_assign rfl) rfl ?_
  refine l_nil ?_
  refine s_seq ?_
  have hlQ : nQ.length = p.Queues.length * 3 := hRQ.1
  have hlO : nO.length = ps.length * 15 := hRO.1
  refine s_region ?_
  refine l_r (r_move rfl) rfl ?_
  refine l_r (r_move rfl) rfl ?_
  refine l_r (r_loadNp rfl hs4 (Repl.there (Repl.there Repl.here)) ag52 sz52) rfl ?_
  refine l_r (r_index rfl rfl (by omega) (by omega) el44) rfl ?_
  refine l_storeR (base := 0) (e := 52) (sz := 3) (cs := nQ) (cs' := nQ.take (a * 3) ++ [.int .i64 q.Depth, .slice Aq q.Values.length dq, .int .i64 q.Lost] ++ nQ.drop (a * 3 + 3)) rfl rfl rfl sz52 (one_all rfl) (Nat.zero_le _) hs4 Repl.here (by simp only [Nat.zero_add, Int.toNat_natCast, List.length_cons, List.length_nil]; omega) (by simp only [Nat.zero_add, Int.toNat_natCast]; rfl) ?_
  intro w5 hz5 hk5 hs5
  refine l_nil ?_
  refine s_seq ?_
  refine s_region ?_
  refine l_r (r_move rfl) rfl ?_
  refine l_r (r_move rfl) rfl ?_
  refine l_r (r_move rfl) rfl ?_
  refine l_r (r_index rfl rfl (by omega) (by omega) el28) rfl ?_
  refine l_r (r_field rfl fo48_10) rfl ?_
  refine l_storeR (base := 0) (e := 48) (sz := 15) (cs := nO) (cs' := nO.take (i * 15 + 10) ++ [.slice (some ⟨gQ, 0, none⟩) p.Queues.length kQ] ++ nO.drop (i * 15 + 10 + 1)) rfl rfl rfl sz44 (one_all rfl) (Nat.zero_le _) hs5 (Repl.there Repl.here) (by simp only [Nat.zero_add, Int.toNat_natCast, List.length_cons, List.length_nil]; omega) (by simp only [Nat.zero_add, Int.toNat_natCast]; rfl) ?_
  intro w6 hz6 hk6 hs6
  refine l_nil ?_
  refine s_seq ?_
  refine s_region ?_
  refine l_r (r_move rfl) rfl ?_
  refine l_r (r_assign rfl) rfl ?_
  refine l_nil ?_
  refine s_ret ?_
  exact q_done (.inr rfl) (.tmp rfl .nil) ⟨_, _, rfl, hs6.toExt, fin_queue hi ha ((hRO.all_).onr hs6) ((hRQ.all_).onr hs6) (Kd.queue.on hq0 hs6) (hs6.get (r := .row 0 48 15 _ ps.length _) (List.mem_cons_of_mem _ List.mem_cons_self)) (hs6.get (r := .row 0 52 3 _ p.Queues.length _) List.mem_cons_self)⟩

set_option maxRecDepth 100000 in
theorem refsample {ps : List TPart} {A : Option Addr} {c i a : Nat} {p : TPart} {q : TSample} {cq : List Value} (w : World) {ok ok2 : Nat → Prop} (hx : Sl Kd.part w ok A c ps) (hi : ps[i]? = some p) (ha : a < p.Samples.length) (hn : ps.length ≤ 100000000) (hm : p.Samples.length ≤ 100000000) (hq : Kd.sample.K w ok2 q cq) :
    Calls Try.prog 27 #[.slice A ps.length c, .int .i64 (i : Int), .int .i64 (a : Int), .agg cq.toArray] w (fun e w' => ∃ A' c', e = .returned (.slice A' ps.length c') ∧ Ext w w' ∧ Sl Kd.part w' (fun _ => True) A' c' (putSP ps i a q)) := by
  refine q_call (n := 29) (args := [.slice A ps.length c, .int .i64 (i : Int), .int .i64 (a : Int), .agg cq.toArray]) Try.func27 rfl rfl rfl ?_
  have hs0 := St.refl 0 w
  have hq0 := hq
  obtain rfl : cq = [.bool q.Is, .int .i64 q.Value, .int .i64 q.At] := hq
  have hlx := hx.len
  have hii := (List.getElem?_eq_some_iff.1 hi).1
  refine s_seq ?_
  refine s_region ?_
  refine l_box rfl rfl rfl hs0 ?_
  intro w1 b7 hb7 hx1 hs1
  refine l_r (r_assign rfl) rfl ?_
  refine l_nil ?_
  refine s_seq ?_
  refine s_region ?_
  refine l_r (r_move rfl) rfl ?_
  refine l_copyB hs1 (dk := Kd.part) Try.underlying28 rw48 rfl rfl rfl rfl (hx) (by omega) rfl rfl ?_
  intro _ nO w2 hRO hx2
  obtain ⟨gO, kO, rfl, hcapO⟩ := row_some (hx2.get (r := .row _ _ _ _ _ _) List.mem_cons_self) (by omega)
  have hs2 := hs1.call1 hx2
  refine l_r (r_assign rfl) rfl ?_
  refine l_nil ?_
  refine s_seq ?_
  refine s_region ?_
  refine l_r (r_move rfl) rfl ?_
  refine l_r (r_move rfl) rfl ?_
  obtain ⟨e3b, e3o, e3cs, e3A, _, e3K, e3c⟩ := hx.2.2 _ _ hi
  have e3K0 := e3K
  obtain ⟨Ae3_3, ce3_3, Ae3_4, ce3_4, Ae3_5, ce3_5, Ae3_6, ce3_6, Ae3_7, ce3_7, Ae3_8, ce3_8, Ae3_9, ce3_9, Ae3_10, ce3_10, Ae3_12, ce3_12, Ae3_14, ce3_14, rfl, he3_3, he3_4, he3_5, he3_6, he3_7, he3_8, he3_9, he3_10, he3_12, he3_14⟩ := e3K
  refine l_r (r_indexA rfl e3A rfl (by omega) (by omega) el28) rfl ?_
  refine l_r (r_field rfl fo48_9) rfl ?_
  refine l_r (r_load1 rfl ag43 ((e3c.on hs2).get (j := 9) rfl)) rfl ?_
  refine l_copyB hs2 (dk := Kd.sample) Try.underlying43 rw56 rfl rfl rfl rfl (he3_9) (by omega) rfl rfl ?_
  intro _ nQ w4 hRQ hx4
  obtain ⟨gQ, kQ, rfl, hcapQ⟩ := row_some (hx4.get (r := .row _ _ _ _ _ _) List.mem_cons_self) (by omega)
  have hs4 := hs2.call1 hx4
  refine l_r (r_assign rfl) rfl ?_
  refine l_nil ?_
  refine s_seq ?_
  have hlQ : nQ.length = p.Samples.length * 3 := hRQ.1
  have hlO : nO.length = ps.length * 15 := hRO.1
  refine s_region ?_
  refine l_r (r_move rfl) rfl ?_
  refine l_r (r_move rfl) rfl ?_
  refine l_r (r_loadNp rfl hs4 (Repl.there (Repl.there Repl.here)) ag56 sz56) rfl ?_
  refine l_r (r_index rfl rfl (by omega) (by omega) el43) rfl ?_
  refine l_storeR (base := 0) (e := 56) (sz := 3) (cs := nQ) (cs' := nQ.take (a * 3) ++ [.bool q.Is, .int .i64 q.Value, .int .i64 q.At] ++ nQ.drop (a * 3 + 3)) rfl rfl rfl sz56 (one_all rfl) (Nat.zero_le _) hs4 Repl.here (by simp only [Nat.zero_add, Int.toNat_natCast, List.length_cons, List.length_nil]; omega) (by simp only [Nat.zero_add, Int.toNat_natCast]; rfl) ?_
  intro w5 hz5 hk5 hs5
  refine l_nil ?_
  refine s_seq ?_
  refine s_region ?_
  refine l_r (r_move rfl) rfl ?_
  refine l_r (r_move rfl) rfl ?_
  refine l_r (r_move rfl) rfl ?_
  refine l_r (r_index rfl rfl (by omega) (by omega) el28) rfl ?_
  refine l_r (r_field rfl fo48_9) rfl ?_
  refine l_storeR (base := 0) (e := 48) (sz := 15) (cs := nO) (cs' := nO.take (i * 15 + 9) ++ [.slice (some ⟨gQ, 0, none⟩) p.Samples.length kQ] ++ nO.drop (i * 15 + 9 + 1)) rfl rfl rfl sz43 (one_all rfl) (Nat.zero_le _) hs5 (Repl.there Repl.here) (by simp only [Nat.zero_add, Int.toNat_natCast, List.length_cons, List.length_nil]; omega) (by simp only [Nat.zero_add, Int.toNat_natCast]; rfl) ?_
  intro w6 hz6 hk6 hs6
  refine l_nil ?_
  refine s_seq ?_
  refine s_region ?_
  refine l_r (r_move rfl) rfl ?_
  refine l_r (r_assign rfl) rfl ?_
  refine l_nil ?_
  refine s_ret ?_
  exact q_done (.inr rfl) (.tmp rfl .nil) ⟨_, _, rfl, hs6.toExt, fin_sample hi ha ((hRO.all_).onr hs6) ((hRQ.all_).onr hs6) (Kd.sample.on hq0 hs6) (hs6.get (r := .row 0 48 15 _ ps.length _) (List.mem_cons_of_mem _ List.mem_cons_self)) (hs6.get (r := .row 0 56 3 _ p.Samples.length _) List.mem_cons_self)⟩

end Go.Proofs.Ytfhghnhgcdiknaa
