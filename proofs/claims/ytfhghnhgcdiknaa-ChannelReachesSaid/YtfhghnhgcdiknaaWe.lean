/- Places of lists; a queue once more. -/
import Derived.Test.YtfhghnhgcdiknaaWd
set_option linter.unusedVariables false
namespace Go.Proofs.Ytfhghnhgcdiknaa
open Go.RowKit
set_option maxRecDepth 100000 in
theorem at21_in {b o m c : Nat} (i : Int) (w : World) (h0 : 0 ≤ i) (h1 : i < (m : Int)) :
    Calls Try.prog 21 #[.slice (some ⟨b, o, none⟩) m c, .int .i64 i] w (fun e w' => e = .returned (.pointer (some ⟨b, o + i.toNat * 15, none⟩)) ∧ w' = w) := by
  refine q_call (n := 16) (args := [.slice (some ⟨b, o, none⟩) m c, .int .i64 i]) Try.func21 rfl rfl rfl ?_
  refine s_seq ?_
  refine s_region ?_
  refine l_r (r_assign rfl) rfl ?_
  refine l_nil ?_
  refine s_seq ?_
  refine s_seq ?_
  refine s_region ?_
  refine l_r (r_move rfl) rfl ?_
  refine l_r (r_cmp rfl rfl (b := false) (congrArg some (decide_eq_false (by omega)))) rfl ?_
  refine l_r (r_move rfl) rfl ?_
  refine l_on (dj := 7) rfl rfl rfl ?_
  refine l_r (r_move rfl) rfl ?_
  refine l_on (dj := 7) rfl rfl rfl ?_
  refine l_r (r_move rfl) rfl ?_
  refine l_on (dj := 7) rfl rfl rfl ?_
  refine l_r (r_len rfl el28) rfl ?_
  refine l_on (dj := 7) rfl rfl rfl ?_
  refine l_r (r_cmp rfl rfl (b := false) (congrArg some (decide_eq_false (by omega)))) rfl ?_
  refine l_r (r_pick_f rfl rfl) rfl ?_
  refine l_nil ?_
  refine s_else rfl ?_
  refine s_skip ?_
  refine s_seq ?_
  refine s_region ?_
  refine l_r (r_move rfl) rfl ?_
  refine l_r (r_move rfl) rfl ?_
  refine l_r (r_index rfl rfl h0 h1 el28) rfl ?_
  refine l_r (r_assign rfl) rfl ?_
  refine l_nil ?_
  refine s_ret ?_
  exact q_done (.inr rfl) (.tmp rfl .nil) ⟨rfl, rfl⟩

set_option maxRecDepth 100000 in
theorem at21_out {A : Option Addr} {m c : Nat} (i : Int) (w : World) (h : ¬ (0 ≤ i ∧ i < (m : Int))) :
    Calls Try.prog 21 #[.slice A m c, .int .i64 i] w (fun e w' => e = .returned (.pointer none) ∧ w' = w) := by
  refine q_call (n := 16) (args := [.slice A m c, .int .i64 i]) Try.func21 rfl rfl rfl ?_
  refine s_seq ?_
  refine s_region ?_
  refine l_r (r_assign rfl) rfl ?_
  refine l_nil ?_
  refine s_seq ?_
  refine s_seq ?_
  refine s_region ?_
  refine l_r (r_move rfl) rfl ?_
  by_cases hc1 : i < 0
  ·
    refine l_r (r_cmp rfl rfl (b := true) (congrArg some (decide_eq_true hc1))) rfl ?_
    refine l_r (r_move rfl) rfl ?_
    refine l_off (dj := 7) (b := true) rfl rfl rfl rfl rfl ?_
    refine l_off (dj := 7) (b := true) rfl rfl rfl rfl rfl ?_
    refine l_off (dj := 7) (b := true) rfl rfl rfl rfl rfl ?_
    refine l_off (dj := 7) (b := true) rfl rfl rfl rfl rfl ?_
    refine l_r (r_pick_t rfl rfl) rfl ?_
    refine l_nil ?_
    refine s_then rfl ?_
    refine s_seq ?_
    refine s_region ?_
    refine l_r (r_assign rfl) rfl ?_
    refine l_nil ?_
    refine s_ret ?_
    exact q_done (.inr rfl) (.tmp rfl .nil) ⟨rfl, rfl⟩
  ·
    refine l_r (r_cmp rfl rfl (b := false) (congrArg some (decide_eq_false hc1))) rfl ?_
    refine l_r (r_move rfl) rfl ?_
    refine l_on (dj := 7) rfl rfl rfl ?_
    refine l_r (r_move rfl) rfl ?_
    refine l_on (dj := 7) rfl rfl rfl ?_
    refine l_r (r_move rfl) rfl ?_
    refine l_on (dj := 7) rfl rfl rfl ?_
    refine l_r (r_len rfl el28) rfl ?_
    refine l_on (dj := 7) rfl rfl rfl ?_
    refine l_r (r_cmp rfl rfl (b := true) (congrArg some (decide_eq_true (by omega)))) rfl ?_
    refine l_r (r_pick_f rfl rfl) rfl ?_
    refine l_nil ?_
    refine s_then rfl ?_
    refine s_seq ?_
    refine s_region ?_
    refine l_r (r_assign rfl) rfl ?_
    refine l_nil ?_
    refine s_ret ?_
    exact q_done (.inr rfl) (.tmp rfl .nil) ⟨rfl, rfl⟩

set_option maxRecDepth 100000 in
theorem at29_in {b o m c : Nat} (i : Int) (w : World) (h0 : 0 ≤ i) (h1 : i < (m : Int)) :
    Calls Try.prog 29 #[.slice (some ⟨b, o, none⟩) m c, .int .i64 i] w (fun e w' => e = .returned (.pointer (some ⟨b, o + i.toNat * 11, none⟩)) ∧ w' = w) := by
  refine q_call (n := 16) (args := [.slice (some ⟨b, o, none⟩) m c, .int .i64 i]) Try.func29 rfl rfl rfl ?_
  refine s_seq ?_
  refine s_region ?_
  refine l_r (r_assign rfl) rfl ?_
  refine l_nil ?_
  refine s_seq ?_
  refine s_seq ?_
  refine s_region ?_
  refine l_r (r_move rfl) rfl ?_
  refine l_r (r_cmp rfl rfl (b := false) (congrArg some (decide_eq_false (by omega)))) rfl ?_
  refine l_r (r_move rfl) rfl ?_
  refine l_on (dj := 7) rfl rfl rfl ?_
  refine l_r (r_move rfl) rfl ?_
  refine l_on (dj := 7) rfl rfl rfl ?_
  refine l_r (r_move rfl) rfl ?_
  refine l_on (dj := 7) rfl rfl rfl ?_
  refine l_r (r_len rfl el23) rfl ?_
  refine l_on (dj := 7) rfl rfl rfl ?_
  refine l_r (r_cmp rfl rfl (b := false) (congrArg some (decide_eq_false (by omega)))) rfl ?_
  refine l_r (r_pick_f rfl rfl) rfl ?_
  refine l_nil ?_
  refine s_else rfl ?_
  refine s_skip ?_
  refine s_seq ?_
  refine s_region ?_
  refine l_r (r_move rfl) rfl ?_
  refine l_r (r_move rfl) rfl ?_
  refine l_r (r_index rfl rfl h0 h1 el23) rfl ?_
  refine l_r (r_assign rfl) rfl ?_
  refine l_nil ?_
  refine s_ret ?_
  exact q_done (.inr rfl) (.tmp rfl .nil) ⟨rfl, rfl⟩

set_option maxRecDepth 100000 in
theorem at29_out {A : Option Addr} {m c : Nat} (i : Int) (w : World) (h : ¬ (0 ≤ i ∧ i < (m : Int))) :
    Calls Try.prog 29 #[.slice A m c, .int .i64 i] w (fun e w' => e = .returned (.pointer none) ∧ w' = w) := by
  refine q_call (n := 16) (args := [.slice A m c, .int .i64 i]) Try.func29 rfl rfl rfl ?_
  refine s_seq ?_
  refine s_region ?_
  refine l_r (r_assign rfl) rfl ?_
  refine l_nil ?_
  refine s_seq ?_
  refine s_seq ?_
  refine s_region ?_
  refine l_r (r_move rfl) rfl ?_
  by_cases hc1 : i < 0
  ·
    refine l_r (r_cmp rfl rfl (b := true) (congrArg some (decide_eq_true hc1))) rfl ?_
    refine l_r (r_move rfl) rfl ?_
    refine l_off (dj := 7) (b := true) rfl rfl rfl rfl rfl ?_
    refine l_off (dj := 7) (b := true) rfl rfl rfl rfl rfl ?_
    refine l_off (dj := 7) (b := true) rfl rfl rfl rfl rfl ?_
    refine l_off (dj := 7) (b := true) rfl rfl rfl rfl rfl ?_
    refine l_r (r_pick_t rfl rfl) rfl ?_
    refine l_nil ?_
    refine s_then rfl ?_
    refine s_seq ?_
    refine s_region ?_
    refine l_r (r_assign rfl) rfl ?_
    refine l_nil ?_
    refine s_ret ?_
    exact q_done (.inr rfl) (.tmp rfl .nil) ⟨rfl, rfl⟩
  ·
    refine l_r (r_cmp rfl rfl (b := false) (congrArg some (decide_eq_false hc1))) rfl ?_
    refine l_r (r_move rfl) rfl ?_
    refine l_on (dj := 7) rfl rfl rfl ?_
    refine l_r (r_move rfl) rfl ?_
    refine l_on (dj := 7) rfl rfl rfl ?_
    refine l_r (r_move rfl) rfl ?_
    refine l_on (dj := 7) rfl rfl rfl ?_
    refine l_r (r_len rfl el23) rfl ?_
    refine l_on (dj := 7) rfl rfl rfl ?_
    refine l_r (r_cmp rfl rfl (b := true) (congrArg some (decide_eq_true (by omega)))) rfl ?_
    refine l_r (r_pick_f rfl rfl) rfl ?_
    refine l_nil ?_
    refine s_then rfl ?_
    refine s_seq ?_
    refine s_region ?_
    refine l_r (r_assign rfl) rfl ?_
    refine l_nil ?_
    refine s_ret ?_
    exact q_done (.inr rfl) (.tmp rfl .nil) ⟨rfl, rfl⟩

set_option maxRecDepth 100000 in
theorem at42_in {b o m c : Nat} (i : Int) (w : World) (h0 : 0 ≤ i) (h1 : i < (m : Int)) :
    Calls Try.prog 42 #[.slice (some ⟨b, o, none⟩) m c, .int .i64 i] w (fun e w' => e = .returned (.pointer (some ⟨b, o + i.toNat * 3, none⟩)) ∧ w' = w) := by
  refine q_call (n := 16) (args := [.slice (some ⟨b, o, none⟩) m c, .int .i64 i]) Try.func42 rfl rfl rfl ?_
  refine s_seq ?_
  refine s_region ?_
  refine l_r (r_assign rfl) rfl ?_
  refine l_nil ?_
  refine s_seq ?_
  refine s_seq ?_
  refine s_region ?_
  refine l_r (r_move rfl) rfl ?_
  refine l_r (r_cmp rfl rfl (b := false) (congrArg some (decide_eq_false (by omega)))) rfl ?_
  refine l_r (r_move rfl) rfl ?_
  refine l_on (dj := 7) rfl rfl rfl ?_
  refine l_r (r_move rfl) rfl ?_
  refine l_on (dj := 7) rfl rfl rfl ?_
  refine l_r (r_move rfl) rfl ?_
  refine l_on (dj := 7) rfl rfl rfl ?_
  refine l_r (r_len rfl el44) rfl ?_
  refine l_on (dj := 7) rfl rfl rfl ?_
  refine l_r (r_cmp rfl rfl (b := false) (congrArg some (decide_eq_false (by omega)))) rfl ?_
  refine l_r (r_pick_f rfl rfl) rfl ?_
  refine l_nil ?_
  refine s_else rfl ?_
  refine s_skip ?_
  refine s_seq ?_
  refine s_region ?_
  refine l_r (r_move rfl) rfl ?_
  refine l_r (r_move rfl) rfl ?_
  refine l_r (r_index rfl rfl h0 h1 el44) rfl ?_
  refine l_r (r_assign rfl) rfl ?_
  refine l_nil ?_
  refine s_ret ?_
  exact q_done (.inr rfl) (.tmp rfl .nil) ⟨rfl, rfl⟩

set_option maxRecDepth 100000 in
theorem at42_out {A : Option Addr} {m c : Nat} (i : Int) (w : World) (h : ¬ (0 ≤ i ∧ i < (m : Int))) :
    Calls Try.prog 42 #[.slice A m c, .int .i64 i] w (fun e w' => e = .returned (.pointer none) ∧ w' = w) := by
  refine q_call (n := 16) (args := [.slice A m c, .int .i64 i]) Try.func42 rfl rfl rfl ?_
  refine s_seq ?_
  refine s_region ?_
  refine l_r (r_assign rfl) rfl ?_
  refine l_nil ?_
  refine s_seq ?_
  refine s_seq ?_
  refine s_region ?_
  refine l_r (r_move rfl) rfl ?_
  by_cases hc1 : i < 0
  ·
    refine l_r (r_cmp rfl rfl (b := true) (congrArg some (decide_eq_true hc1))) rfl ?_
    refine l_r (r_move rfl) rfl ?_
    refine l_off (dj := 7) (b := true) rfl rfl rfl rfl rfl ?_
    refine l_off (dj := 7) (b := true) rfl rfl rfl rfl rfl ?_
    refine l_off (dj := 7) (b := true) rfl rfl rfl rfl rfl ?_
    refine l_off (dj := 7) (b := true) rfl rfl rfl rfl rfl ?_
    refine l_r (r_pick_t rfl rfl) rfl ?_
    refine l_nil ?_
    refine s_then rfl ?_
    refine s_seq ?_
    refine s_region ?_
    refine l_r (r_assign rfl) rfl ?_
    refine l_nil ?_
    refine s_ret ?_
    exact q_done (.inr rfl) (.tmp rfl .nil) ⟨rfl, rfl⟩
  ·
    refine l_r (r_cmp rfl rfl (b := false) (congrArg some (decide_eq_false hc1))) rfl ?_
    refine l_r (r_move rfl) rfl ?_
    refine l_on (dj := 7) rfl rfl rfl ?_
    refine l_r (r_move rfl) rfl ?_
    refine l_on (dj := 7) rfl rfl rfl ?_
    refine l_r (r_move rfl) rfl ?_
    refine l_on (dj := 7) rfl rfl rfl ?_
    refine l_r (r_len rfl el44) rfl ?_
    refine l_on (dj := 7) rfl rfl rfl ?_
    refine l_r (r_cmp rfl rfl (b := true) (congrArg some (decide_eq_true (by omega)))) rfl ?_
    refine l_r (r_pick_f rfl rfl) rfl ?_
    refine l_nil ?_
    refine s_then rfl ?_
    refine s_seq ?_
    refine s_region ?_
    refine l_r (r_assign rfl) rfl ?_
    refine l_nil ?_
    refine s_ret ?_
    exact q_done (.inr rfl) (.tmp rfl .nil) ⟨rfl, rfl⟩

set_option maxRecDepth 100000 in
theorem at44_in {b o m c : Nat} (i : Int) (w : World) (h0 : 0 ≤ i) (h1 : i < (m : Int)) :
    Calls Try.prog 44 #[.slice (some ⟨b, o, none⟩) m c, .int .i64 i] w (fun e w' => e = .returned (.pointer (some ⟨b, o + i.toNat * 3, none⟩)) ∧ w' = w) := by
  refine q_call (n := 16) (args := [.slice (some ⟨b, o, none⟩) m c, .int .i64 i]) Try.func44 rfl rfl rfl ?_
  refine s_seq ?_
  refine s_region ?_
  refine l_r (r_assign rfl) rfl ?_
  refine l_nil ?_
  refine s_seq ?_
  refine s_seq ?_
  refine s_region ?_
  refine l_r (r_move rfl) rfl ?_
  refine l_r (r_cmp rfl rfl (b := false) (congrArg some (decide_eq_false (by omega)))) rfl ?_
  refine l_r (r_move rfl) rfl ?_
  refine l_on (dj := 7) rfl rfl rfl ?_
  refine l_r (r_move rfl) rfl ?_
  refine l_on (dj := 7) rfl rfl rfl ?_
  refine l_r (r_move rfl) rfl ?_
  refine l_on (dj := 7) rfl rfl rfl ?_
  refine l_r (r_len rfl el43) rfl ?_
  refine l_on (dj := 7) rfl rfl rfl ?_
  refine l_r (r_cmp rfl rfl (b := false) (congrArg some (decide_eq_false (by omega)))) rfl ?_
  refine l_r (r_pick_f rfl rfl) rfl ?_
  refine l_nil ?_
  refine s_else rfl ?_
  refine s_skip ?_
  refine s_seq ?_
  refine s_region ?_
  refine l_r (r_move rfl) rfl ?_
  refine l_r (r_move rfl) rfl ?_
  refine l_r (r_index rfl rfl h0 h1 el43) rfl ?_
  refine l_r (r_assign rfl) rfl ?_
  refine l_nil ?_
  refine s_ret ?_
  exact q_done (.inr rfl) (.tmp rfl .nil) ⟨rfl, rfl⟩

set_option maxRecDepth 100000 in
theorem at44_out {A : Option Addr} {m c : Nat} (i : Int) (w : World) (h : ¬ (0 ≤ i ∧ i < (m : Int))) :
    Calls Try.prog 44 #[.slice A m c, .int .i64 i] w (fun e w' => e = .returned (.pointer none) ∧ w' = w) := by
  refine q_call (n := 16) (args := [.slice A m c, .int .i64 i]) Try.func44 rfl rfl rfl ?_
  refine s_seq ?_
  refine s_region ?_
  refine l_r (r_assign rfl) rfl ?_
  refine l_nil ?_
  refine s_seq ?_
  refine s_seq ?_
  refine s_region ?_
  refine l_r (r_move rfl) rfl ?_
  by_cases hc1 : i < 0
  ·
    refine l_r (r_cmp rfl rfl (b := true) (congrArg some (decide_eq_true hc1))) rfl ?_
    refine l_r (r_move rfl) rfl ?_
    refine l_off (dj := 7) (b := true) rfl rfl rfl rfl rfl ?_
    refine l_off (dj := 7) (b := true) rfl rfl rfl rfl rfl ?_
    refine l_off (dj := 7) (b := true) rfl rfl rfl rfl rfl ?_
    refine l_off (dj := 7) (b := true) rfl rfl rfl rfl rfl ?_
    refine l_r (r_pick_t rfl rfl) rfl ?_
    refine l_nil ?_
    refine s_then rfl ?_
    refine s_seq ?_
    refine s_region ?_
    refine l_r (r_assign rfl) rfl ?_
    refine l_nil ?_
    refine s_ret ?_
    exact q_done (.inr rfl) (.tmp rfl .nil) ⟨rfl, rfl⟩
  ·
    refine l_r (r_cmp rfl rfl (b := false) (congrArg some (decide_eq_false hc1))) rfl ?_
    refine l_r (r_move rfl) rfl ?_
    refine l_on (dj := 7) rfl rfl rfl ?_
    refine l_r (r_move rfl) rfl ?_
    refine l_on (dj := 7) rfl rfl rfl ?_
    refine l_r (r_move rfl) rfl ?_
    refine l_on (dj := 7) rfl rfl rfl ?_
    refine l_r (r_len rfl el43) rfl ?_
    refine l_on (dj := 7) rfl rfl rfl ?_
    refine l_r (r_cmp rfl rfl (b := true) (congrArg some (decide_eq_true (by omega)))) rfl ?_
    refine l_r (r_pick_f rfl rfl) rfl ?_
    refine l_nil ?_
    refine s_then rfl ?_
    refine s_seq ?_
    refine s_region ?_
    refine l_r (r_assign rfl) rfl ?_
    refine l_nil ?_
    refine s_ret ?_
    exact q_done (.inr rfl) (.tmp rfl .nil) ⟨rfl, rfl⟩

/-- A queue's cells, its values in a row of one's own, that is cut where they end. -/
def OwnQ (q : TQueue) (cs : List Value) (D : Option Addr) : Prop := cs = [.int .i64 q.Depth, .slice D q.Values.length q.Values.length, .int .i64 q.Lost]

set_option maxRecDepth 100000 in
theorem own100 {q : TQueue} {ps : List Value} (w : World) {ok : Nat → Prop} (hK : Kd.queue.K w ok q ps) (hb : q.Values.length ≤ 100000000) :
    Calls Try.prog 100 #[.agg ps.toArray] w (fun e w' => ∃ (D : Option Addr) (c : Nat) (cn : List Value), e = .returned (.agg ([.int .i64 q.Depth, .slice D q.Values.length q.Values.length, .int .i64 q.Lost] : List Value).toArray) ∧ Reps Kd.int w (fun _ => True) q.Values cn ∧ St 0 w w' [.row 0 3 1 (.slice D q.Values.length c) q.Values.length cn]) := by
  refine q_call (n := 15) (args := [.agg ps.toArray]) Try.func100 rfl rfl rfl ?_
  obtain ⟨A1, c1, rfl, hl1⟩ := hK
  have hs0 := St.refl 0 w
  refine s_seq ?_
  refine s_region ?_
  refine l_box rfl rfl rfl hs0 ?_
  intro w1 b1 hb1 hx1 hs1
  refine l_alloc zz52 rfl hs1 ?_
  intro w2 b2 hb2 hx2 hs2
  refine l_nil ?_
  refine s_seq ?_
  refine s_region ?_
  refine l_r (r_field rfl fo52_1) rfl ?_
  refine l_r (r_load1p rfl hs2 (Repl.there Repl.here) ag22 rfl) rfl ?_
  refine l_call rfl rfl fk71 rfl (clone71 w2 (hl1.on (by decide) hs2) hb) ?_
  rintro _ w3 ⟨_, cn, rfl, hR, hc3⟩
  obtain ⟨D, e, rfl, hne, he, _, hDp⟩ := row_slice (hc3.get (r := .row _ _ _ _ _ _) List.mem_cons_self)
  have hs3 := hs2.call1 hc3
  refine ⟨_, rfl, ?_⟩
  refine l_r (r_assign rfl) rfl ?_
  refine l_nil ?_
  refine s_seq ?_
  refine s_region ?_
  refine l_r (r_move rfl) rfl ?_
  refine l_r (r_move rfl) rfl ?_
  refine l_r (r_len rfl el22) rfl ?_
  refine l_r (r_move rfl) rfl ?_
  refine l_r (r_len rfl el22) rfl ?_
  refine l_r (r_slice (vl := none) (vh := some _) (vm := some _) rfl el22 rfl rfl rfl rfl rfl rfl (Nat.zero_le _) (Nat.le_refl _) hne hne) rfl ?_
  rw [cutA_zero (fun p hp => by obtain ⟨g, hg⟩ := hDp p hp; exact ⟨g, 0, hg⟩)]
  refine l_r (r_field rfl fo52_1) rfl ?_
  refine l_store1 rfl rfl rfl sz22 (Nat.zero_le _) hs3 (Repl.there (Repl.there Repl.here)) rfl ?_
  intro w4 hz4 hk4 hs4
  refine l_nil ?_
  refine s_seq ?_
  refine s_region ?_
  refine l_r (r_loadNp rfl hs4 (Repl.there (Repl.there Repl.here)) ag52 sz52) rfl ?_
  refine l_storeAll rfl rfl sz52 (by intro u hu; have hu : u ∈ ([.int .i64 q.Depth, .slice D q.Values.length q.Values.length, .int .i64 q.Lost] : List Value) := hu; simp only [List.mem_cons, List.not_mem_nil, or_false] at hu; rcases hu with rfl | rfl | rfl <;> rfl) (Nat.zero_le _) hs4 (Repl.there Repl.here) rfl ?_
  intro w5 hz5 hk5 hs5
  refine l_nil ?_
  refine s_ret ?_
  exact q_done (.inr rfl) (.cellN (cs := [.int .i64 q.Depth, .slice D q.Values.length q.Values.length, .int .i64 q.Lost]) rfl ag52 sz52 (heap_cells (o := 0) (hs5.get (r := .pt b2 _ _) (List.mem_cons_of_mem _ List.mem_cons_self))) .nil) ⟨D, e, cn, rfl, rep_any hR, hs5.sub (List.sublist_append_left [_] _)⟩

end Go.Proofs.Ytfhghnhgcdiknaa
