/- The document's Same tells true of things that are the same. -/
import Derived.Test.YtfhghnhgcdiknaaWo
import Derived.Test.YtfhghnhgcdiknaaAuto
set_option linter.unusedVariables false
namespace Go.Proofs.Ytfhghnhgcdiknaa
open Go.RowKit
theorem eqr102 {a0 : Int} {a1 : Int} {a2 : Int} (w : World) : (Op.equalIn (9999 + 1) 102 (.agg #[.int .i64 a0, .int .i64 a1, .int .i64 a2]) (.agg #[.int .i64 a0, .int .i64 a1, .int .i64 a2])).run Try.prog w = .ok true w := by
  rw [run_equalIn_struct (P := Try.prog) w _ 102 _ _ (by kernel_rfl) (by kernel_rfl)]
  simp only [Program.fieldsOf, Try.underlying102]
  refine eqFields_step (by decide) (part_scalar w _ (.int .i64 a0) _ _ ag3 rfl) (eqr_int Try.underlying3) ?_
  refine eqFields_step (by decide) (part_scalar w _ (.int .i64 a1) _ _ ag3 rfl) (eqr_int Try.underlying3) ?_
  refine eqFields_step (by decide) (part_scalar w _ (.int .i64 a2) _ _ ag3 rfl) (eqr_int Try.underlying3) ?_
  exact eqFields_nil

theorem eqr81 {a0 : Int} {a1 : Int} {a2 : Bool} {a3 : Int} {a4 : Int} {a5 : Int} {a6 : Int} {a7 : Int} {a8 : Int} {a9 : Int} {a10 : Int} {a11 : Int} {a12 : Int} {a13 : Int} {a14 : Bool} {a15 : Int} {a16 : Int} {a17 : Int} (w : World) : (Op.equalIn (9999 + 1) 81 (.agg #[.int .i64 a0, .int .i64 a1, .bool a2, .int .i64 a3, .int .i64 a4, .int .i64 a5, .int .i64 a6, .int .i64 a7, .int .i64 a8, .int .i64 a9, .int .i64 a10, .int .i64 a11, .int .i64 a12, .int .i64 a13, .bool a14, .int .i64 a15, .int .i64 a16, .int .i64 a17]) (.agg #[.int .i64 a0, .int .i64 a1, .bool a2, .int .i64 a3, .int .i64 a4, .int .i64 a5, .int .i64 a6, .int .i64 a7, .int .i64 a8, .int .i64 a9, .int .i64 a10, .int .i64 a11, .int .i64 a12, .int .i64 a13, .bool a14, .int .i64 a15, .int .i64 a16, .int .i64 a17])).run Try.prog w = .ok true w := by
  rw [run_equalIn_struct (P := Try.prog) w _ 81 _ _ (by kernel_rfl) (by kernel_rfl)]
  simp only [Program.fieldsOf, Try.underlying81]
  refine eqFields_step (by decide) (part_scalar w _ (.int .i64 a0) _ _ ag3 rfl) (eqr_int Try.underlying3) ?_
  refine eqFields_step (by decide) (part_scalar w _ (.int .i64 a1) _ _ ag3 rfl) (eqr_int Try.underlying3) ?_
  refine eqFields_step (by decide) (part_scalar w _ (.bool a2) _ _ ag4 rfl) (eqr_bool Try.underlying4) ?_
  refine eqFields_step (by decide) (part_agg w _ 5 _ _ ag79 sz79 (Nat.le_of_ble_eq_true rfl)) (a := .agg #[.int .i64 a3, .int .i64 a4, .int .i64 a5, .int .i64 a6, .int .i64 a7]) (by
    rw [run_equalIn_struct (P := Try.prog) w _ 79 _ _ (by kernel_rfl) (by kernel_rfl)]
    simp only [Program.fieldsOf, Try.underlying79]
    refine eqFields_step (by decide) (part_scalar w _ (.int .i64 a3) _ _ ag3 rfl) (eqr_int Try.underlying3) ?_
    refine eqFields_step (by decide) (part_agg w _ 4 _ _ ag77 sz77 (Nat.le_of_ble_eq_true rfl)) (a := .agg #[.int .i64 a4, .int .i64 a5, .int .i64 a6, .int .i64 a7]) (by
    refine eq_array _ _ _ Try.underlying77 sz3 (by kernel_rfl) ?_
    simp only [show List.range 4 = [0, 1, 2, 3] from rfl]
    refine eqItems_step (part_scalar w _ (.int .i64 a4) _ _ ag3 rfl) (eqr_int Try.underlying3) ?_
    refine eqItems_step (part_scalar w _ (.int .i64 a5) _ _ ag3 rfl) (eqr_int Try.underlying3) ?_
    refine eqItems_step (part_scalar w _ (.int .i64 a6) _ _ ag3 rfl) (eqr_int Try.underlying3) ?_
    refine eqItems_step (part_scalar w _ (.int .i64 a7) _ _ ag3 rfl) (eqr_int Try.underlying3) ?_
    exact eqItems_nil) ?_
    exact eqFields_nil) ?_
  refine eqFields_step (by decide) (part_scalar w _ (.int .i64 a8) _ _ ag3 rfl) (eqr_int Try.underlying3) ?_
  refine eqFields_step (by decide) (part_scalar w _ (.int .i64 a9) _ _ ag3 rfl) (eqr_int Try.underlying3) ?_
  refine eqFields_step (by decide) (part_scalar w _ (.int .i64 a10) _ _ ag3 rfl) (eqr_int Try.underlying3) ?_
  refine eqFields_step (by decide) (part_scalar w _ (.int .i64 a11) _ _ ag3 rfl) (eqr_int Try.underlying3) ?_
  refine eqFields_step (by decide) (part_scalar w _ (.int .i64 a12) _ _ ag3 rfl) (eqr_int Try.underlying3) ?_
  refine eqFields_step (by decide) (part_scalar w _ (.int .i64 a13) _ _ ag3 rfl) (eqr_int Try.underlying3) ?_
  refine eqFields_step (by decide) (part_scalar w _ (.bool a14) _ _ ag4 rfl) (eqr_bool Try.underlying4) ?_
  refine eqFields_step (by decide) (part_scalar w _ (.int .i64 a15) _ _ ag3 rfl) (eqr_int Try.underlying3) ?_
  refine eqFields_step (by decide) (part_scalar w _ (.int .i64 a16) _ _ ag3 rfl) (eqr_int Try.underlying3) ?_
  refine eqFields_step (by decide) (part_scalar w _ (.int .i64 a17) _ _ ag3 rfl) (eqr_int Try.underlying3) ?_
  exact eqFields_nil

theorem eqr56 {a0 : Bool} {a1 : Int} {a2 : Int} (w : World) : (Op.equalIn (9999 + 1) 56 (.agg #[.bool a0, .int .i64 a1, .int .i64 a2]) (.agg #[.bool a0, .int .i64 a1, .int .i64 a2])).run Try.prog w = .ok true w := by
  rw [run_equalIn_struct (P := Try.prog) w _ 56 _ _ (by kernel_rfl) (by kernel_rfl)]
  simp only [Program.fieldsOf, Try.underlying56]
  refine eqFields_step (by decide) (part_scalar w _ (.bool a0) _ _ ag4 rfl) (eqr_bool Try.underlying4) ?_
  refine eqFields_step (by decide) (part_scalar w _ (.int .i64 a1) _ _ ag3 rfl) (eqr_int Try.underlying3) ?_
  refine eqFields_step (by decide) (part_scalar w _ (.int .i64 a2) _ _ ag3 rfl) (eqr_int Try.underlying3) ?_
  exact eqFields_nil

set_option maxRecDepth 100000 in
theorem same_ints {xs : List Int} {A A2 : Option Addr} {c c2 : Nat} (w : World) {ok ok2 : Nat → Prop} (hx : Sl Kd.int w ok A c xs) (hy : Sl Kd.int w ok2 A2 c2 xs) :
    Calls Try.prog 30 #[.slice A xs.length c, .slice A2 xs.length c2] w (fun e w' => e = .returned (.bool true) ∧ St 0 w w' []) := by
  refine q_call (n := 26) (args := [.slice A xs.length c, .slice A2 xs.length c2]) Try.func30 rfl rfl rfl ?_
  have hs0 := St.refl 0 w
  have hlx := hx.len
  refine s_seq ?_
  refine s_region ?_
  refine l_r (r_assign rfl) rfl ?_
  refine l_nil ?_
  refine s_seq ?_
  refine s_seq ?_
  refine s_region ?_
  refine l_r (r_move rfl) rfl ?_
  refine l_r (r_len rfl el22) rfl ?_
  refine l_r (r_move rfl) rfl ?_
  refine l_r (r_len rfl el22) rfl ?_
  refine l_r (r_cmp rfl rfl (b := false) (by simp)) rfl ?_
  refine l_nil ?_
  refine s_else rfl ?_
  refine s_skip ?_
  refine s_seq ?_
  refine s_seq ?_
  refine s_region ?_
  refine l_r (r_assign rfl) rfl ?_
  refine l_nil ?_
  refine s_block ?_
  refine s_loop (fun m L wl => ∃ (k : Nat), L = [(5, .int .i64 ((k : Nat) : Int)), (0, .slice A xs.length c), (1, .slice A2 xs.length c2)] ∧ m = xs.length - k ∧ k ≤ xs.length ∧ St 0 w wl []) _ [(5, .int .i64 ((0 : Nat) : Int)), (0, .slice A xs.length c), (1, .slice A2 xs.length c2)] (.cons rfl (.cons rfl (.cons rfl .nil))) ⟨0, rfl, rfl, Nat.zero_le _, hs0⟩ ?_
  rintro _ _ w1 ⟨k, rfl, rfl, hkk, hs1⟩
  refine s_seq ?_
  refine s_seq ?_
  refine s_region ?_
  refine l_r (r_move rfl) rfl ?_
  refine l_r (r_move rfl) rfl ?_
  refine l_r (r_len rfl el22) rfl ?_
  refine l_r (r_cmp rfl rfl rfl) rfl ?_
  refine l_nil ?_
  refine s_part (dj := 14) rfl (fun hc2 => ?_) (fun hc2 => ?_)
  ·
    have hc2p := of_decide_eq_true hc2
    refine s_then rfl ?_
    refine s_skip ?_
    refine s_seq ?_
    refine s_block ?_
    refine s_seq ?_
    refine s_quiet (by kernel_rfl) (by kernel_rfl) ?_
    refine qq_r (fun w' hw' => r_move rfl) rfl ?_
    refine qq_r (fun w' hw' => r_move rfl) rfl ?_
    obtain ⟨e3x, e3h, e3b, e3o, e3cs, e3A, _, e3K, e3c⟩ := hx.get_ (i := k) (by omega)
    obtain rfl : e3cs = [.int .i64 e3x] := e3K
    refine qq_r (fun w' hw' => r_indexA rfl e3A rfl (by omega) (by omega) el22) rfl ?_
    refine qq_r (fun w' hw' => r_load1 rfl ag3 ((e3c.on (hs1.ext hw')).get (j := 0) rfl)) rfl ?_
    refine qq_r (fun w' hw' => r_move rfl) rfl ?_
    refine qq_r (fun w' hw' => r_move rfl) rfl ?_
    obtain ⟨e4b, e4o, e4cs, e4A, _, e4K, e4c⟩ := hy.2.2 _ _ e3h
    obtain rfl : e4cs = [.int .i64 e3x] := e4K
    refine qq_r (fun w' hw' => r_indexA rfl e4A rfl (by omega) (by omega) el22) rfl ?_
    refine qq_r (fun w' hw' => r_load1 rfl ag3 ((e4c.on (hs1.ext hw')).get (j := 0) rfl)) rfl ?_
    refine qq_r (fun w' hw' => r_cmp rfl rfl (b := false) (by simp)) rfl ?_
    refine qq_nil ?_
    intro w5 hx5
    have hs5 := hs1.ext hx5
    refine s_else rfl ?_
    refine s_skip ?_
    refine s_mark ?_
    refine s_region ?_
    refine l_r (r_move rfl) rfl ?_
    refine l_r (r_inc rfl (by omega)) rfl ?_
    refine l_r (r_assign rfl) rfl ?_
    refine l_nil ?_
    refine s_again ?_
    exact ⟨_, [(5, .int .i64 (((k + 1) : Nat) : Int)), (0, .slice A xs.length c), (1, .slice A2 xs.length c2)], by omega, (.cons rfl (.cons rfl (.cons rfl .nil))), ⟨(k + 1), rfl, rfl, by omega, hs5⟩⟩
  ·
    have hc2p := of_decide_eq_false hc2
    refine s_else rfl ?_
    refine s_exit rfl ?_
    refine s_seq ?_
    refine s_region ?_
    refine l_r (r_assign rfl) rfl ?_
    refine l_nil ?_
    refine s_ret ?_
    exact q_done (.inr rfl) (.tmp rfl .nil) ⟨rfl, hs1.nil⟩

set_option maxRecDepth 100000 in
theorem same_waits {xs : List TWait} {A A2 : Option Addr} {c c2 : Nat} (w : World) {ok ok2 : Nat → Prop} (hx : Sl Kd.wait w ok A c xs) (hy : Sl Kd.wait w ok2 A2 c2 xs) :
    Calls Try.prog 47 #[.slice A xs.length c, .slice A2 xs.length c2] w (fun e w' => e = .returned (.bool true) ∧ St 0 w w' []) := by
  refine q_call (n := 26) (args := [.slice A xs.length c, .slice A2 xs.length c2]) Try.func47 rfl rfl rfl ?_
  have hs0 := St.refl 0 w
  have hlx := hx.len
  refine s_seq ?_
  refine s_region ?_
  refine l_r (r_assign rfl) rfl ?_
  refine l_nil ?_
  refine s_seq ?_
  refine s_seq ?_
  refine s_region ?_
  refine l_r (r_move rfl) rfl ?_
  refine l_r (r_len rfl el89) rfl ?_
  refine l_r (r_move rfl) rfl ?_
  refine l_r (r_len rfl el89) rfl ?_
  refine l_r (r_cmp rfl rfl (b := false) (by simp)) rfl ?_
  refine l_nil ?_
  refine s_else rfl ?_
  refine s_skip ?_
  refine s_seq ?_
  refine s_seq ?_
  refine s_region ?_
  refine l_r (r_assign rfl) rfl ?_
  refine l_nil ?_
  refine s_block ?_
  refine s_loop (fun m L wl => ∃ (k : Nat), L = [(5, .int .i64 ((k : Nat) : Int)), (0, .slice A xs.length c), (1, .slice A2 xs.length c2)] ∧ m = xs.length - k ∧ k ≤ xs.length ∧ St 0 w wl []) _ [(5, .int .i64 ((0 : Nat) : Int)), (0, .slice A xs.length c), (1, .slice A2 xs.length c2)] (.cons rfl (.cons rfl (.cons rfl .nil))) ⟨0, rfl, rfl, Nat.zero_le _, hs0⟩ ?_
  rintro _ _ w1 ⟨k, rfl, rfl, hkk, hs1⟩
  refine s_seq ?_
  refine s_seq ?_
  refine s_region ?_
  refine l_r (r_move rfl) rfl ?_
  refine l_r (r_move rfl) rfl ?_
  refine l_r (r_len rfl el89) rfl ?_
  refine l_r (r_cmp rfl rfl rfl) rfl ?_
  refine l_nil ?_
  refine s_part (dj := 14) rfl (fun hc2 => ?_) (fun hc2 => ?_)
  ·
    have hc2p := of_decide_eq_true hc2
    refine s_then rfl ?_
    refine s_skip ?_
    refine s_seq ?_
    refine s_block ?_
    refine s_seq ?_
    refine s_quiet (by kernel_rfl) (by kernel_rfl) ?_
    refine qq_r (fun w' hw' => r_move rfl) rfl ?_
    refine qq_r (fun w' hw' => r_move rfl) rfl ?_
    obtain ⟨e3x, e3h, e3b, e3o, e3cs, e3A, _, e3K, e3c⟩ := hx.get_ (i := k) (by omega)
    obtain rfl : e3cs = [.int .i64 e3x.Proc, .int .i64 e3x.Prio, .int .i64 e3x.Value] := e3K
    refine qq_r (fun w' hw' => r_indexA rfl e3A rfl (by omega) (by omega) el89) rfl ?_
    refine qq_r (fun w' hw' => r_loadN rfl ag102 (e3c.on (hs1.ext hw')) sz102) rfl ?_
    refine qq_r (fun w' hw' => r_move rfl) rfl ?_
    refine qq_r (fun w' hw' => r_move rfl) rfl ?_
    obtain ⟨e4b, e4o, e4cs, e4A, _, e4K, e4c⟩ := hy.2.2 _ _ e3h
    obtain rfl : e4cs = [.int .i64 e3x.Proc, .int .i64 e3x.Prio, .int .i64 e3x.Value] := e4K
    refine qq_r (fun w' hw' => r_indexA rfl e4A rfl (by omega) (by omega) el89) rfl ?_
    refine qq_r (fun w' hw' => r_loadN rfl ag102 (e4c.on (hs1.ext hw')) sz102) rfl ?_
    refine qq_r (fun w' hw' => r_ne (r := true) rfl rfl (run_eqGuard_agg (P := Try.prog) _ .neq 102 _ _ _ _ (by kernel_rfl)) rfl (eqr102 _)) rfl ?_
    refine qq_nil ?_
    intro w5 hx5
    have hs5 := hs1.ext hx5
    refine s_else rfl ?_
    refine s_skip ?_
    refine s_mark ?_
    refine s_region ?_
    refine l_r (r_move rfl) rfl ?_
    refine l_r (r_inc rfl (by omega)) rfl ?_
    refine l_r (r_assign rfl) rfl ?_
    refine l_nil ?_
    refine s_again ?_
    exact ⟨_, [(5, .int .i64 (((k + 1) : Nat) : Int)), (0, .slice A xs.length c), (1, .slice A2 xs.length c2)], by omega, (.cons rfl (.cons rfl (.cons rfl .nil))), ⟨(k + 1), rfl, rfl, by omega, hs5⟩⟩
  ·
    have hc2p := of_decide_eq_false hc2
    refine s_else rfl ?_
    refine s_exit rfl ?_
    refine s_seq ?_
    refine s_region ?_
    refine l_r (r_assign rfl) rfl ?_
    refine l_nil ?_
    refine s_ret ?_
    exact q_done (.inr rfl) (.tmp rfl .nil) ⟨rfl, hs1.nil⟩

set_option maxRecDepth 100000 in
theorem same_objects {a : TPart} {pl pm : List Value} (w : World) {ok ok2 : Nat → Prop} (hKl : Kd.part.K w ok a pl) (hKm : Kd.part.K w ok2 a pm) :
    Calls Try.prog 31 #[.agg pl.toArray, .agg pm.toArray] w (fun e w' => e = .returned (.bool true) ∧ St 0 w w' []) := by
  refine q_call (n := 273) (args := [.agg pl.toArray, .agg pm.toArray]) Try.func31 rfl rfl rfl ?_
  have hs0 := St.refl 0 w
  have hKl0 := hKl
  obtain ⟨Al_3, cl_3, Al_4, cl_4, Al_5, cl_5, Al_6, cl_6, Al_7, cl_7, Al_8, cl_8, Al_9, cl_9, Al_10, cl_10, Al_12, cl_12, Al_14, cl_14, rfl, hl_3, hl_4, hl_5, hl_6, hl_7, hl_8, hl_9, hl_10, hl_12, hl_14⟩ := hKl
  have hKm0 := hKm
  obtain ⟨Am_3, cm_3, Am_4, cm_4, Am_5, cm_5, Am_6, cm_6, Am_7, cm_7, Am_8, cm_8, Am_9, cm_9, Am_10, cm_10, Am_12, cm_12, Am_14, cm_14, rfl, hm_3, hm_4, hm_5, hm_6, hm_7, hm_8, hm_9, hm_10, hm_12, hm_14⟩ := hKm
  have hle3 := hl_3.len
  have hle4 := hl_4.len
  have hle5 := hl_5.len
  have hle6 := hl_6.len
  have hle7 := hl_7.len
  have hle8 := hl_8.len
  have hle9 := hl_9.len
  have hle10 := hl_10.len
  have hle12 := hl_12.len
  have hle14 := hl_14.len
  refine s_seq ?_
  refine s_region ?_
  refine l_box rfl rfl rfl hs0 ?_
  intro w1 b2 hb2 hx1 hs1
  refine l_box rfl rfl rfl hs1 ?_
  intro w2 b3 hb3 hx2 hs2
  refine l_r (r_assign rfl) rfl ?_
  refine l_nil ?_
  refine s_seq ?_
  refine s_seq ?_
  refine s_region ?_
  refine l_r (r_field rfl fo48_5) rfl ?_
  refine l_r (r_load1p rfl hs2 (Repl.there Repl.here) ag39 rfl) rfl ?_
  refine l_r (r_len rfl el39) rfl ?_
  refine l_r (r_field rfl fo48_5) rfl ?_
  refine l_r (r_load1p rfl hs2 Repl.here ag39 rfl) rfl ?_
  refine l_r (r_len rfl el39) rfl ?_
  refine l_r (r_cmp rfl rfl (b := false) (by simp)) rfl ?_
  refine l_r (r_move rfl) rfl ?_
  refine l_on (dj := 21) rfl rfl rfl ?_
  refine l_r (r_field rfl fo48_6) rfl ?_
  refine l_on (dj := 21) rfl rfl rfl ?_
  refine l_r (r_load1p rfl hs2 (Repl.there Repl.here) ag40 rfl) rfl ?_
  refine l_on (dj := 21) rfl rfl rfl ?_
  refine l_r (r_len rfl el40) rfl ?_
  refine l_on (dj := 21) rfl rfl rfl ?_
  refine l_r (r_field rfl fo48_6) rfl ?_
  refine l_on (dj := 21) rfl rfl rfl ?_
  refine l_r (r_load1p rfl hs2 Repl.here ag40 rfl) rfl ?_
  refine l_on (dj := 21) rfl rfl rfl ?_
  refine l_r (r_len rfl el40) rfl ?_
  refine l_on (dj := 21) rfl rfl rfl ?_
  refine l_r (r_cmp rfl rfl (b := false) (by simp)) rfl ?_
  refine l_r (r_pick_f rfl rfl) rfl ?_
  refine l_r (r_move rfl) rfl ?_
  refine l_on (dj := 30) rfl rfl rfl ?_
  refine l_r (r_field rfl fo48_7) rfl ?_
  refine l_on (dj := 30) rfl rfl rfl ?_
  refine l_r (r_load1p rfl hs2 (Repl.there Repl.here) ag41 rfl) rfl ?_
  refine l_on (dj := 30) rfl rfl rfl ?_
  refine l_r (r_len rfl el41) rfl ?_
  refine l_on (dj := 30) rfl rfl rfl ?_
  refine l_r (r_field rfl fo48_7) rfl ?_
  refine l_on (dj := 30) rfl rfl rfl ?_
  refine l_r (r_load1p rfl hs2 Repl.here ag41 rfl) rfl ?_
  refine l_on (dj := 30) rfl rfl rfl ?_
  refine l_r (r_len rfl el41) rfl ?_
  refine l_on (dj := 30) rfl rfl rfl ?_
  refine l_r (r_cmp rfl rfl (b := false) (by simp)) rfl ?_
  refine l_r (r_pick_f rfl rfl) rfl ?_
  refine l_r (r_move rfl) rfl ?_
  refine l_on (dj := 39) rfl rfl rfl ?_
  refine l_r (r_field rfl fo48_8) rfl ?_
  refine l_on (dj := 39) rfl rfl rfl ?_
  refine l_r (r_load1p rfl hs2 (Repl.there Repl.here) ag42 rfl) rfl ?_
  refine l_on (dj := 39) rfl rfl rfl ?_
  refine l_r (r_len rfl el42) rfl ?_
  refine l_on (dj := 39) rfl rfl rfl ?_
  refine l_r (r_field rfl fo48_8) rfl ?_
  refine l_on (dj := 39) rfl rfl rfl ?_
  refine l_r (r_load1p rfl hs2 Repl.here ag42 rfl) rfl ?_
  refine l_on (dj := 39) rfl rfl rfl ?_
  refine l_r (r_len rfl el42) rfl ?_
  refine l_on (dj := 39) rfl rfl rfl ?_
  refine l_r (r_cmp rfl rfl (b := false) (by simp)) rfl ?_
  refine l_r (r_pick_f rfl rfl) rfl ?_
  refine l_nil ?_
  refine s_else rfl ?_
  refine s_skip ?_
  refine s_seq ?_
  refine s_seq ?_
  refine s_region ?_
  refine l_r (r_assign rfl) rfl ?_
  refine l_nil ?_
  refine s_block ?_
  refine s_loop (fun m L wl => ∃ (k : Nat), L = [(5, .int .i64 ((k : Nat) : Int)), (2, .pointer (some ⟨b2, 0, none⟩)), (3, .pointer (some ⟨b3, 0, none⟩))] ∧ m = a.Boards.length - k ∧ k ≤ a.Boards.length ∧ St 0 w wl [.pt b3 [.int .i64 a.Mode, .int .i64 a.Begun, .int .i64 a.Next, .slice Am_3 a.Memory.length cm_3, .slice Am_4 a.Procs.length cm_4, .slice Am_5 a.Boards.length cm_5, .slice Am_6 a.Buffers.length cm_6, .slice Am_7 a.Semas.length cm_7, .slice Am_8 a.Events.length cm_8, .slice Am_9 a.Samples.length cm_9, .slice Am_10 a.Queues.length cm_10, .int .i64 a.Latch.Depth, .slice Am_12 a.Latch.Lines.length cm_12, .int .i64 a.Latch.Dropped, .slice Am_14 a.Given.length cm_14] 48, .pt b2 [.int .i64 a.Mode, .int .i64 a.Begun, .int .i64 a.Next, .slice Al_3 a.Memory.length cl_3, .slice Al_4 a.Procs.length cl_4, .slice Al_5 a.Boards.length cl_5, .slice Al_6 a.Buffers.length cl_6, .slice Al_7 a.Semas.length cl_7, .slice Al_8 a.Events.length cl_8, .slice Al_9 a.Samples.length cl_9, .slice Al_10 a.Queues.length cl_10, .int .i64 a.Latch.Depth, .slice Al_12 a.Latch.Lines.length cl_12, .int .i64 a.Latch.Dropped, .slice Al_14 a.Given.length cl_14] 48]) _ [(5, .int .i64 ((0 : Nat) : Int)), (2, .pointer (some ⟨b2, 0, none⟩)), (3, .pointer (some ⟨b3, 0, none⟩))] (.cons rfl (.cons rfl (.cons rfl .nil))) ⟨0, rfl, rfl, Nat.zero_le _, hs2⟩ ?_
  rintro _ _ w3 ⟨k, rfl, rfl, hkk, hs3⟩
  refine s_seq ?_
  refine s_seq ?_
  refine s_region ?_
  refine l_r (r_move rfl) rfl ?_
  refine l_r (r_field rfl fo48_5) rfl ?_
  refine l_r (r_load1p rfl hs3 (Repl.there Repl.here) ag39 rfl) rfl ?_
  refine l_r (r_len rfl el39) rfl ?_
  refine l_r (r_cmp rfl rfl rfl) rfl ?_
  refine l_nil ?_
  refine s_part (dj := 52) rfl (fun hc4 => ?_) (fun hc4 => ?_)
  ·
    have hc4p := of_decide_eq_true hc4
    refine s_then rfl ?_
    refine s_skip ?_
    refine s_seq ?_
    refine s_block ?_
    refine s_seq ?_
    refine s_quiet (by kernel_rfl) (by kernel_rfl) ?_
    refine qq_r (fun w' hw' => r_field rfl fo48_5) rfl ?_
    refine qq_r (fun w' hw' => r_load1p rfl (hs3.ext hw') (Repl.there Repl.here) ag39 rfl) rfl ?_
    refine qq_r (fun w' hw' => r_move rfl) rfl ?_
    obtain ⟨e5x, e5h, e5b, e5o, e5cs, e5A, _, e5K, e5c⟩ := hl_5.get_ (i := k) (by omega)
    have e5K0 := e5K
    obtain ⟨Ae5_2, ce5_2, rfl, he5_2⟩ := e5K
    refine qq_r (fun w' hw' => r_indexA rfl e5A rfl (by omega) (by omega) el39) rfl ?_
    refine qq_r (fun w' hw' => r_field rfl fo91_2) rfl ?_
    refine qq_r (fun w' hw' => r_load1 rfl ag89 ((e5c.on (hs3.ext hw')).get (j := 2) rfl)) rfl ?_
    refine qq_r (fun w' hw' => r_field rfl fo48_5) rfl ?_
    refine qq_r (fun w' hw' => r_load1p rfl (hs3.ext hw') Repl.here ag39 rfl) rfl ?_
    refine qq_r (fun w' hw' => r_move rfl) rfl ?_
    obtain ⟨e6b, e6o, e6cs, e6A, _, e6K, e6c⟩ := hm_5.2.2 _ _ e5h
    have e6K0 := e6K
    obtain ⟨Ae6_2, ce6_2, rfl, he6_2⟩ := e6K
    refine qq_r (fun w' hw' => r_indexA rfl e6A rfl (by omega) (by omega) el39) rfl ?_
    refine qq_r (fun w' hw' => r_field rfl fo91_2) rfl ?_
    refine qq_r (fun w' hw' => r_load1 rfl ag89 ((e6c.on (hs3.ext hw')).get (j := 2) rfl)) rfl ?_
    refine qq_call rfl rfl fk47 (fun w' hw' => calls_quiet (same_waits w' (he5_2.onk (hs3.ext hw')) (he6_2.onk (hs3.ext hw')))) rfl ?_
    refine qq_r (fun w' hw' => r_assign rfl) rfl ?_
    refine qq_nil ?_
    intro w7 hx7
    have hs7 := hs3.ext hx7
    refine s_seq ?_
    refine s_quiet (by kernel_rfl) (by kernel_rfl) ?_
    refine qq_r (fun w' hw' => r_move rfl) rfl ?_
    refine qq_r (fun w' hw' => r_not rfl) rfl ?_
    refine qq_r (fun w' hw' => r_move rfl) rfl ?_
    refine qq_on (dj := 70) rfl rfl rfl ?_
    refine qq_r (fun w' hw' => r_field rfl fo48_5) rfl ?_
    refine qq_on (dj := 70) rfl rfl rfl ?_
    refine qq_r (fun w' hw' => r_load1p rfl (hs7.ext hw') (Repl.there Repl.here) ag39 rfl) rfl ?_
    refine qq_on (dj := 70) rfl rfl rfl ?_
    refine qq_r (fun w' hw' => r_move rfl) rfl ?_
    refine qq_on (dj := 70) rfl rfl rfl ?_
    refine qq_r (fun w' hw' => r_indexA rfl e5A rfl (by omega) (by omega) el39) rfl ?_
    refine qq_on (dj := 70) rfl rfl rfl ?_
    refine qq_r (fun w' hw' => r_field rfl fo91_0) rfl ?_
    refine qq_on (dj := 70) rfl rfl rfl ?_
    refine qq_r (fun w' hw' => r_load1 rfl ag4 ((e5c.on (hs7.ext hw')).get (j := 0) rfl)) rfl ?_
    refine qq_on (dj := 70) rfl rfl rfl ?_
    refine qq_r (fun w' hw' => r_field rfl fo48_5) rfl ?_
    refine qq_on (dj := 70) rfl rfl rfl ?_
    refine qq_r (fun w' hw' => r_load1p rfl (hs7.ext hw') Repl.here ag39 rfl) rfl ?_
    refine qq_on (dj := 70) rfl rfl rfl ?_
    refine qq_r (fun w' hw' => r_move rfl) rfl ?_
    refine qq_on (dj := 70) rfl rfl rfl ?_
    refine qq_r (fun w' hw' => r_indexA rfl e6A rfl (by omega) (by omega) el39) rfl ?_
    refine qq_on (dj := 70) rfl rfl rfl ?_
    refine qq_r (fun w' hw' => r_field rfl fo91_0) rfl ?_
    refine qq_on (dj := 70) rfl rfl rfl ?_
    refine qq_r (fun w' hw' => r_load1 rfl ag4 ((e6c.on (hs7.ext hw')).get (j := 0) rfl)) rfl ?_
    refine qq_on (dj := 70) rfl rfl rfl ?_
    refine qq_r (fun w' hw' => r_neb_same rfl rfl Try.underlying4) rfl ?_
    refine qq_r (fun w' hw' => r_pick_f rfl rfl) rfl ?_
    refine qq_r (fun w' hw' => r_move rfl) rfl ?_
    refine qq_on (dj := 85) rfl rfl rfl ?_
    refine qq_r (fun w' hw' => r_field rfl fo48_5) rfl ?_
    refine qq_on (dj := 85) rfl rfl rfl ?_
    refine qq_r (fun w' hw' => r_load1p rfl (hs7.ext hw') (Repl.there Repl.here) ag39 rfl) rfl ?_
    refine qq_on (dj := 85) rfl rfl rfl ?_
    refine qq_r (fun w' hw' => r_move rfl) rfl ?_
    refine qq_on (dj := 85) rfl rfl rfl ?_
    refine qq_r (fun w' hw' => r_indexA rfl e5A rfl (by omega) (by omega) el39) rfl ?_
    refine qq_on (dj := 85) rfl rfl rfl ?_
    refine qq_r (fun w' hw' => r_field rfl fo91_1) rfl ?_
    refine qq_on (dj := 85) rfl rfl rfl ?_
    refine qq_r (fun w' hw' => r_load1 rfl ag3 ((e5c.on (hs7.ext hw')).get (j := 1) rfl)) rfl ?_
    refine qq_on (dj := 85) rfl rfl rfl ?_
    refine qq_r (fun w' hw' => r_field rfl fo48_5) rfl ?_
    refine qq_on (dj := 85) rfl rfl rfl ?_
    refine qq_r (fun w' hw' => r_load1p rfl (hs7.ext hw') Repl.here ag39 rfl) rfl ?_
    refine qq_on (dj := 85) rfl rfl rfl ?_
    refine qq_r (fun w' hw' => r_move rfl) rfl ?_
    refine qq_on (dj := 85) rfl rfl rfl ?_
    refine qq_r (fun w' hw' => r_indexA rfl e6A rfl (by omega) (by omega) el39) rfl ?_
    refine qq_on (dj := 85) rfl rfl rfl ?_
    refine qq_r (fun w' hw' => r_field rfl fo91_1) rfl ?_
    refine qq_on (dj := 85) rfl rfl rfl ?_
    refine qq_r (fun w' hw' => r_load1 rfl ag3 ((e6c.on (hs7.ext hw')).get (j := 1) rfl)) rfl ?_
    refine qq_on (dj := 85) rfl rfl rfl ?_
    refine qq_r (fun w' hw' => r_cmp rfl rfl (b := false) (by simp)) rfl ?_
    refine qq_r (fun w' hw' => r_pick_f rfl rfl) rfl ?_
    refine qq_nil ?_
    intro w8 hx8
    have hs8 := hs7.ext hx8
    refine s_else rfl ?_
    refine s_skip ?_
    refine s_mark ?_
    refine s_region ?_
    refine l_r (r_move rfl) rfl ?_
    refine l_r (r_inc rfl (by omega)) rfl ?_
    refine l_r (r_assign rfl) rfl ?_
    refine l_nil ?_
    refine s_again ?_
    exact ⟨_, [(5, .int .i64 (((k + 1) : Nat) : Int)), (2, .pointer (some ⟨b2, 0, none⟩)), (3, .pointer (some ⟨b3, 0, none⟩))], by omega, (.cons rfl (.cons rfl (.cons rfl .nil))), ⟨(k + 1), rfl, rfl, by omega, hs8⟩⟩
  ·
    have hc4p := of_decide_eq_false hc4
    refine s_else rfl ?_
    refine s_exit rfl ?_
    refine s_seq ?_
    refine s_seq ?_
    refine s_region ?_
    refine l_r (r_assign rfl) rfl ?_
    refine l_nil ?_
    refine s_block ?_
    refine s_loop (fun m L wl => ∃ (k9 : Nat), L = [(7, .int .i64 ((k9 : Nat) : Int)), (2, .pointer (some ⟨b2, 0, none⟩)), (3, .pointer (some ⟨b3, 0, none⟩))] ∧ m = a.Buffers.length - k9 ∧ k9 ≤ a.Buffers.length ∧ St 0 w wl [.pt b3 [.int .i64 a.Mode, .int .i64 a.Begun, .int .i64 a.Next, .slice Am_3 a.Memory.length cm_3, .slice Am_4 a.Procs.length cm_4, .slice Am_5 a.Boards.length cm_5, .slice Am_6 a.Buffers.length cm_6, .slice Am_7 a.Semas.length cm_7, .slice Am_8 a.Events.length cm_8, .slice Am_9 a.Samples.length cm_9, .slice Am_10 a.Queues.length cm_10, .int .i64 a.Latch.Depth, .slice Am_12 a.Latch.Lines.length cm_12, .int .i64 a.Latch.Dropped, .slice Am_14 a.Given.length cm_14] 48, .pt b2 [.int .i64 a.Mode, .int .i64 a.Begun, .int .i64 a.Next, .slice Al_3 a.Memory.length cl_3, .slice Al_4 a.Procs.length cl_4, .slice Al_5 a.Boards.length cl_5, .slice Al_6 a.Buffers.length cl_6, .slice Al_7 a.Semas.length cl_7, .slice Al_8 a.Events.length cl_8, .slice Al_9 a.Samples.length cl_9, .slice Al_10 a.Queues.length cl_10, .int .i64 a.Latch.Depth, .slice Al_12 a.Latch.Lines.length cl_12, .int .i64 a.Latch.Dropped, .slice Al_14 a.Given.length cl_14] 48]) _ [(7, .int .i64 ((0 : Nat) : Int)), (2, .pointer (some ⟨b2, 0, none⟩)), (3, .pointer (some ⟨b3, 0, none⟩))] (.cons rfl (.cons rfl (.cons rfl .nil))) ⟨0, rfl, rfl, Nat.zero_le _, hs3⟩ ?_
    rintro _ _ w10 ⟨k9, rfl, rfl, hkk9, hs10⟩
    refine s_seq ?_
    refine s_seq ?_
    refine s_region ?_
    refine l_r (r_move rfl) rfl ?_
    refine l_r (r_field rfl fo48_6) rfl ?_
    refine l_r (r_load1p rfl hs10 (Repl.there Repl.here) ag40 rfl) rfl ?_
    refine l_r (r_len rfl el40) rfl ?_
    refine l_r (r_cmp rfl rfl rfl) rfl ?_
    refine l_nil ?_
    refine s_part (dj := 104) rfl (fun hc11 => ?_) (fun hc11 => ?_)
    ·
      have hc11p := of_decide_eq_true hc11
      refine s_then rfl ?_
      refine s_skip ?_
      refine s_seq ?_
      refine s_block ?_
      refine s_seq ?_
      refine s_quiet (by kernel_rfl) (by kernel_rfl) ?_
      refine qq_r (fun w' hw' => r_field rfl fo48_6) rfl ?_
      refine qq_r (fun w' hw' => r_load1p rfl (hs10.ext hw') (Repl.there Repl.here) ag40 rfl) rfl ?_
      refine qq_r (fun w' hw' => r_move rfl) rfl ?_
      obtain ⟨e12x, e12h, e12b, e12o, e12cs, e12A, _, e12K, e12c⟩ := hl_6.get_ (i := k9) (by omega)
      have e12K0 := e12K
      obtain ⟨Ae12_2, ce12_2, Ae12_3, ce12_3, rfl, he12_2, he12_3⟩ := e12K
      refine qq_r (fun w' hw' => r_indexA rfl e12A rfl (by omega) (by omega) el40) rfl ?_
      refine qq_r (fun w' hw' => r_field rfl fo93_3) rfl ?_
      refine qq_r (fun w' hw' => r_load1 rfl ag89 ((e12c.on (hs10.ext hw')).get (j := 3) rfl)) rfl ?_
      refine qq_r (fun w' hw' => r_field rfl fo48_6) rfl ?_
      refine qq_r (fun w' hw' => r_load1p rfl (hs10.ext hw') Repl.here ag40 rfl) rfl ?_
      refine qq_r (fun w' hw' => r_move rfl) rfl ?_
      obtain ⟨e13b, e13o, e13cs, e13A, _, e13K, e13c⟩ := hm_6.2.2 _ _ e12h
      have e13K0 := e13K
      obtain ⟨Ae13_2, ce13_2, Ae13_3, ce13_3, rfl, he13_2, he13_3⟩ := e13K
      refine qq_r (fun w' hw' => r_indexA rfl e13A rfl (by omega) (by omega) el40) rfl ?_
      refine qq_r (fun w' hw' => r_field rfl fo93_3) rfl ?_
      refine qq_r (fun w' hw' => r_load1 rfl ag89 ((e13c.on (hs10.ext hw')).get (j := 3) rfl)) rfl ?_
      refine qq_call rfl rfl fk47 (fun w' hw' => calls_quiet (same_waits w' (he12_3.onk (hs10.ext hw')) (he13_3.onk (hs10.ext hw')))) rfl ?_
      refine qq_r (fun w' hw' => r_assign rfl) rfl ?_
      refine qq_nil ?_
      intro w14 hx14
      have hs14 := hs10.ext hx14
      refine s_seq ?_
      refine s_quiet (by kernel_rfl) (by kernel_rfl) ?_
      refine qq_r (fun w' hw' => r_field rfl fo48_6) rfl ?_
      refine qq_r (fun w' hw' => r_load1p rfl (hs14.ext hw') (Repl.there Repl.here) ag40 rfl) rfl ?_
      refine qq_r (fun w' hw' => r_move rfl) rfl ?_
      refine qq_r (fun w' hw' => r_indexA rfl e12A rfl (by omega) (by omega) el40) rfl ?_
      refine qq_r (fun w' hw' => r_field rfl fo93_2) rfl ?_
      refine qq_r (fun w' hw' => r_load1 rfl ag22 ((e12c.on (hs14.ext hw')).get (j := 2) rfl)) rfl ?_
      refine qq_r (fun w' hw' => r_field rfl fo48_6) rfl ?_
      refine qq_r (fun w' hw' => r_load1p rfl (hs14.ext hw') Repl.here ag40 rfl) rfl ?_
      refine qq_r (fun w' hw' => r_move rfl) rfl ?_
      refine qq_r (fun w' hw' => r_indexA rfl e13A rfl (by omega) (by omega) el40) rfl ?_
      refine qq_r (fun w' hw' => r_field rfl fo93_2) rfl ?_
      refine qq_r (fun w' hw' => r_load1 rfl ag22 ((e13c.on (hs14.ext hw')).get (j := 2) rfl)) rfl ?_
      refine qq_call rfl rfl fk30 (fun w' hw' => calls_quiet (same_ints w' (he12_2.onk (hs14.ext hw')) (he13_2.onk (hs14.ext hw')))) rfl ?_
      refine qq_r (fun w' hw' => r_assign rfl) rfl ?_
      refine qq_nil ?_
      intro w15 hx15
      have hs15 := hs14.ext hx15
      refine s_seq ?_
      refine s_quiet (by kernel_rfl) (by kernel_rfl) ?_
      refine qq_r (fun w' hw' => r_move rfl) rfl ?_
      refine qq_r (fun w' hw' => r_not rfl) rfl ?_
      refine qq_r (fun w' hw' => r_move rfl) rfl ?_
      refine qq_on (dj := 135) rfl rfl rfl ?_
      refine qq_r (fun w' hw' => r_move rfl) rfl ?_
      refine qq_on (dj := 135) rfl rfl rfl ?_
      refine qq_r (fun w' hw' => r_not rfl) rfl ?_
      refine qq_r (fun w' hw' => r_pick_f rfl rfl) rfl ?_
      refine qq_r (fun w' hw' => r_move rfl) rfl ?_
      refine qq_on (dj := 139) rfl rfl rfl ?_
      refine qq_r (fun w' hw' => r_field rfl fo48_6) rfl ?_
      refine qq_on (dj := 139) rfl rfl rfl ?_
      refine qq_r (fun w' hw' => r_load1p rfl (hs15.ext hw') (Repl.there Repl.here) ag40 rfl) rfl ?_
      refine qq_on (dj := 139) rfl rfl rfl ?_
      refine qq_r (fun w' hw' => r_move rfl) rfl ?_
      refine qq_on (dj := 139) rfl rfl rfl ?_
      refine qq_r (fun w' hw' => r_indexA rfl e12A rfl (by omega) (by omega) el40) rfl ?_
      refine qq_on (dj := 139) rfl rfl rfl ?_
      refine qq_r (fun w' hw' => r_field rfl fo93_0) rfl ?_
      refine qq_on (dj := 139) rfl rfl rfl ?_
      refine qq_r (fun w' hw' => r_load1 rfl ag3 ((e12c.on (hs15.ext hw')).get (j := 0) rfl)) rfl ?_
      refine qq_on (dj := 139) rfl rfl rfl ?_
      refine qq_r (fun w' hw' => r_field rfl fo48_6) rfl ?_
      refine qq_on (dj := 139) rfl rfl rfl ?_
      refine qq_r (fun w' hw' => r_load1p rfl (hs15.ext hw') Repl.here ag40 rfl) rfl ?_
      refine qq_on (dj := 139) rfl rfl rfl ?_
      refine qq_r (fun w' hw' => r_move rfl) rfl ?_
      refine qq_on (dj := 139) rfl rfl rfl ?_
      refine qq_r (fun w' hw' => r_indexA rfl e13A rfl (by omega) (by omega) el40) rfl ?_
      refine qq_on (dj := 139) rfl rfl rfl ?_
      refine qq_r (fun w' hw' => r_field rfl fo93_0) rfl ?_
      refine qq_on (dj := 139) rfl rfl rfl ?_
      refine qq_r (fun w' hw' => r_load1 rfl ag3 ((e13c.on (hs15.ext hw')).get (j := 0) rfl)) rfl ?_
      refine qq_on (dj := 139) rfl rfl rfl ?_
      refine qq_r (fun w' hw' => r_cmp rfl rfl (b := false) (by simp)) rfl ?_
      refine qq_r (fun w' hw' => r_pick_f rfl rfl) rfl ?_
      refine qq_r (fun w' hw' => r_move rfl) rfl ?_
      refine qq_on (dj := 154) rfl rfl rfl ?_
      refine qq_r (fun w' hw' => r_field rfl fo48_6) rfl ?_
      refine qq_on (dj := 154) rfl rfl rfl ?_
      refine qq_r (fun w' hw' => r_load1p rfl (hs15.ext hw') (Repl.there Repl.here) ag40 rfl) rfl ?_
      refine qq_on (dj := 154) rfl rfl rfl ?_
      refine qq_r (fun w' hw' => r_move rfl) rfl ?_
      refine qq_on (dj := 154) rfl rfl rfl ?_
      refine qq_r (fun w' hw' => r_indexA rfl e12A rfl (by omega) (by omega) el40) rfl ?_
      refine qq_on (dj := 154) rfl rfl rfl ?_
      refine qq_r (fun w' hw' => r_field rfl fo93_1) rfl ?_
      refine qq_on (dj := 154) rfl rfl rfl ?_
      refine qq_r (fun w' hw' => r_load1 rfl ag4 ((e12c.on (hs15.ext hw')).get (j := 1) rfl)) rfl ?_
      refine qq_on (dj := 154) rfl rfl rfl ?_
      refine qq_r (fun w' hw' => r_field rfl fo48_6) rfl ?_
      refine qq_on (dj := 154) rfl rfl rfl ?_
      refine qq_r (fun w' hw' => r_load1p rfl (hs15.ext hw') Repl.here ag40 rfl) rfl ?_
      refine qq_on (dj := 154) rfl rfl rfl ?_
      refine qq_r (fun w' hw' => r_move rfl) rfl ?_
      refine qq_on (dj := 154) rfl rfl rfl ?_
      refine qq_r (fun w' hw' => r_indexA rfl e13A rfl (by omega) (by omega) el40) rfl ?_
      refine qq_on (dj := 154) rfl rfl rfl ?_
      refine qq_r (fun w' hw' => r_field rfl fo93_1) rfl ?_
      refine qq_on (dj := 154) rfl rfl rfl ?_
      refine qq_r (fun w' hw' => r_load1 rfl ag4 ((e13c.on (hs15.ext hw')).get (j := 1) rfl)) rfl ?_
      refine qq_on (dj := 154) rfl rfl rfl ?_
      refine qq_r (fun w' hw' => r_neb_same rfl rfl Try.underlying4) rfl ?_
      refine qq_r (fun w' hw' => r_pick_f rfl rfl) rfl ?_
      refine qq_nil ?_
      intro w16 hx16
      have hs16 := hs15.ext hx16
      refine s_else rfl ?_
      refine s_skip ?_
      refine s_mark ?_
      refine s_region ?_
      refine l_r (r_move rfl) rfl ?_
      refine l_r (r_inc rfl (by omega)) rfl ?_
      refine l_r (r_assign rfl) rfl ?_
      refine l_nil ?_
      refine s_again ?_
      exact ⟨_, [(7, .int .i64 (((k9 + 1) : Nat) : Int)), (2, .pointer (some ⟨b2, 0, none⟩)), (3, .pointer (some ⟨b3, 0, none⟩))], by omega, (.cons rfl (.cons rfl (.cons rfl .nil))), ⟨(k9 + 1), rfl, rfl, by omega, hs16⟩⟩
    ·
      have hc11p := of_decide_eq_false hc11
      refine s_else rfl ?_
      refine s_exit rfl ?_
      refine s_seq ?_
      refine s_seq ?_
      refine s_region ?_
      refine l_r (r_assign rfl) rfl ?_
      refine l_nil ?_
      refine s_block ?_
      refine s_loop (fun m L wl => ∃ (k17 : Nat), L = [(10, .int .i64 ((k17 : Nat) : Int)), (2, .pointer (some ⟨b2, 0, none⟩)), (3, .pointer (some ⟨b3, 0, none⟩))] ∧ m = a.Semas.length - k17 ∧ k17 ≤ a.Semas.length ∧ St 0 w wl [.pt b3 [.int .i64 a.Mode, .int .i64 a.Begun, .int .i64 a.Next, .slice Am_3 a.Memory.length cm_3, .slice Am_4 a.Procs.length cm_4, .slice Am_5 a.Boards.length cm_5, .slice Am_6 a.Buffers.length cm_6, .slice Am_7 a.Semas.length cm_7, .slice Am_8 a.Events.length cm_8, .slice Am_9 a.Samples.length cm_9, .slice Am_10 a.Queues.length cm_10, .int .i64 a.Latch.Depth, .slice Am_12 a.Latch.Lines.length cm_12, .int .i64 a.Latch.Dropped, .slice Am_14 a.Given.length cm_14] 48, .pt b2 [.int .i64 a.Mode, .int .i64 a.Begun, .int .i64 a.Next, .slice Al_3 a.Memory.length cl_3, .slice Al_4 a.Procs.length cl_4, .slice Al_5 a.Boards.length cl_5, .slice Al_6 a.Buffers.length cl_6, .slice Al_7 a.Semas.length cl_7, .slice Al_8 a.Events.length cl_8, .slice Al_9 a.Samples.length cl_9, .slice Al_10 a.Queues.length cl_10, .int .i64 a.Latch.Depth, .slice Al_12 a.Latch.Lines.length cl_12, .int .i64 a.Latch.Dropped, .slice Al_14 a.Given.length cl_14] 48]) _ [(10, .int .i64 ((0 : Nat) : Int)), (2, .pointer (some ⟨b2, 0, none⟩)), (3, .pointer (some ⟨b3, 0, none⟩))] (.cons rfl (.cons rfl (.cons rfl .nil))) ⟨0, rfl, rfl, Nat.zero_le _, hs10⟩ ?_
      rintro _ _ w18 ⟨k17, rfl, rfl, hkk17, hs18⟩
      refine s_seq ?_
      refine s_seq ?_
      refine s_region ?_
      refine l_r (r_move rfl) rfl ?_
      refine l_r (r_field rfl fo48_7) rfl ?_
      refine l_r (r_load1p rfl hs18 (Repl.there Repl.here) ag41 rfl) rfl ?_
      refine l_r (r_len rfl el41) rfl ?_
      refine l_r (r_cmp rfl rfl rfl) rfl ?_
      refine l_nil ?_
      refine s_part (dj := 173) rfl (fun hc19 => ?_) (fun hc19 => ?_)
      ·
        have hc19p := of_decide_eq_true hc19
        refine s_then rfl ?_
        refine s_skip ?_
        refine s_seq ?_
        refine s_block ?_
        refine s_seq ?_
        refine s_quiet (by kernel_rfl) (by kernel_rfl) ?_
        refine qq_r (fun w' hw' => r_field rfl fo48_7) rfl ?_
        refine qq_r (fun w' hw' => r_load1p rfl (hs18.ext hw') (Repl.there Repl.here) ag41 rfl) rfl ?_
        refine qq_r (fun w' hw' => r_move rfl) rfl ?_
        obtain ⟨e20x, e20h, e20b, e20o, e20cs, e20A, _, e20K, e20c⟩ := hl_7.get_ (i := k17) (by omega)
        have e20K0 := e20K
        obtain ⟨Ae20_3, ce20_3, rfl, he20_3⟩ := e20K
        refine qq_r (fun w' hw' => r_indexA rfl e20A rfl (by omega) (by omega) el41) rfl ?_
        refine qq_r (fun w' hw' => r_field rfl fo95_3) rfl ?_
        refine qq_r (fun w' hw' => r_load1 rfl ag89 ((e20c.on (hs18.ext hw')).get (j := 3) rfl)) rfl ?_
        refine qq_r (fun w' hw' => r_field rfl fo48_7) rfl ?_
        refine qq_r (fun w' hw' => r_load1p rfl (hs18.ext hw') Repl.here ag41 rfl) rfl ?_
        refine qq_r (fun w' hw' => r_move rfl) rfl ?_
        obtain ⟨e21b, e21o, e21cs, e21A, _, e21K, e21c⟩ := hm_7.2.2 _ _ e20h
        have e21K0 := e21K
        obtain ⟨Ae21_3, ce21_3, rfl, he21_3⟩ := e21K
        refine qq_r (fun w' hw' => r_indexA rfl e21A rfl (by omega) (by omega) el41) rfl ?_
        refine qq_r (fun w' hw' => r_field rfl fo95_3) rfl ?_
        refine qq_r (fun w' hw' => r_load1 rfl ag89 ((e21c.on (hs18.ext hw')).get (j := 3) rfl)) rfl ?_
        refine qq_call rfl rfl fk47 (fun w' hw' => calls_quiet (same_waits w' (he20_3.onk (hs18.ext hw')) (he21_3.onk (hs18.ext hw')))) rfl ?_
        refine qq_r (fun w' hw' => r_assign rfl) rfl ?_
        refine qq_nil ?_
        intro w22 hx22
        have hs22 := hs18.ext hx22
        refine s_seq ?_
        refine s_quiet (by kernel_rfl) (by kernel_rfl) ?_
        refine qq_r (fun w' hw' => r_move rfl) rfl ?_
        refine qq_r (fun w' hw' => r_not rfl) rfl ?_
        refine qq_r (fun w' hw' => r_move rfl) rfl ?_
        refine qq_on (dj := 191) rfl rfl rfl ?_
        refine qq_r (fun w' hw' => r_field rfl fo48_7) rfl ?_
        refine qq_on (dj := 191) rfl rfl rfl ?_
        refine qq_r (fun w' hw' => r_load1p rfl (hs22.ext hw') (Repl.there Repl.here) ag41 rfl) rfl ?_
        refine qq_on (dj := 191) rfl rfl rfl ?_
        refine qq_r (fun w' hw' => r_move rfl) rfl ?_
        refine qq_on (dj := 191) rfl rfl rfl ?_
        refine qq_r (fun w' hw' => r_indexA rfl e20A rfl (by omega) (by omega) el41) rfl ?_
        refine qq_on (dj := 191) rfl rfl rfl ?_
        refine qq_r (fun w' hw' => r_field rfl fo95_0) rfl ?_
        refine qq_on (dj := 191) rfl rfl rfl ?_
        refine qq_r (fun w' hw' => r_load1 rfl ag3 ((e20c.on (hs22.ext hw')).get (j := 0) rfl)) rfl ?_
        refine qq_on (dj := 191) rfl rfl rfl ?_
        refine qq_r (fun w' hw' => r_field rfl fo48_7) rfl ?_
        refine qq_on (dj := 191) rfl rfl rfl ?_
        refine qq_r (fun w' hw' => r_load1p rfl (hs22.ext hw') Repl.here ag41 rfl) rfl ?_
        refine qq_on (dj := 191) rfl rfl rfl ?_
        refine qq_r (fun w' hw' => r_move rfl) rfl ?_
        refine qq_on (dj := 191) rfl rfl rfl ?_
        refine qq_r (fun w' hw' => r_indexA rfl e21A rfl (by omega) (by omega) el41) rfl ?_
        refine qq_on (dj := 191) rfl rfl rfl ?_
        refine qq_r (fun w' hw' => r_field rfl fo95_0) rfl ?_
        refine qq_on (dj := 191) rfl rfl rfl ?_
        refine qq_r (fun w' hw' => r_load1 rfl ag3 ((e21c.on (hs22.ext hw')).get (j := 0) rfl)) rfl ?_
        refine qq_on (dj := 191) rfl rfl rfl ?_
        refine qq_r (fun w' hw' => r_cmp rfl rfl (b := false) (by simp)) rfl ?_
        refine qq_r (fun w' hw' => r_pick_f rfl rfl) rfl ?_
        refine qq_r (fun w' hw' => r_move rfl) rfl ?_
        refine qq_on (dj := 206) rfl rfl rfl ?_
        refine qq_r (fun w' hw' => r_field rfl fo48_7) rfl ?_
        refine qq_on (dj := 206) rfl rfl rfl ?_
        refine qq_r (fun w' hw' => r_load1p rfl (hs22.ext hw') (Repl.there Repl.here) ag41 rfl) rfl ?_
        refine qq_on (dj := 206) rfl rfl rfl ?_
        refine qq_r (fun w' hw' => r_move rfl) rfl ?_
        refine qq_on (dj := 206) rfl rfl rfl ?_
        refine qq_r (fun w' hw' => r_indexA rfl e20A rfl (by omega) (by omega) el41) rfl ?_
        refine qq_on (dj := 206) rfl rfl rfl ?_
        refine qq_r (fun w' hw' => r_field rfl fo95_1) rfl ?_
        refine qq_on (dj := 206) rfl rfl rfl ?_
        refine qq_r (fun w' hw' => r_load1 rfl ag3 ((e20c.on (hs22.ext hw')).get (j := 1) rfl)) rfl ?_
        refine qq_on (dj := 206) rfl rfl rfl ?_
        refine qq_r (fun w' hw' => r_field rfl fo48_7) rfl ?_
        refine qq_on (dj := 206) rfl rfl rfl ?_
        refine qq_r (fun w' hw' => r_load1p rfl (hs22.ext hw') Repl.here ag41 rfl) rfl ?_
        refine qq_on (dj := 206) rfl rfl rfl ?_
        refine qq_r (fun w' hw' => r_move rfl) rfl ?_
        refine qq_on (dj := 206) rfl rfl rfl ?_
        refine qq_r (fun w' hw' => r_indexA rfl e21A rfl (by omega) (by omega) el41) rfl ?_
        refine qq_on (dj := 206) rfl rfl rfl ?_
        refine qq_r (fun w' hw' => r_field rfl fo95_1) rfl ?_
        refine qq_on (dj := 206) rfl rfl rfl ?_
        refine qq_r (fun w' hw' => r_load1 rfl ag3 ((e21c.on (hs22.ext hw')).get (j := 1) rfl)) rfl ?_
        refine qq_on (dj := 206) rfl rfl rfl ?_
        refine qq_r (fun w' hw' => r_cmp rfl rfl (b := false) (by simp)) rfl ?_
        refine qq_r (fun w' hw' => r_pick_f rfl rfl) rfl ?_
        refine qq_r (fun w' hw' => r_move rfl) rfl ?_
        refine qq_on (dj := 221) rfl rfl rfl ?_
        refine qq_r (fun w' hw' => r_field rfl fo48_7) rfl ?_
        refine qq_on (dj := 221) rfl rfl rfl ?_
        refine qq_r (fun w' hw' => r_load1p rfl (hs22.ext hw') (Repl.there Repl.here) ag41 rfl) rfl ?_
        refine qq_on (dj := 221) rfl rfl rfl ?_
        refine qq_r (fun w' hw' => r_move rfl) rfl ?_
        refine qq_on (dj := 221) rfl rfl rfl ?_
        refine qq_r (fun w' hw' => r_indexA rfl e20A rfl (by omega) (by omega) el41) rfl ?_
        refine qq_on (dj := 221) rfl rfl rfl ?_
        refine qq_r (fun w' hw' => r_field rfl fo95_2) rfl ?_
        refine qq_on (dj := 221) rfl rfl rfl ?_
        refine qq_r (fun w' hw' => r_load1 rfl ag4 ((e20c.on (hs22.ext hw')).get (j := 2) rfl)) rfl ?_
        refine qq_on (dj := 221) rfl rfl rfl ?_
        refine qq_r (fun w' hw' => r_field rfl fo48_7) rfl ?_
        refine qq_on (dj := 221) rfl rfl rfl ?_
        refine qq_r (fun w' hw' => r_load1p rfl (hs22.ext hw') Repl.here ag41 rfl) rfl ?_
        refine qq_on (dj := 221) rfl rfl rfl ?_
        refine qq_r (fun w' hw' => r_move rfl) rfl ?_
        refine qq_on (dj := 221) rfl rfl rfl ?_
        refine qq_r (fun w' hw' => r_indexA rfl e21A rfl (by omega) (by omega) el41) rfl ?_
        refine qq_on (dj := 221) rfl rfl rfl ?_
        refine qq_r (fun w' hw' => r_field rfl fo95_2) rfl ?_
        refine qq_on (dj := 221) rfl rfl rfl ?_
        refine qq_r (fun w' hw' => r_load1 rfl ag4 ((e21c.on (hs22.ext hw')).get (j := 2) rfl)) rfl ?_
        refine qq_on (dj := 221) rfl rfl rfl ?_
        refine qq_r (fun w' hw' => r_neb_same rfl rfl Try.underlying4) rfl ?_
        refine qq_r (fun w' hw' => r_pick_f rfl rfl) rfl ?_
        refine qq_nil ?_
        intro w23 hx23
        have hs23 := hs22.ext hx23
        refine s_else rfl ?_
        refine s_skip ?_
        refine s_mark ?_
        refine s_region ?_
        refine l_r (r_move rfl) rfl ?_
        refine l_r (r_inc rfl (by omega)) rfl ?_
        refine l_r (r_assign rfl) rfl ?_
        refine l_nil ?_
        refine s_again ?_
        exact ⟨_, [(10, .int .i64 (((k17 + 1) : Nat) : Int)), (2, .pointer (some ⟨b2, 0, none⟩)), (3, .pointer (some ⟨b3, 0, none⟩))], by omega, (.cons rfl (.cons rfl (.cons rfl .nil))), ⟨(k17 + 1), rfl, rfl, by omega, hs23⟩⟩
      ·
        have hc19p := of_decide_eq_false hc19
        refine s_else rfl ?_
        refine s_exit rfl ?_
        refine s_seq ?_
        refine s_seq ?_
        refine s_region ?_
        refine l_r (r_assign rfl) rfl ?_
        refine l_nil ?_
        refine s_block ?_
        refine s_loop (fun m L wl => ∃ (k24 : Nat), L = [(12, .int .i64 ((k24 : Nat) : Int)), (2, .pointer (some ⟨b2, 0, none⟩)), (3, .pointer (some ⟨b3, 0, none⟩))] ∧ m = a.Events.length - k24 ∧ k24 ≤ a.Events.length ∧ St 0 w wl [.pt b3 [.int .i64 a.Mode, .int .i64 a.Begun, .int .i64 a.Next, .slice Am_3 a.Memory.length cm_3, .slice Am_4 a.Procs.length cm_4, .slice Am_5 a.Boards.length cm_5, .slice Am_6 a.Buffers.length cm_6, .slice Am_7 a.Semas.length cm_7, .slice Am_8 a.Events.length cm_8, .slice Am_9 a.Samples.length cm_9, .slice Am_10 a.Queues.length cm_10, .int .i64 a.Latch.Depth, .slice Am_12 a.Latch.Lines.length cm_12, .int .i64 a.Latch.Dropped, .slice Am_14 a.Given.length cm_14] 48, .pt b2 [.int .i64 a.Mode, .int .i64 a.Begun, .int .i64 a.Next, .slice Al_3 a.Memory.length cl_3, .slice Al_4 a.Procs.length cl_4, .slice Al_5 a.Boards.length cl_5, .slice Al_6 a.Buffers.length cl_6, .slice Al_7 a.Semas.length cl_7, .slice Al_8 a.Events.length cl_8, .slice Al_9 a.Samples.length cl_9, .slice Al_10 a.Queues.length cl_10, .int .i64 a.Latch.Depth, .slice Al_12 a.Latch.Lines.length cl_12, .int .i64 a.Latch.Dropped, .slice Al_14 a.Given.length cl_14] 48]) _ [(12, .int .i64 ((0 : Nat) : Int)), (2, .pointer (some ⟨b2, 0, none⟩)), (3, .pointer (some ⟨b3, 0, none⟩))] (.cons rfl (.cons rfl (.cons rfl .nil))) ⟨0, rfl, rfl, Nat.zero_le _, hs18⟩ ?_
        rintro _ _ w25 ⟨k24, rfl, rfl, hkk24, hs25⟩
        refine s_seq ?_
        refine s_seq ?_
        refine s_region ?_
        refine l_r (r_move rfl) rfl ?_
        refine l_r (r_field rfl fo48_8) rfl ?_
        refine l_r (r_load1p rfl hs25 (Repl.there Repl.here) ag42 rfl) rfl ?_
        refine l_r (r_len rfl el42) rfl ?_
        refine l_r (r_cmp rfl rfl rfl) rfl ?_
        refine l_nil ?_
        refine s_part (dj := 240) rfl (fun hc26 => ?_) (fun hc26 => ?_)
        ·
          have hc26p := of_decide_eq_true hc26
          refine s_then rfl ?_
          refine s_skip ?_
          refine s_seq ?_
          refine s_block ?_
          refine s_seq ?_
          refine s_quiet (by kernel_rfl) (by kernel_rfl) ?_
          refine qq_r (fun w' hw' => r_field rfl fo48_8) rfl ?_
          refine qq_r (fun w' hw' => r_load1p rfl (hs25.ext hw') (Repl.there Repl.here) ag42 rfl) rfl ?_
          refine qq_r (fun w' hw' => r_move rfl) rfl ?_
          obtain ⟨e27x, e27h, e27b, e27o, e27cs, e27A, _, e27K, e27c⟩ := hl_8.get_ (i := k24) (by omega)
          have e27K0 := e27K
          obtain ⟨Ae27_1, ce27_1, rfl, he27_1⟩ := e27K
          refine qq_r (fun w' hw' => r_indexA rfl e27A rfl (by omega) (by omega) el42) rfl ?_
          refine qq_r (fun w' hw' => r_field rfl fo97_1) rfl ?_
          refine qq_r (fun w' hw' => r_load1 rfl ag89 ((e27c.on (hs25.ext hw')).get (j := 1) rfl)) rfl ?_
          refine qq_r (fun w' hw' => r_field rfl fo48_8) rfl ?_
          refine qq_r (fun w' hw' => r_load1p rfl (hs25.ext hw') Repl.here ag42 rfl) rfl ?_
          refine qq_r (fun w' hw' => r_move rfl) rfl ?_
          obtain ⟨e28b, e28o, e28cs, e28A, _, e28K, e28c⟩ := hm_8.2.2 _ _ e27h
          have e28K0 := e28K
          obtain ⟨Ae28_1, ce28_1, rfl, he28_1⟩ := e28K
          refine qq_r (fun w' hw' => r_indexA rfl e28A rfl (by omega) (by omega) el42) rfl ?_
          refine qq_r (fun w' hw' => r_field rfl fo97_1) rfl ?_
          refine qq_r (fun w' hw' => r_load1 rfl ag89 ((e28c.on (hs25.ext hw')).get (j := 1) rfl)) rfl ?_
          refine qq_call rfl rfl fk47 (fun w' hw' => calls_quiet (same_waits w' (he27_1.onk (hs25.ext hw')) (he28_1.onk (hs25.ext hw')))) rfl ?_
          refine qq_r (fun w' hw' => r_assign rfl) rfl ?_
          refine qq_nil ?_
          intro w29 hx29
          have hs29 := hs25.ext hx29
          refine s_seq ?_
          refine s_quiet (by kernel_rfl) (by kernel_rfl) ?_
          refine qq_r (fun w' hw' => r_move rfl) rfl ?_
          refine qq_r (fun w' hw' => r_not rfl) rfl ?_
          refine qq_r (fun w' hw' => r_move rfl) rfl ?_
          refine qq_on (dj := 258) rfl rfl rfl ?_
          refine qq_r (fun w' hw' => r_field rfl fo48_8) rfl ?_
          refine qq_on (dj := 258) rfl rfl rfl ?_
          refine qq_r (fun w' hw' => r_load1p rfl (hs29.ext hw') (Repl.there Repl.here) ag42 rfl) rfl ?_
          refine qq_on (dj := 258) rfl rfl rfl ?_
          refine qq_r (fun w' hw' => r_move rfl) rfl ?_
          refine qq_on (dj := 258) rfl rfl rfl ?_
          refine qq_r (fun w' hw' => r_indexA rfl e27A rfl (by omega) (by omega) el42) rfl ?_
          refine qq_on (dj := 258) rfl rfl rfl ?_
          refine qq_r (fun w' hw' => r_field rfl fo97_0) rfl ?_
          refine qq_on (dj := 258) rfl rfl rfl ?_
          refine qq_r (fun w' hw' => r_load1 rfl ag4 ((e27c.on (hs29.ext hw')).get (j := 0) rfl)) rfl ?_
          refine qq_on (dj := 258) rfl rfl rfl ?_
          refine qq_r (fun w' hw' => r_field rfl fo48_8) rfl ?_
          refine qq_on (dj := 258) rfl rfl rfl ?_
          refine qq_r (fun w' hw' => r_load1p rfl (hs29.ext hw') Repl.here ag42 rfl) rfl ?_
          refine qq_on (dj := 258) rfl rfl rfl ?_
          refine qq_r (fun w' hw' => r_move rfl) rfl ?_
          refine qq_on (dj := 258) rfl rfl rfl ?_
          refine qq_r (fun w' hw' => r_indexA rfl e28A rfl (by omega) (by omega) el42) rfl ?_
          refine qq_on (dj := 258) rfl rfl rfl ?_
          refine qq_r (fun w' hw' => r_field rfl fo97_0) rfl ?_
          refine qq_on (dj := 258) rfl rfl rfl ?_
          refine qq_r (fun w' hw' => r_load1 rfl ag4 ((e28c.on (hs29.ext hw')).get (j := 0) rfl)) rfl ?_
          refine qq_on (dj := 258) rfl rfl rfl ?_
          refine qq_r (fun w' hw' => r_neb_same rfl rfl Try.underlying4) rfl ?_
          refine qq_r (fun w' hw' => r_pick_f rfl rfl) rfl ?_
          refine qq_nil ?_
          intro w30 hx30
          have hs30 := hs29.ext hx30
          refine s_else rfl ?_
          refine s_skip ?_
          refine s_mark ?_
          refine s_region ?_
          refine l_r (r_move rfl) rfl ?_
          refine l_r (r_inc rfl (by omega)) rfl ?_
          refine l_r (r_assign rfl) rfl ?_
          refine l_nil ?_
          refine s_again ?_
          exact ⟨_, [(12, .int .i64 (((k24 + 1) : Nat) : Int)), (2, .pointer (some ⟨b2, 0, none⟩)), (3, .pointer (some ⟨b3, 0, none⟩))], by omega, (.cons rfl (.cons rfl (.cons rfl .nil))), ⟨(k24 + 1), rfl, rfl, by omega, hs30⟩⟩
        ·
          have hc26p := of_decide_eq_false hc26
          refine s_else rfl ?_
          refine s_exit rfl ?_
          refine s_seq ?_
          refine s_region ?_
          refine l_r (r_assign rfl) rfl ?_
          refine l_nil ?_
          refine s_ret ?_
          exact q_done (.inr rfl) (.tmp rfl .nil) ⟨rfl, hs25.nil⟩

set_option maxRecDepth 100000 in
theorem same_part {a : TPart} {pl pm : List Value} (w : World) {ok ok2 : Nat → Prop} (hKl : Kd.part.K w ok a pl) (hKm : Kd.part.K w ok2 a pm) :
    Calls Try.prog 16 #[.agg pl.toArray, .agg pm.toArray] w (fun e w' => e = .returned (.bool true) ∧ St 0 w w' []) := by
  refine q_call (n := 195) (args := [.agg pl.toArray, .agg pm.toArray]) Try.func16 rfl rfl rfl ?_
  have hs0 := St.refl 0 w
  have hKl0 := hKl
  obtain ⟨Al_3, cl_3, Al_4, cl_4, Al_5, cl_5, Al_6, cl_6, Al_7, cl_7, Al_8, cl_8, Al_9, cl_9, Al_10, cl_10, Al_12, cl_12, Al_14, cl_14, rfl, hl_3, hl_4, hl_5, hl_6, hl_7, hl_8, hl_9, hl_10, hl_12, hl_14⟩ := hKl
  have hKm0 := hKm
  obtain ⟨Am_3, cm_3, Am_4, cm_4, Am_5, cm_5, Am_6, cm_6, Am_7, cm_7, Am_8, cm_8, Am_9, cm_9, Am_10, cm_10, Am_12, cm_12, Am_14, cm_14, rfl, hm_3, hm_4, hm_5, hm_6, hm_7, hm_8, hm_9, hm_10, hm_12, hm_14⟩ := hKm
  have hle3 := hl_3.len
  have hle4 := hl_4.len
  have hle5 := hl_5.len
  have hle6 := hl_6.len
  have hle7 := hl_7.len
  have hle8 := hl_8.len
  have hle9 := hl_9.len
  have hle10 := hl_10.len
  have hle12 := hl_12.len
  have hle14 := hl_14.len
  refine s_seq ?_
  refine s_region ?_
  refine l_box rfl rfl rfl hs0 ?_
  intro w1 b2 hb2 hx1 hs1
  refine l_box rfl rfl rfl hs1 ?_
  intro w2 b3 hb3 hx2 hs2
  refine l_r (r_assign rfl) rfl ?_
  refine l_nil ?_
  refine s_seq ?_
  refine s_seq ?_
  refine s_region ?_
  refine l_r (r_field rfl fo48_0) rfl ?_
  refine l_r (r_load1p rfl hs2 (Repl.there Repl.here) ag3 rfl) rfl ?_
  refine l_r (r_field rfl fo48_0) rfl ?_
  refine l_r (r_load1p rfl hs2 Repl.here ag3 rfl) rfl ?_
  refine l_r (r_cmp rfl rfl (b := false) (by simp)) rfl ?_
  refine l_r (r_move rfl) rfl ?_
  refine l_on (dj := 18) rfl rfl rfl ?_
  refine l_r (r_field rfl fo48_1) rfl ?_
  refine l_on (dj := 18) rfl rfl rfl ?_
  refine l_r (r_load1p rfl hs2 (Repl.there Repl.here) ag3 rfl) rfl ?_
  refine l_on (dj := 18) rfl rfl rfl ?_
  refine l_r (r_field rfl fo48_1) rfl ?_
  refine l_on (dj := 18) rfl rfl rfl ?_
  refine l_r (r_load1p rfl hs2 Repl.here ag3 rfl) rfl ?_
  refine l_on (dj := 18) rfl rfl rfl ?_
  refine l_r (r_cmp rfl rfl (b := false) (by simp)) rfl ?_
  refine l_r (r_pick_f rfl rfl) rfl ?_
  refine l_r (r_move rfl) rfl ?_
  refine l_on (dj := 25) rfl rfl rfl ?_
  refine l_r (r_field rfl fo48_2) rfl ?_
  refine l_on (dj := 25) rfl rfl rfl ?_
  refine l_r (r_load1p rfl hs2 (Repl.there Repl.here) ag3 rfl) rfl ?_
  refine l_on (dj := 25) rfl rfl rfl ?_
  refine l_r (r_field rfl fo48_2) rfl ?_
  refine l_on (dj := 25) rfl rfl rfl ?_
  refine l_r (r_load1p rfl hs2 Repl.here ag3 rfl) rfl ?_
  refine l_on (dj := 25) rfl rfl rfl ?_
  refine l_r (r_cmp rfl rfl (b := false) (by simp)) rfl ?_
  refine l_r (r_pick_f rfl rfl) rfl ?_
  refine l_r (r_move rfl) rfl ?_
  refine l_on (dj := 32) rfl rfl rfl ?_
  refine l_r (r_field rfl fo48_4) rfl ?_
  refine l_on (dj := 32) rfl rfl rfl ?_
  refine l_r (r_load1p rfl hs2 (Repl.there Repl.here) ag38 rfl) rfl ?_
  refine l_on (dj := 32) rfl rfl rfl ?_
  refine l_r (r_len rfl el38) rfl ?_
  refine l_on (dj := 32) rfl rfl rfl ?_
  refine l_r (r_field rfl fo48_4) rfl ?_
  refine l_on (dj := 32) rfl rfl rfl ?_
  refine l_r (r_load1p rfl hs2 Repl.here ag38 rfl) rfl ?_
  refine l_on (dj := 32) rfl rfl rfl ?_
  refine l_r (r_len rfl el38) rfl ?_
  refine l_on (dj := 32) rfl rfl rfl ?_
  refine l_r (r_cmp rfl rfl (b := false) (by simp)) rfl ?_
  refine l_r (r_pick_f rfl rfl) rfl ?_
  refine l_r (r_move rfl) rfl ?_
  refine l_on (dj := 41) rfl rfl rfl ?_
  refine l_r (r_field rfl fo48_9) rfl ?_
  refine l_on (dj := 41) rfl rfl rfl ?_
  refine l_r (r_load1p rfl hs2 (Repl.there Repl.here) ag43 rfl) rfl ?_
  refine l_on (dj := 41) rfl rfl rfl ?_
  refine l_r (r_len rfl el43) rfl ?_
  refine l_on (dj := 41) rfl rfl rfl ?_
  refine l_r (r_field rfl fo48_9) rfl ?_
  refine l_on (dj := 41) rfl rfl rfl ?_
  refine l_r (r_load1p rfl hs2 Repl.here ag43 rfl) rfl ?_
  refine l_on (dj := 41) rfl rfl rfl ?_
  refine l_r (r_len rfl el43) rfl ?_
  refine l_on (dj := 41) rfl rfl rfl ?_
  refine l_r (r_cmp rfl rfl (b := false) (by simp)) rfl ?_
  refine l_r (r_pick_f rfl rfl) rfl ?_
  refine l_r (r_move rfl) rfl ?_
  refine l_on (dj := 50) rfl rfl rfl ?_
  refine l_r (r_field rfl fo48_10) rfl ?_
  refine l_on (dj := 50) rfl rfl rfl ?_
  refine l_r (r_load1p rfl hs2 (Repl.there Repl.here) ag44 rfl) rfl ?_
  refine l_on (dj := 50) rfl rfl rfl ?_
  refine l_r (r_len rfl el44) rfl ?_
  refine l_on (dj := 50) rfl rfl rfl ?_
  refine l_r (r_field rfl fo48_10) rfl ?_
  refine l_on (dj := 50) rfl rfl rfl ?_
  refine l_r (r_load1p rfl hs2 Repl.here ag44 rfl) rfl ?_
  refine l_on (dj := 50) rfl rfl rfl ?_
  refine l_r (r_len rfl el44) rfl ?_
  refine l_on (dj := 50) rfl rfl rfl ?_
  refine l_r (r_cmp rfl rfl (b := false) (by simp)) rfl ?_
  refine l_r (r_pick_f rfl rfl) rfl ?_
  refine l_nil ?_
  refine s_else rfl ?_
  refine s_skip ?_
  refine s_seq ?_
  refine s_seq ?_
  refine s_region ?_
  refine l_r (r_assign rfl) rfl ?_
  refine l_nil ?_
  refine s_block ?_
  refine s_loop (fun m L wl => ∃ (k : Nat), L = [(5, .int .i64 ((k : Nat) : Int)), (2, .pointer (some ⟨b2, 0, none⟩)), (3, .pointer (some ⟨b3, 0, none⟩))] ∧ m = a.Procs.length - k ∧ k ≤ a.Procs.length ∧ St 0 w wl [.pt b3 [.int .i64 a.Mode, .int .i64 a.Begun, .int .i64 a.Next, .slice Am_3 a.Memory.length cm_3, .slice Am_4 a.Procs.length cm_4, .slice Am_5 a.Boards.length cm_5, .slice Am_6 a.Buffers.length cm_6, .slice Am_7 a.Semas.length cm_7, .slice Am_8 a.Events.length cm_8, .slice Am_9 a.Samples.length cm_9, .slice Am_10 a.Queues.length cm_10, .int .i64 a.Latch.Depth, .slice Am_12 a.Latch.Lines.length cm_12, .int .i64 a.Latch.Dropped, .slice Am_14 a.Given.length cm_14] 48, .pt b2 [.int .i64 a.Mode, .int .i64 a.Begun, .int .i64 a.Next, .slice Al_3 a.Memory.length cl_3, .slice Al_4 a.Procs.length cl_4, .slice Al_5 a.Boards.length cl_5, .slice Al_6 a.Buffers.length cl_6, .slice Al_7 a.Semas.length cl_7, .slice Al_8 a.Events.length cl_8, .slice Al_9 a.Samples.length cl_9, .slice Al_10 a.Queues.length cl_10, .int .i64 a.Latch.Depth, .slice Al_12 a.Latch.Lines.length cl_12, .int .i64 a.Latch.Dropped, .slice Al_14 a.Given.length cl_14] 48]) _ [(5, .int .i64 ((0 : Nat) : Int)), (2, .pointer (some ⟨b2, 0, none⟩)), (3, .pointer (some ⟨b3, 0, none⟩))] (.cons rfl (.cons rfl (.cons rfl .nil))) ⟨0, rfl, rfl, Nat.zero_le _, hs2⟩ ?_
  rintro _ _ w3 ⟨k, rfl, rfl, hkk, hs3⟩
  refine s_seq ?_
  refine s_seq ?_
  refine s_region ?_
  refine l_r (r_move rfl) rfl ?_
  refine l_r (r_field rfl fo48_4) rfl ?_
  refine l_r (r_load1p rfl hs3 (Repl.there Repl.here) ag38 rfl) rfl ?_
  refine l_r (r_len rfl el38) rfl ?_
  refine l_r (r_cmp rfl rfl rfl) rfl ?_
  refine l_nil ?_
  refine s_part (dj := 63) rfl (fun hc4 => ?_) (fun hc4 => ?_)
  ·
    have hc4p := of_decide_eq_true hc4
    refine s_then rfl ?_
    refine s_skip ?_
    refine s_seq ?_
    refine s_block ?_
    refine s_seq ?_
    refine s_quiet (by kernel_rfl) (by kernel_rfl) ?_
    refine qq_r (fun w' hw' => r_field rfl fo48_4) rfl ?_
    refine qq_r (fun w' hw' => r_load1p rfl (hs3.ext hw') (Repl.there Repl.here) ag38 rfl) rfl ?_
    refine qq_r (fun w' hw' => r_move rfl) rfl ?_
    obtain ⟨e5x, e5h, e5b, e5o, e5cs, e5A, _, e5K, e5c⟩ := hl_4.get_ (i := k) (by omega)
    obtain rfl : e5cs = [.int .i64 e5x.State, .int .i64 e5x.Prio, .bool e5x.Suspended, .int .i64 e5x.C.PC, .int .i64 e5x.C.R0, .int .i64 e5x.C.R1, .int .i64 e5x.C.R2, .int .i64 e5x.C.R3, .int .i64 e5x.Since, .int .i64 e5x.Until, .int .i64 e5x.Kind, .int .i64 e5x.Object, .int .i64 e5x.Due, .int .i64 e5x.Next, .bool e5x.Pending, .int .i64 e5x.Code, .int .i64 e5x.Value, .int .i64 e5x.Call] := e5K
    refine qq_r (fun w' hw' => r_indexA rfl e5A rfl (by omega) (by omega) el38) rfl ?_
    refine qq_r (fun w' hw' => r_loadN rfl ag81 (e5c.on (hs3.ext hw')) sz81) rfl ?_
    refine qq_r (fun w' hw' => r_field rfl fo48_4) rfl ?_
    refine qq_r (fun w' hw' => r_load1p rfl (hs3.ext hw') Repl.here ag38 rfl) rfl ?_
    refine qq_r (fun w' hw' => r_move rfl) rfl ?_
    obtain ⟨e6b, e6o, e6cs, e6A, _, e6K, e6c⟩ := hm_4.2.2 _ _ e5h
    obtain rfl : e6cs = [.int .i64 e5x.State, .int .i64 e5x.Prio, .bool e5x.Suspended, .int .i64 e5x.C.PC, .int .i64 e5x.C.R0, .int .i64 e5x.C.R1, .int .i64 e5x.C.R2, .int .i64 e5x.C.R3, .int .i64 e5x.Since, .int .i64 e5x.Until, .int .i64 e5x.Kind, .int .i64 e5x.Object, .int .i64 e5x.Due, .int .i64 e5x.Next, .bool e5x.Pending, .int .i64 e5x.Code, .int .i64 e5x.Value, .int .i64 e5x.Call] := e6K
    refine qq_r (fun w' hw' => r_indexA rfl e6A rfl (by omega) (by omega) el38) rfl ?_
    refine qq_r (fun w' hw' => r_loadN rfl ag81 (e6c.on (hs3.ext hw')) sz81) rfl ?_
    refine qq_r (fun w' hw' => r_ne (r := true) rfl rfl (run_eqGuard_agg (P := Try.prog) _ .neq 81 _ _ _ _ (by kernel_rfl)) rfl (eqr81 _)) rfl ?_
    refine qq_nil ?_
    intro w7 hx7
    have hs7 := hs3.ext hx7
    refine s_else rfl ?_
    refine s_skip ?_
    refine s_mark ?_
    refine s_region ?_
    refine l_r (r_move rfl) rfl ?_
    refine l_r (r_inc rfl (by omega)) rfl ?_
    refine l_r (r_assign rfl) rfl ?_
    refine l_nil ?_
    refine s_again ?_
    exact ⟨_, [(5, .int .i64 (((k + 1) : Nat) : Int)), (2, .pointer (some ⟨b2, 0, none⟩)), (3, .pointer (some ⟨b3, 0, none⟩))], by omega, (.cons rfl (.cons rfl (.cons rfl .nil))), ⟨(k + 1), rfl, rfl, by omega, hs7⟩⟩
  ·
    have hc4p := of_decide_eq_false hc4
    refine s_else rfl ?_
    refine s_exit rfl ?_
    refine s_seq ?_
    refine s_seq ?_
    refine s_region ?_
    refine l_r (r_assign rfl) rfl ?_
    refine l_nil ?_
    refine s_block ?_
    refine s_loop (fun m L wl => ∃ (k8 : Nat), L = [(6, .int .i64 ((k8 : Nat) : Int)), (2, .pointer (some ⟨b2, 0, none⟩)), (3, .pointer (some ⟨b3, 0, none⟩))] ∧ m = a.Samples.length - k8 ∧ k8 ≤ a.Samples.length ∧ St 0 w wl [.pt b3 [.int .i64 a.Mode, .int .i64 a.Begun, .int .i64 a.Next, .slice Am_3 a.Memory.length cm_3, .slice Am_4 a.Procs.length cm_4, .slice Am_5 a.Boards.length cm_5, .slice Am_6 a.Buffers.length cm_6, .slice Am_7 a.Semas.length cm_7, .slice Am_8 a.Events.length cm_8, .slice Am_9 a.Samples.length cm_9, .slice Am_10 a.Queues.length cm_10, .int .i64 a.Latch.Depth, .slice Am_12 a.Latch.Lines.length cm_12, .int .i64 a.Latch.Dropped, .slice Am_14 a.Given.length cm_14] 48, .pt b2 [.int .i64 a.Mode, .int .i64 a.Begun, .int .i64 a.Next, .slice Al_3 a.Memory.length cl_3, .slice Al_4 a.Procs.length cl_4, .slice Al_5 a.Boards.length cl_5, .slice Al_6 a.Buffers.length cl_6, .slice Al_7 a.Semas.length cl_7, .slice Al_8 a.Events.length cl_8, .slice Al_9 a.Samples.length cl_9, .slice Al_10 a.Queues.length cl_10, .int .i64 a.Latch.Depth, .slice Al_12 a.Latch.Lines.length cl_12, .int .i64 a.Latch.Dropped, .slice Al_14 a.Given.length cl_14] 48]) _ [(6, .int .i64 ((0 : Nat) : Int)), (2, .pointer (some ⟨b2, 0, none⟩)), (3, .pointer (some ⟨b3, 0, none⟩))] (.cons rfl (.cons rfl (.cons rfl .nil))) ⟨0, rfl, rfl, Nat.zero_le _, hs3⟩ ?_
    rintro _ _ w9 ⟨k8, rfl, rfl, hkk8, hs9⟩
    refine s_seq ?_
    refine s_seq ?_
    refine s_region ?_
    refine l_r (r_move rfl) rfl ?_
    refine l_r (r_field rfl fo48_9) rfl ?_
    refine l_r (r_load1p rfl hs9 (Repl.there Repl.here) ag43 rfl) rfl ?_
    refine l_r (r_len rfl el43) rfl ?_
    refine l_r (r_cmp rfl rfl rfl) rfl ?_
    refine l_nil ?_
    refine s_part (dj := 81) rfl (fun hc10 => ?_) (fun hc10 => ?_)
    ·
      have hc10p := of_decide_eq_true hc10
      refine s_then rfl ?_
      refine s_skip ?_
      refine s_seq ?_
      refine s_block ?_
      refine s_seq ?_
      refine s_quiet (by kernel_rfl) (by kernel_rfl) ?_
      refine qq_r (fun w' hw' => r_field rfl fo48_9) rfl ?_
      refine qq_r (fun w' hw' => r_load1p rfl (hs9.ext hw') (Repl.there Repl.here) ag43 rfl) rfl ?_
      refine qq_r (fun w' hw' => r_move rfl) rfl ?_
      obtain ⟨e11x, e11h, e11b, e11o, e11cs, e11A, _, e11K, e11c⟩ := hl_9.get_ (i := k8) (by omega)
      obtain rfl : e11cs = [.bool e11x.Is, .int .i64 e11x.Value, .int .i64 e11x.At] := e11K
      refine qq_r (fun w' hw' => r_indexA rfl e11A rfl (by omega) (by omega) el43) rfl ?_
      refine qq_r (fun w' hw' => r_loadN rfl ag56 (e11c.on (hs9.ext hw')) sz56) rfl ?_
      refine qq_r (fun w' hw' => r_field rfl fo48_9) rfl ?_
      refine qq_r (fun w' hw' => r_load1p rfl (hs9.ext hw') Repl.here ag43 rfl) rfl ?_
      refine qq_r (fun w' hw' => r_move rfl) rfl ?_
      obtain ⟨e12b, e12o, e12cs, e12A, _, e12K, e12c⟩ := hm_9.2.2 _ _ e11h
      obtain rfl : e12cs = [.bool e11x.Is, .int .i64 e11x.Value, .int .i64 e11x.At] := e12K
      refine qq_r (fun w' hw' => r_indexA rfl e12A rfl (by omega) (by omega) el43) rfl ?_
      refine qq_r (fun w' hw' => r_loadN rfl ag56 (e12c.on (hs9.ext hw')) sz56) rfl ?_
      refine qq_r (fun w' hw' => r_ne (r := true) rfl rfl (run_eqGuard_agg (P := Try.prog) _ .neq 56 _ _ _ _ (by kernel_rfl)) rfl (eqr56 _)) rfl ?_
      refine qq_nil ?_
      intro w13 hx13
      have hs13 := hs9.ext hx13
      refine s_else rfl ?_
      refine s_skip ?_
      refine s_mark ?_
      refine s_region ?_
      refine l_r (r_move rfl) rfl ?_
      refine l_r (r_inc rfl (by omega)) rfl ?_
      refine l_r (r_assign rfl) rfl ?_
      refine l_nil ?_
      refine s_again ?_
      exact ⟨_, [(6, .int .i64 (((k8 + 1) : Nat) : Int)), (2, .pointer (some ⟨b2, 0, none⟩)), (3, .pointer (some ⟨b3, 0, none⟩))], by omega, (.cons rfl (.cons rfl (.cons rfl .nil))), ⟨(k8 + 1), rfl, rfl, by omega, hs13⟩⟩
    ·
      have hc10p := of_decide_eq_false hc10
      refine s_else rfl ?_
      refine s_exit rfl ?_
      refine s_seq ?_
      refine s_seq ?_
      refine s_region ?_
      refine l_r (r_assign rfl) rfl ?_
      refine l_nil ?_
      refine s_block ?_
      refine s_loop (fun m L wl => ∃ (k14 : Nat), L = [(7, .int .i64 ((k14 : Nat) : Int)), (2, .pointer (some ⟨b2, 0, none⟩)), (3, .pointer (some ⟨b3, 0, none⟩))] ∧ m = a.Queues.length - k14 ∧ k14 ≤ a.Queues.length ∧ St 0 w wl [.pt b3 [.int .i64 a.Mode, .int .i64 a.Begun, .int .i64 a.Next, .slice Am_3 a.Memory.length cm_3, .slice Am_4 a.Procs.length cm_4, .slice Am_5 a.Boards.length cm_5, .slice Am_6 a.Buffers.length cm_6, .slice Am_7 a.Semas.length cm_7, .slice Am_8 a.Events.length cm_8, .slice Am_9 a.Samples.length cm_9, .slice Am_10 a.Queues.length cm_10, .int .i64 a.Latch.Depth, .slice Am_12 a.Latch.Lines.length cm_12, .int .i64 a.Latch.Dropped, .slice Am_14 a.Given.length cm_14] 48, .pt b2 [.int .i64 a.Mode, .int .i64 a.Begun, .int .i64 a.Next, .slice Al_3 a.Memory.length cl_3, .slice Al_4 a.Procs.length cl_4, .slice Al_5 a.Boards.length cl_5, .slice Al_6 a.Buffers.length cl_6, .slice Al_7 a.Semas.length cl_7, .slice Al_8 a.Events.length cl_8, .slice Al_9 a.Samples.length cl_9, .slice Al_10 a.Queues.length cl_10, .int .i64 a.Latch.Depth, .slice Al_12 a.Latch.Lines.length cl_12, .int .i64 a.Latch.Dropped, .slice Al_14 a.Given.length cl_14] 48]) _ [(7, .int .i64 ((0 : Nat) : Int)), (2, .pointer (some ⟨b2, 0, none⟩)), (3, .pointer (some ⟨b3, 0, none⟩))] (.cons rfl (.cons rfl (.cons rfl .nil))) ⟨0, rfl, rfl, Nat.zero_le _, hs9⟩ ?_
      rintro _ _ w15 ⟨k14, rfl, rfl, hkk14, hs15⟩
      refine s_seq ?_
      refine s_seq ?_
      refine s_region ?_
      refine l_r (r_move rfl) rfl ?_
      refine l_r (r_field rfl fo48_10) rfl ?_
      refine l_r (r_load1p rfl hs15 (Repl.there Repl.here) ag44 rfl) rfl ?_
      refine l_r (r_len rfl el44) rfl ?_
      refine l_r (r_cmp rfl rfl rfl) rfl ?_
      refine l_nil ?_
      refine s_part (dj := 99) rfl (fun hc16 => ?_) (fun hc16 => ?_)
      ·
        have hc16p := of_decide_eq_true hc16
        refine s_then rfl ?_
        refine s_skip ?_
        refine s_seq ?_
        refine s_block ?_
        refine s_seq ?_
        refine s_quiet (by kernel_rfl) (by kernel_rfl) ?_
        refine qq_r (fun w' hw' => r_field rfl fo48_10) rfl ?_
        refine qq_r (fun w' hw' => r_load1p rfl (hs15.ext hw') (Repl.there Repl.here) ag44 rfl) rfl ?_
        refine qq_r (fun w' hw' => r_move rfl) rfl ?_
        obtain ⟨e17x, e17h, e17b, e17o, e17cs, e17A, _, e17K, e17c⟩ := hl_10.get_ (i := k14) (by omega)
        have e17K0 := e17K
        obtain ⟨Ae17_1, ce17_1, rfl, he17_1⟩ := e17K
        refine qq_r (fun w' hw' => r_indexA rfl e17A rfl (by omega) (by omega) el44) rfl ?_
        refine qq_r (fun w' hw' => r_field rfl fo52_1) rfl ?_
        refine qq_r (fun w' hw' => r_load1 rfl ag22 ((e17c.on (hs15.ext hw')).get (j := 1) rfl)) rfl ?_
        refine qq_r (fun w' hw' => r_field rfl fo48_10) rfl ?_
        refine qq_r (fun w' hw' => r_load1p rfl (hs15.ext hw') Repl.here ag44 rfl) rfl ?_
        refine qq_r (fun w' hw' => r_move rfl) rfl ?_
        obtain ⟨e18b, e18o, e18cs, e18A, _, e18K, e18c⟩ := hm_10.2.2 _ _ e17h
        have e18K0 := e18K
        obtain ⟨Ae18_1, ce18_1, rfl, he18_1⟩ := e18K
        refine qq_r (fun w' hw' => r_indexA rfl e18A rfl (by omega) (by omega) el44) rfl ?_
        refine qq_r (fun w' hw' => r_field rfl fo52_1) rfl ?_
        refine qq_r (fun w' hw' => r_load1 rfl ag22 ((e18c.on (hs15.ext hw')).get (j := 1) rfl)) rfl ?_
        refine qq_call rfl rfl fk30 (fun w' hw' => calls_quiet (same_ints w' (he17_1.onk (hs15.ext hw')) (he18_1.onk (hs15.ext hw')))) rfl ?_
        refine qq_r (fun w' hw' => r_assign rfl) rfl ?_
        refine qq_nil ?_
        intro w19 hx19
        have hs19 := hs15.ext hx19
        refine s_seq ?_
        refine s_quiet (by kernel_rfl) (by kernel_rfl) ?_
        refine qq_r (fun w' hw' => r_move rfl) rfl ?_
        refine qq_r (fun w' hw' => r_not rfl) rfl ?_
        refine qq_r (fun w' hw' => r_move rfl) rfl ?_
        refine qq_on (dj := 117) rfl rfl rfl ?_
        refine qq_r (fun w' hw' => r_field rfl fo48_10) rfl ?_
        refine qq_on (dj := 117) rfl rfl rfl ?_
        refine qq_r (fun w' hw' => r_load1p rfl (hs19.ext hw') (Repl.there Repl.here) ag44 rfl) rfl ?_
        refine qq_on (dj := 117) rfl rfl rfl ?_
        refine qq_r (fun w' hw' => r_move rfl) rfl ?_
        refine qq_on (dj := 117) rfl rfl rfl ?_
        refine qq_r (fun w' hw' => r_indexA rfl e17A rfl (by omega) (by omega) el44) rfl ?_
        refine qq_on (dj := 117) rfl rfl rfl ?_
        refine qq_r (fun w' hw' => r_field rfl fo52_0) rfl ?_
        refine qq_on (dj := 117) rfl rfl rfl ?_
        refine qq_r (fun w' hw' => r_load1 rfl ag3 ((e17c.on (hs19.ext hw')).get (j := 0) rfl)) rfl ?_
        refine qq_on (dj := 117) rfl rfl rfl ?_
        refine qq_r (fun w' hw' => r_field rfl fo48_10) rfl ?_
        refine qq_on (dj := 117) rfl rfl rfl ?_
        refine qq_r (fun w' hw' => r_load1p rfl (hs19.ext hw') Repl.here ag44 rfl) rfl ?_
        refine qq_on (dj := 117) rfl rfl rfl ?_
        refine qq_r (fun w' hw' => r_move rfl) rfl ?_
        refine qq_on (dj := 117) rfl rfl rfl ?_
        refine qq_r (fun w' hw' => r_indexA rfl e18A rfl (by omega) (by omega) el44) rfl ?_
        refine qq_on (dj := 117) rfl rfl rfl ?_
        refine qq_r (fun w' hw' => r_field rfl fo52_0) rfl ?_
        refine qq_on (dj := 117) rfl rfl rfl ?_
        refine qq_r (fun w' hw' => r_load1 rfl ag3 ((e18c.on (hs19.ext hw')).get (j := 0) rfl)) rfl ?_
        refine qq_on (dj := 117) rfl rfl rfl ?_
        refine qq_r (fun w' hw' => r_cmp rfl rfl (b := false) (by simp)) rfl ?_
        refine qq_r (fun w' hw' => r_pick_f rfl rfl) rfl ?_
        refine qq_r (fun w' hw' => r_move rfl) rfl ?_
        refine qq_on (dj := 132) rfl rfl rfl ?_
        refine qq_r (fun w' hw' => r_field rfl fo48_10) rfl ?_
        refine qq_on (dj := 132) rfl rfl rfl ?_
        refine qq_r (fun w' hw' => r_load1p rfl (hs19.ext hw') (Repl.there Repl.here) ag44 rfl) rfl ?_
        refine qq_on (dj := 132) rfl rfl rfl ?_
        refine qq_r (fun w' hw' => r_move rfl) rfl ?_
        refine qq_on (dj := 132) rfl rfl rfl ?_
        refine qq_r (fun w' hw' => r_indexA rfl e17A rfl (by omega) (by omega) el44) rfl ?_
        refine qq_on (dj := 132) rfl rfl rfl ?_
        refine qq_r (fun w' hw' => r_field rfl fo52_2) rfl ?_
        refine qq_on (dj := 132) rfl rfl rfl ?_
        refine qq_r (fun w' hw' => r_load1 rfl ag3 ((e17c.on (hs19.ext hw')).get (j := 2) rfl)) rfl ?_
        refine qq_on (dj := 132) rfl rfl rfl ?_
        refine qq_r (fun w' hw' => r_field rfl fo48_10) rfl ?_
        refine qq_on (dj := 132) rfl rfl rfl ?_
        refine qq_r (fun w' hw' => r_load1p rfl (hs19.ext hw') Repl.here ag44 rfl) rfl ?_
        refine qq_on (dj := 132) rfl rfl rfl ?_
        refine qq_r (fun w' hw' => r_move rfl) rfl ?_
        refine qq_on (dj := 132) rfl rfl rfl ?_
        refine qq_r (fun w' hw' => r_indexA rfl e18A rfl (by omega) (by omega) el44) rfl ?_
        refine qq_on (dj := 132) rfl rfl rfl ?_
        refine qq_r (fun w' hw' => r_field rfl fo52_2) rfl ?_
        refine qq_on (dj := 132) rfl rfl rfl ?_
        refine qq_r (fun w' hw' => r_load1 rfl ag3 ((e18c.on (hs19.ext hw')).get (j := 2) rfl)) rfl ?_
        refine qq_on (dj := 132) rfl rfl rfl ?_
        refine qq_r (fun w' hw' => r_cmp rfl rfl (b := false) (by simp)) rfl ?_
        refine qq_r (fun w' hw' => r_pick_f rfl rfl) rfl ?_
        refine qq_nil ?_
        intro w20 hx20
        have hs20 := hs19.ext hx20
        refine s_else rfl ?_
        refine s_skip ?_
        refine s_mark ?_
        refine s_region ?_
        refine l_r (r_move rfl) rfl ?_
        refine l_r (r_inc rfl (by omega)) rfl ?_
        refine l_r (r_assign rfl) rfl ?_
        refine l_nil ?_
        refine s_again ?_
        exact ⟨_, [(7, .int .i64 (((k14 + 1) : Nat) : Int)), (2, .pointer (some ⟨b2, 0, none⟩)), (3, .pointer (some ⟨b3, 0, none⟩))], by omega, (.cons rfl (.cons rfl (.cons rfl .nil))), ⟨(k14 + 1), rfl, rfl, by omega, hs20⟩⟩
      ·
        have hc16p := of_decide_eq_false hc16
        refine s_else rfl ?_
        refine s_exit rfl ?_
        refine s_seq ?_
        refine s_region ?_
        refine l_r (r_field rfl fo48_3) rfl ?_
        refine l_r (r_load1p rfl hs15 (Repl.there Repl.here) ag22 rfl) rfl ?_
        refine l_r (r_field rfl fo48_3) rfl ?_
        refine l_r (r_load1p rfl hs15 Repl.here ag22 rfl) rfl ?_
        refine l_call rfl rfl fk30 rfl (same_ints w15 (hl_3.onk hs15) (hm_3.onk hs15)) ?_
        rintro _ w21 ⟨rfl, hc21⟩
        have hs21 := hs15.call0 hc21
        refine ⟨_, rfl, ?_⟩
        refine l_r (r_assign rfl) rfl ?_
        refine l_nil ?_
        refine s_seq ?_
        refine s_region ?_
        refine l_r (r_loadNp rfl hs21 (Repl.there Repl.here) ag48 sz48) rfl ?_
        refine l_r (r_loadNp rfl hs21 Repl.here ag48 sz48) rfl ?_
        refine l_call rfl rfl fk31 rfl (same_objects w21 (Kd.part.on hKl0 hs21) (Kd.part.on hKm0 hs21)) ?_
        rintro _ w22 ⟨rfl, hc22⟩
        have hs22 := hs21.call0 hc22
        refine ⟨_, rfl, ?_⟩
        refine l_r (r_assign rfl) rfl ?_
        refine l_nil ?_
        refine s_seq ?_
        refine s_region ?_
        refine l_r (r_field rfl fo48_11) rfl ?_
        refine l_r (r_field rfl fo46_1) rfl ?_
        refine l_r (r_load1p rfl hs22 (Repl.there Repl.here) ag22 rfl) rfl ?_
        refine l_r (r_field rfl fo48_11) rfl ?_
        refine l_r (r_field rfl fo46_1) rfl ?_
        refine l_r (r_load1p rfl hs22 Repl.here ag22 rfl) rfl ?_
        refine l_call rfl rfl fk30 rfl (same_ints w22 (hl_12.onk hs22) (hm_12.onk hs22)) ?_
        rintro _ w23 ⟨rfl, hc23⟩
        have hs23 := hs22.call0 hc23
        refine ⟨_, rfl, ?_⟩
        refine l_r (r_assign rfl) rfl ?_
        refine l_nil ?_
        refine s_seq ?_
        refine s_region ?_
        refine l_r (r_field rfl fo48_12) rfl ?_
        refine l_r (r_load1p rfl hs23 (Repl.there Repl.here) ag22 rfl) rfl ?_
        refine l_r (r_field rfl fo48_12) rfl ?_
        refine l_r (r_load1p rfl hs23 Repl.here ag22 rfl) rfl ?_
        refine l_call rfl rfl fk30 rfl (same_ints w23 (hl_14.onk hs23) (hm_14.onk hs23)) ?_
        rintro _ w24 ⟨rfl, hc24⟩
        have hs24 := hs23.call0 hc24
        refine ⟨_, rfl, ?_⟩
        refine l_r (r_assign rfl) rfl ?_
        refine l_nil ?_
        refine s_seq ?_
        refine s_region ?_
        refine l_r (r_move rfl) rfl ?_
        refine l_r (r_move rfl) rfl ?_
        refine l_on (dj := 168) rfl rfl rfl ?_
        refine l_r (r_move rfl) rfl ?_
        refine l_r (r_pick_t rfl rfl) rfl ?_
        refine l_r (r_move rfl) rfl ?_
        refine l_on (dj := 171) rfl rfl rfl ?_
        refine l_r (r_move rfl) rfl ?_
        refine l_r (r_pick_t rfl rfl) rfl ?_
        refine l_r (r_move rfl) rfl ?_
        refine l_on (dj := 174) rfl rfl rfl ?_
        refine l_r (r_move rfl) rfl ?_
        refine l_r (r_pick_t rfl rfl) rfl ?_
        refine l_r (r_move rfl) rfl ?_
        refine l_on (dj := 177) rfl rfl rfl ?_
        refine l_r (r_field rfl fo48_11) rfl ?_
        refine l_on (dj := 177) rfl rfl rfl ?_
        refine l_r (r_field rfl fo46_0) rfl ?_
        refine l_on (dj := 177) rfl rfl rfl ?_
        refine l_r (r_load1p rfl hs24 (Repl.there Repl.here) ag3 rfl) rfl ?_
        refine l_on (dj := 177) rfl rfl rfl ?_
        refine l_r (r_field rfl fo48_11) rfl ?_
        refine l_on (dj := 177) rfl rfl rfl ?_
        refine l_r (r_field rfl fo46_0) rfl ?_
        refine l_on (dj := 177) rfl rfl rfl ?_
        refine l_r (r_load1p rfl hs24 Repl.here ag3 rfl) rfl ?_
        refine l_on (dj := 177) rfl rfl rfl ?_
        refine l_r (r_cmp rfl rfl (b := true) (by simp)) rfl ?_
        refine l_r (r_pick_t rfl rfl) rfl ?_
        refine l_r (r_move rfl) rfl ?_
        refine l_on (dj := 186) rfl rfl rfl ?_
        refine l_r (r_field rfl fo48_11) rfl ?_
        refine l_on (dj := 186) rfl rfl rfl ?_
        refine l_r (r_field rfl fo46_2) rfl ?_
        refine l_on (dj := 186) rfl rfl rfl ?_
        refine l_r (r_load1p rfl hs24 (Repl.there Repl.here) ag3 rfl) rfl ?_
        refine l_on (dj := 186) rfl rfl rfl ?_
        refine l_r (r_field rfl fo48_11) rfl ?_
        refine l_on (dj := 186) rfl rfl rfl ?_
        refine l_r (r_field rfl fo46_2) rfl ?_
        refine l_on (dj := 186) rfl rfl rfl ?_
        refine l_r (r_load1p rfl hs24 Repl.here ag3 rfl) rfl ?_
        refine l_on (dj := 186) rfl rfl rfl ?_
        refine l_r (r_cmp rfl rfl (b := true) (by simp)) rfl ?_
        refine l_r (r_pick_t rfl rfl) rfl ?_
        refine l_r (r_assign rfl) rfl ?_
        refine l_nil ?_
        refine s_ret ?_
        exact q_done (.inr rfl) (.tmp rfl .nil) ⟨rfl, hs24.nil⟩

set_option maxRecDepth 100000 in
theorem same_parts {xs : List TPart} {A A2 : Option Addr} {c c2 : Nat} (w : World) {ok ok2 : Nat → Prop} (hx : Sl Kd.part w ok A c xs) (hy : Sl Kd.part w ok2 A2 c2 xs) :
    Calls Try.prog 11 #[.slice A xs.length c, .slice A2 xs.length c2] w (fun e w' => e = .returned (.bool true) ∧ St 0 w w' []) := by
  refine q_call (n := 29) (args := [.slice A xs.length c, .slice A2 xs.length c2]) Try.func11 rfl rfl rfl ?_
  have hs0 := St.refl 0 w
  have hlx := hx.len
  refine s_seq ?_
  refine s_region ?_
  refine l_r (r_assign rfl) rfl ?_
  refine l_nil ?_
  refine s_seq ?_
  refine s_seq ?_
  refine s_region ?_
  refine l_r (r_move rfl) rfl ?_
  refine l_r (r_len rfl el28) rfl ?_
  refine l_r (r_move rfl) rfl ?_
  refine l_r (r_len rfl el28) rfl ?_
  refine l_r (r_cmp rfl rfl (b := false) (by simp)) rfl ?_
  refine l_nil ?_
  refine s_else rfl ?_
  refine s_skip ?_
  refine s_seq ?_
  refine s_seq ?_
  refine s_region ?_
  refine l_r (r_assign rfl) rfl ?_
  refine l_nil ?_
  refine s_block ?_
  refine s_loop (fun m L wl => ∃ (k : Nat), L = [(5, .int .i64 ((k : Nat) : Int)), (0, .slice A xs.length c), (1, .slice A2 xs.length c2)] ∧ m = xs.length - k ∧ k ≤ xs.length ∧ St 0 w wl []) _ [(5, .int .i64 ((0 : Nat) : Int)), (0, .slice A xs.length c), (1, .slice A2 xs.length c2)] (.cons rfl (.cons rfl (.cons rfl .nil))) ⟨0, rfl, rfl, Nat.zero_le _, hs0⟩ ?_
  rintro _ _ w1 ⟨k, rfl, rfl, hkk, hs1⟩
  refine s_seq ?_
  refine s_seq ?_
  refine s_region ?_
  refine l_r (r_move rfl) rfl ?_
  refine l_r (r_move rfl) rfl ?_
  refine l_r (r_len rfl el28) rfl ?_
  refine l_r (r_cmp rfl rfl rfl) rfl ?_
  refine l_nil ?_
  refine s_part (dj := 15) rfl (fun hc2 => ?_) (fun hc2 => ?_)
  ·
    have hc2p := of_decide_eq_true hc2
    refine s_then rfl ?_
    refine s_skip ?_
    refine s_seq ?_
    refine s_block ?_
    refine s_seq ?_
    refine s_quiet (by kernel_rfl) (by kernel_rfl) ?_
    refine qq_r (fun w' hw' => r_move rfl) rfl ?_
    refine qq_r (fun w' hw' => r_move rfl) rfl ?_
    obtain ⟨e3x, e3h, e3b, e3o, e3cs, e3A, _, e3K, e3c⟩ := hx.get_ (i := k) (by omega)
    have e3K0 := e3K
    obtain ⟨Ae3_3, ce3_3, Ae3_4, ce3_4, Ae3_5, ce3_5, Ae3_6, ce3_6, Ae3_7, ce3_7, Ae3_8, ce3_8, Ae3_9, ce3_9, Ae3_10, ce3_10, Ae3_12, ce3_12, Ae3_14, ce3_14, rfl, he3_3, he3_4, he3_5, he3_6, he3_7, he3_8, he3_9, he3_10, he3_12, he3_14⟩ := e3K
    refine qq_r (fun w' hw' => r_indexA rfl e3A rfl (by omega) (by omega) el28) rfl ?_
    refine qq_r (fun w' hw' => r_loadN rfl ag48 (e3c.on (hs1.ext hw')) sz48) rfl ?_
    refine qq_r (fun w' hw' => r_move rfl) rfl ?_
    refine qq_r (fun w' hw' => r_move rfl) rfl ?_
    obtain ⟨e4b, e4o, e4cs, e4A, _, e4K, e4c⟩ := hy.2.2 _ _ e3h
    have e4K0 := e4K
    obtain ⟨Ae4_3, ce4_3, Ae4_4, ce4_4, Ae4_5, ce4_5, Ae4_6, ce4_6, Ae4_7, ce4_7, Ae4_8, ce4_8, Ae4_9, ce4_9, Ae4_10, ce4_10, Ae4_12, ce4_12, Ae4_14, ce4_14, rfl, he4_3, he4_4, he4_5, he4_6, he4_7, he4_8, he4_9, he4_10, he4_12, he4_14⟩ := e4K
    refine qq_r (fun w' hw' => r_indexA rfl e4A rfl (by omega) (by omega) el28) rfl ?_
    refine qq_r (fun w' hw' => r_loadN rfl ag48 (e4c.on (hs1.ext hw')) sz48) rfl ?_
    refine qq_call rfl rfl fk16 (fun w' hw' => calls_quiet (same_part w' (Kd.part.on e3K0 (hs1.ext hw')) (Kd.part.on e4K0 (hs1.ext hw')))) rfl ?_
    refine qq_r (fun w' hw' => r_assign rfl) rfl ?_
    refine qq_nil ?_
    intro w5 hx5
    have hs5 := hs1.ext hx5
    refine s_seq ?_
    refine s_region ?_
    refine l_r (r_move rfl) rfl ?_
    refine l_r (r_not rfl) rfl ?_
    refine l_nil ?_
    refine s_else rfl ?_
    refine s_skip ?_
    refine s_mark ?_
    refine s_region ?_
    refine l_r (r_move rfl) rfl ?_
    refine l_r (r_inc rfl (by omega)) rfl ?_
    refine l_r (r_assign rfl) rfl ?_
    refine l_nil ?_
    refine s_again ?_
    exact ⟨_, [(5, .int .i64 (((k + 1) : Nat) : Int)), (0, .slice A xs.length c), (1, .slice A2 xs.length c2)], by omega, (.cons rfl (.cons rfl (.cons rfl .nil))), ⟨(k + 1), rfl, rfl, by omega, hs5⟩⟩
  ·
    have hc2p := of_decide_eq_false hc2
    refine s_else rfl ?_
    refine s_exit rfl ?_
    refine s_seq ?_
    refine s_region ?_
    refine l_r (r_assign rfl) rfl ?_
    refine l_nil ?_
    refine s_ret ?_
    exact q_done (.inr rfl) (.tmp rfl .nil) ⟨rfl, hs1.nil⟩

end Go.Proofs.Ytfhghnhgcdiknaa
