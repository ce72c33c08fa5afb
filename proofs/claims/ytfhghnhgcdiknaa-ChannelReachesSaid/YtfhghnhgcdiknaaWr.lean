/- Few. -/
import Derived.Test.YtfhghnhgcdiknaaWq
set_option linter.unusedVariables false
namespace Go.Proofs.Ytfhghnhgcdiknaa
open Go.RowKit
set_option maxRecDepth 100000 in
theorem few_waits {ns : List Nat} {A : Option Addr} {c : Nat} {n : Int} (w : World) {ok : Nat → Prop} (hx : Sl Kd.hdr w ok A c ns) :
    Calls Try.prog 39 #[.int .i64 n, .slice A ns.length c] w (fun e w' => ∃ b, e = .returned (.bool b) ∧ St 0 w w' []) := by
  refine q_call (n := 20) (args := [.int .i64 n, .slice A ns.length c]) Try.func39 rfl rfl rfl ?_
  have hs0 := St.refl 0 w
  have hlx := hx.len
  refine s_seq ?_
  refine s_region ?_
  refine l_r (r_assign rfl) rfl ?_
  refine l_nil ?_
  refine s_seq ?_
  refine s_seq ?_
  refine s_region ?_
  refine l_r (r_move rfl) rfl ?_
  refine l_r (r_cmp rfl rfl rfl) rfl ?_
  refine l_nil ?_
  refine s_part (dj := 7) rfl (fun hc1 => ?_) (fun hc1 => ?_)
  ·
    have hc1p := of_decide_eq_true hc1
    refine s_then rfl ?_
    refine s_seq ?_
    refine s_region ?_
    refine l_r (r_assign rfl) rfl ?_
    refine l_nil ?_
    refine s_ret ?_
    exact q_done (.inr rfl) (.tmp rfl .nil) ⟨_, rfl, hs0.nil⟩
  ·
    have hc1p := of_decide_eq_false hc1
    refine s_else rfl ?_
    refine s_skip ?_
    refine s_seq ?_
    refine s_seq ?_
    refine s_region ?_
    refine l_r (r_assign rfl) rfl ?_
    refine l_nil ?_
    refine s_block ?_
    refine s_loop (fun m L wl => ∃ (k : Nat), L = [(5, .int .i64 ((k : Nat) : Int)), (1, .slice A ns.length c)] ∧ m = ns.length - k ∧ k ≤ ns.length ∧ St 0 w wl []) _ [(5, .int .i64 ((0 : Nat) : Int)), (1, .slice A ns.length c)] (.cons rfl (.cons rfl .nil)) ⟨0, rfl, rfl, Nat.zero_le _, hs0⟩ ?_
    rintro _ _ w2 ⟨k, rfl, rfl, hkk, hs2⟩
    refine s_seq ?_
    refine s_seq ?_
    refine s_region ?_
    refine l_r (r_move rfl) rfl ?_
    refine l_r (r_move rfl) rfl ?_
    refine l_r (r_len rfl el88) rfl ?_
    refine l_r (r_cmp rfl rfl rfl) rfl ?_
    refine l_nil ?_
    refine s_part (dj := 11) rfl (fun hc3 => ?_) (fun hc3 => ?_)
    ·
      have hc3p := of_decide_eq_true hc3
      refine s_then rfl ?_
      refine s_skip ?_
      refine s_seq ?_
      refine s_block ?_
      refine s_seq ?_
      refine s_region ?_
      refine l_r (r_move rfl) rfl ?_
      refine l_r (r_move rfl) rfl ?_
      obtain ⟨e4x, e4h, e4b, e4o, e4cs, e4A, _, e4K, e4c⟩ := hx.get_ (i := k) (by omega)
      have e4K0 := e4K
      obtain ⟨Ae4, ce4, rfl⟩ := e4K
      refine l_r (r_indexA rfl e4A rfl (by omega) (by omega) el88) rfl ?_
      refine l_r (r_load1 rfl ag89 ((e4c.on hs2).get (j := 0) rfl)) rfl ?_
      refine l_r (r_len rfl el89) rfl ?_
      refine l_r (r_cmp rfl rfl rfl) rfl ?_
      refine l_nil ?_
      refine s_part (dj := 19) rfl (fun hc5 => ?_) (fun hc5 => ?_)
      ·
        have hc5p := of_decide_eq_true hc5
        refine s_then rfl ?_
        refine s_seq ?_
        refine s_region ?_
        refine l_r (r_assign rfl) rfl ?_
        refine l_nil ?_
        refine s_ret ?_
        exact q_done (.inr rfl) (.tmp rfl .nil) ⟨_, rfl, hs2.nil⟩
      ·
        have hc5p := of_decide_eq_false hc5
        refine s_else rfl ?_
        refine s_skip ?_
        refine s_mark ?_
        refine s_region ?_
        refine l_r (r_move rfl) rfl ?_
        refine l_r (r_inc rfl (by omega)) rfl ?_
        refine l_r (r_assign rfl) rfl ?_
        refine l_nil ?_
        refine s_again ?_
        exact ⟨_, [(5, .int .i64 (((k + 1) : Nat) : Int)), (1, .slice A ns.length c)], by omega, (.cons rfl (.cons rfl .nil)), ⟨(k + 1), rfl, rfl, by omega, hs2⟩⟩
    ·
      have hc3p := of_decide_eq_false hc3
      refine s_else rfl ?_
      refine s_exit rfl ?_
      refine s_seq ?_
      refine s_region ?_
      refine l_r (r_assign rfl) rfl ?_
      refine l_nil ?_
      refine s_ret ?_
      exact q_done (.inr rfl) (.tmp rfl .nil) ⟨_, rfl, hs2.nil⟩

set_option maxRecDepth 100000 in
theorem few_part {a : TPart} {pl : List Value} (w : World) {ok : Nat → Prop} (hKl : Kd.part.K w ok a pl) (hsm : PartSmall a) :
    Calls Try.prog 19 #[.agg pl.toArray] w (fun e w' => ∃ b, e = .returned (.bool b) ∧ (b = true → ∀ q ∈ a.Queues, q.Values.length ≤ 20) ∧ St 0 w w' []) := by
  refine q_call (n := 137) (args := [.agg pl.toArray]) Try.func19 rfl rfl rfl ?_
  have hs0 := St.refl 0 w
  have hKl0 := hKl
  obtain ⟨Al_3, cl_3, Al_4, cl_4, Al_5, cl_5, Al_6, cl_6, Al_7, cl_7, Al_8, cl_8, Al_9, cl_9, Al_10, cl_10, Al_12, cl_12, Al_14, cl_14, rfl, hl_3, hl_4, hl_5, hl_6, hl_7, hl_8, hl_9, hl_10, hl_12, hl_14⟩ := hKl
  obtain ⟨sm3, sm4, sm5, sm6, sm7, sm8, sm9, sm10, sm12, sm14, _⟩ := hsm
  have hle3 := hl_3.len
  have hle4 := hl_4.len
  have hle5 := hl_5.len
  have hle6 := hl_6.len
  have hle7 := hl_7.len
  have hle8 := hl_8.len
  have hle9 := hl_9.len
  have hle10 := hl_10.len
  have hle12 := hl_12.len
  have hle14 := hl_14.len
  refine s_seq ?_
  refine s_region ?_
  refine l_box rfl rfl rfl hs0 ?_
  intro w1 b1 hb1 hx1 hs1
  refine l_r (r_assign rfl) rfl ?_
  refine l_nil ?_
  refine s_seq ?_
  refine s_seq ?_
  refine s_region ?_
  refine l_r (r_field rfl fo48_4) rfl ?_
  refine l_r (r_load1p rfl hs1 Repl.here ag38 rfl) rfl ?_
  refine l_r (r_len rfl el38) rfl ?_
  refine l_r (r_cmp rfl rfl rfl) rfl ?_
  refine l_r (r_move rfl) rfl ?_
  refine l_part (dj := 14) rfl (fun hc2 => ?_) (fun hc2 => ?_)
  ·
    have hc2p := of_decide_eq_true hc2
    refine l_off (dj := 14) (b := true) rfl rfl rfl rfl rfl ?_
    refine l_off (dj := 14) (b := true) rfl rfl rfl rfl rfl ?_
    refine l_off (dj := 14) (b := true) rfl rfl rfl rfl rfl ?_
    refine l_off (dj := 14) (b := true) rfl rfl rfl rfl rfl ?_
    refine l_r (r_pick_t rfl rfl) rfl ?_
    refine l_r (r_move rfl) rfl ?_
    refine l_off (dj := 20) (b := true) rfl rfl rfl rfl rfl ?_
    refine l_off (dj := 20) (b := true) rfl rfl rfl rfl rfl ?_
    refine l_off (dj := 20) (b := true) rfl rfl rfl rfl rfl ?_
    refine l_off (dj := 20) (b := true) rfl rfl rfl rfl rfl ?_
    refine l_r (r_pick_t rfl rfl) rfl ?_
    refine l_r (r_move rfl) rfl ?_
    refine l_off (dj := 26) (b := true) rfl rfl rfl rfl rfl ?_
    refine l_off (dj := 26) (b := true) rfl rfl rfl rfl rfl ?_
    refine l_off (dj := 26) (b := true) rfl rfl rfl rfl rfl ?_
    refine l_off (dj := 26) (b := true) rfl rfl rfl rfl rfl ?_
    refine l_r (r_pick_t rfl rfl) rfl ?_
    refine l_r (r_move rfl) rfl ?_
    refine l_off (dj := 32) (b := true) rfl rfl rfl rfl rfl ?_
    refine l_off (dj := 32) (b := true) rfl rfl rfl rfl rfl ?_
    refine l_off (dj := 32) (b := true) rfl rfl rfl rfl rfl ?_
    refine l_off (dj := 32) (b := true) rfl rfl rfl rfl rfl ?_
    refine l_r (r_pick_t rfl rfl) rfl ?_
    refine l_r (r_move rfl) rfl ?_
    refine l_off (dj := 38) (b := true) rfl rfl rfl rfl rfl ?_
    refine l_off (dj := 38) (b := true) rfl rfl rfl rfl rfl ?_
    refine l_off (dj := 38) (b := true) rfl rfl rfl rfl rfl ?_
    refine l_off (dj := 38) (b := true) rfl rfl rfl rfl rfl ?_
    refine l_off (dj := 38) (b := true) rfl rfl rfl rfl rfl ?_
    refine l_r (r_pick_t rfl rfl) rfl ?_
    refine l_nil ?_
    refine s_then rfl ?_
    refine s_seq ?_
    refine s_region ?_
    refine l_r (r_assign rfl) rfl ?_
    refine l_nil ?_
    refine s_ret ?_
    exact q_done (.inr rfl) (.tmp rfl .nil) ⟨false, rfl, (fun h => by cases h), hs1.nil⟩
  ·
    have hc2p := of_decide_eq_false hc2
    refine l_on (dj := 14) rfl rfl rfl ?_
    refine l_r (r_field rfl fo48_9) rfl ?_
    refine l_on (dj := 14) rfl rfl rfl ?_
    refine l_r (r_load1p rfl hs1 Repl.here ag43 rfl) rfl ?_
    refine l_on (dj := 14) rfl rfl rfl ?_
    refine l_r (r_len rfl el43) rfl ?_
    refine l_on (dj := 14) rfl rfl rfl ?_
    refine l_r (r_cmp rfl rfl rfl) rfl ?_
    refine l_r (r_pick_f rfl rfl) rfl ?_
    refine l_r (r_move rfl) rfl ?_
    refine l_part (dj := 20) rfl (fun hc3 => ?_) (fun hc3 => ?_)
    ·
      have hc3p := of_decide_eq_true hc3
      refine l_off (dj := 20) (b := true) rfl rfl rfl rfl rfl ?_
      refine l_off (dj := 20) (b := true) rfl rfl rfl rfl rfl ?_
      refine l_off (dj := 20) (b := true) rfl rfl rfl rfl rfl ?_
      refine l_off (dj := 20) (b := true) rfl rfl rfl rfl rfl ?_
      refine l_r (r_pick_t rfl rfl) rfl ?_
      refine l_r (r_move rfl) rfl ?_
      refine l_off (dj := 26) (b := true) rfl rfl rfl rfl rfl ?_
      refine l_off (dj := 26) (b := true) rfl rfl rfl rfl rfl ?_
      refine l_off (dj := 26) (b := true) rfl rfl rfl rfl rfl ?_
      refine l_off (dj := 26) (b := true) rfl rfl rfl rfl rfl ?_
      refine l_r (r_pick_t rfl rfl) rfl ?_
      refine l_r (r_move rfl) rfl ?_
      refine l_off (dj := 32) (b := true) rfl rfl rfl rfl rfl ?_
      refine l_off (dj := 32) (b := true) rfl rfl rfl rfl rfl ?_
      refine l_off (dj := 32) (b := true) rfl rfl rfl rfl rfl ?_
      refine l_off (dj := 32) (b := true) rfl rfl rfl rfl rfl ?_
      refine l_r (r_pick_t rfl rfl) rfl ?_
      refine l_r (r_move rfl) rfl ?_
      refine l_off (dj := 38) (b := true) rfl rfl rfl rfl rfl ?_
      refine l_off (dj := 38) (b := true) rfl rfl rfl rfl rfl ?_
      refine l_off (dj := 38) (b := true) rfl rfl rfl rfl rfl ?_
      refine l_off (dj := 38) (b := true) rfl rfl rfl rfl rfl ?_
      refine l_off (dj := 38) (b := true) rfl rfl rfl rfl rfl ?_
      refine l_r (r_pick_t rfl rfl) rfl ?_
      refine l_nil ?_
      refine s_then rfl ?_
      refine s_seq ?_
      refine s_region ?_
      refine l_r (r_assign rfl) rfl ?_
      refine l_nil ?_
      refine s_ret ?_
      exact q_done (.inr rfl) (.tmp rfl .nil) ⟨false, rfl, (fun h => by cases h), hs1.nil⟩
    ·
      have hc3p := of_decide_eq_false hc3
      refine l_on (dj := 20) rfl rfl rfl ?_
      refine l_r (r_field rfl fo48_10) rfl ?_
      refine l_on (dj := 20) rfl rfl rfl ?_
      refine l_r (r_load1p rfl hs1 Repl.here ag44 rfl) rfl ?_
      refine l_on (dj := 20) rfl rfl rfl ?_
      refine l_r (r_len rfl el44) rfl ?_
      refine l_on (dj := 20) rfl rfl rfl ?_
      refine l_r (r_cmp rfl rfl rfl) rfl ?_
      refine l_r (r_pick_f rfl rfl) rfl ?_
      refine l_r (r_move rfl) rfl ?_
      refine l_part (dj := 26) rfl (fun hc4 => ?_) (fun hc4 => ?_)
      ·
        have hc4p := of_decide_eq_true hc4
        refine l_off (dj := 26) (b := true) rfl rfl rfl rfl rfl ?_
        refine l_off (dj := 26) (b := true) rfl rfl rfl rfl rfl ?_
        refine l_off (dj := 26) (b := true) rfl rfl rfl rfl rfl ?_
        refine l_off (dj := 26) (b := true) rfl rfl rfl rfl rfl ?_
        refine l_r (r_pick_t rfl rfl) rfl ?_
        refine l_r (r_move rfl) rfl ?_
        refine l_off (dj := 32) (b := true) rfl rfl rfl rfl rfl ?_
        refine l_off (dj := 32) (b := true) rfl rfl rfl rfl rfl ?_
        refine l_off (dj := 32) (b := true) rfl rfl rfl rfl rfl ?_
        refine l_off (dj := 32) (b := true) rfl rfl rfl rfl rfl ?_
        refine l_r (r_pick_t rfl rfl) rfl ?_
        refine l_r (r_move rfl) rfl ?_
        refine l_off (dj := 38) (b := true) rfl rfl rfl rfl rfl ?_
        refine l_off (dj := 38) (b := true) rfl rfl rfl rfl rfl ?_
        refine l_off (dj := 38) (b := true) rfl rfl rfl rfl rfl ?_
        refine l_off (dj := 38) (b := true) rfl rfl rfl rfl rfl ?_
        refine l_off (dj := 38) (b := true) rfl rfl rfl rfl rfl ?_
        refine l_r (r_pick_t rfl rfl) rfl ?_
        refine l_nil ?_
        refine s_then rfl ?_
        refine s_seq ?_
        refine s_region ?_
        refine l_r (r_assign rfl) rfl ?_
        refine l_nil ?_
        refine s_ret ?_
        exact q_done (.inr rfl) (.tmp rfl .nil) ⟨false, rfl, (fun h => by cases h), hs1.nil⟩
      ·
        have hc4p := of_decide_eq_false hc4
        refine l_on (dj := 26) rfl rfl rfl ?_
        refine l_r (r_field rfl fo48_3) rfl ?_
        refine l_on (dj := 26) rfl rfl rfl ?_
        refine l_r (r_load1p rfl hs1 Repl.here ag22 rfl) rfl ?_
        refine l_on (dj := 26) rfl rfl rfl ?_
        refine l_r (r_len rfl el22) rfl ?_
        refine l_on (dj := 26) rfl rfl rfl ?_
        refine l_r (r_cmp rfl rfl rfl) rfl ?_
        refine l_r (r_pick_f rfl rfl) rfl ?_
        refine l_r (r_move rfl) rfl ?_
        refine l_part (dj := 32) rfl (fun hc5 => ?_) (fun hc5 => ?_)
        ·
          have hc5p := of_decide_eq_true hc5
          refine l_off (dj := 32) (b := true) rfl rfl rfl rfl rfl ?_
          refine l_off (dj := 32) (b := true) rfl rfl rfl rfl rfl ?_
          refine l_off (dj := 32) (b := true) rfl rfl rfl rfl rfl ?_
          refine l_off (dj := 32) (b := true) rfl rfl rfl rfl rfl ?_
          refine l_r (r_pick_t rfl rfl) rfl ?_
          refine l_r (r_move rfl) rfl ?_
          refine l_off (dj := 38) (b := true) rfl rfl rfl rfl rfl ?_
          refine l_off (dj := 38) (b := true) rfl rfl rfl rfl rfl ?_
          refine l_off (dj := 38) (b := true) rfl rfl rfl rfl rfl ?_
          refine l_off (dj := 38) (b := true) rfl rfl rfl rfl rfl ?_
          refine l_off (dj := 38) (b := true) rfl rfl rfl rfl rfl ?_
          refine l_r (r_pick_t rfl rfl) rfl ?_
          refine l_nil ?_
          refine s_then rfl ?_
          refine s_seq ?_
          refine s_region ?_
          refine l_r (r_assign rfl) rfl ?_
          refine l_nil ?_
          refine s_ret ?_
          exact q_done (.inr rfl) (.tmp rfl .nil) ⟨false, rfl, (fun h => by cases h), hs1.nil⟩
        ·
          have hc5p := of_decide_eq_false hc5
          refine l_on (dj := 32) rfl rfl rfl ?_
          refine l_r (r_field rfl fo48_12) rfl ?_
          refine l_on (dj := 32) rfl rfl rfl ?_
          refine l_r (r_load1p rfl hs1 Repl.here ag22 rfl) rfl ?_
          refine l_on (dj := 32) rfl rfl rfl ?_
          refine l_r (r_len rfl el22) rfl ?_
          refine l_on (dj := 32) rfl rfl rfl ?_
          refine l_r (r_cmp rfl rfl rfl) rfl ?_
          refine l_r (r_pick_f rfl rfl) rfl ?_
          refine l_r (r_move rfl) rfl ?_
          refine l_part (dj := 38) rfl (fun hc6 => ?_) (fun hc6 => ?_)
          ·
            have hc6p := of_decide_eq_true hc6
            refine l_off (dj := 38) (b := true) rfl rfl rfl rfl rfl ?_
            refine l_off (dj := 38) (b := true) rfl rfl rfl rfl rfl ?_
            refine l_off (dj := 38) (b := true) rfl rfl rfl rfl rfl ?_
            refine l_off (dj := 38) (b := true) rfl rfl rfl rfl rfl ?_
            refine l_off (dj := 38) (b := true) rfl rfl rfl rfl rfl ?_
            refine l_r (r_pick_t rfl rfl) rfl ?_
            refine l_nil ?_
            refine s_then rfl ?_
            refine s_seq ?_
            refine s_region ?_
            refine l_r (r_assign rfl) rfl ?_
            refine l_nil ?_
            refine s_ret ?_
            exact q_done (.inr rfl) (.tmp rfl .nil) ⟨false, rfl, (fun h => by cases h), hs1.nil⟩
          ·
            have hc6p := of_decide_eq_false hc6
            refine l_on (dj := 38) rfl rfl rfl ?_
            refine l_r (r_field rfl fo48_11) rfl ?_
            refine l_on (dj := 38) rfl rfl rfl ?_
            refine l_r (r_field rfl fo46_1) rfl ?_
            refine l_on (dj := 38) rfl rfl rfl ?_
            refine l_r (r_load1p rfl hs1 Repl.here ag22 rfl) rfl ?_
            refine l_on (dj := 38) rfl rfl rfl ?_
            refine l_r (r_len rfl el22) rfl ?_
            refine l_on (dj := 38) rfl rfl rfl ?_
            refine l_r (r_cmp rfl rfl rfl) rfl ?_
            refine l_r (r_pick_f rfl rfl) rfl ?_
            refine l_nil ?_
            refine s_part (dj := 44) rfl (fun hc7 => ?_) (fun hc7 => ?_)
            ·
              have hc7p := of_decide_eq_true hc7
              refine s_then rfl ?_
              refine s_seq ?_
              refine s_region ?_
              refine l_r (r_assign rfl) rfl ?_
              refine l_nil ?_
              refine s_ret ?_
              exact q_done (.inr rfl) (.tmp rfl .nil) ⟨false, rfl, (fun h => by cases h), hs1.nil⟩
            ·
              have hc7p := of_decide_eq_false hc7
              refine s_else rfl ?_
              refine s_skip ?_
              refine s_seq ?_
              refine s_region ?_
              refine l_r (r_assign rfl) rfl ?_
              refine l_nil ?_
              refine s_seq ?_
              refine s_seq ?_
              refine s_region ?_
              refine l_r (r_assign rfl) rfl ?_
              refine l_nil ?_
              refine s_block ?_
              have hs0r := hs1.nil_row 0 89 1
              refine s_loop (fun m L wl => ∃ (k : Nat) (v : Value) (cs : List Value) (ns : List Nat), L = [(4, .int .i64 ((k : Nat) : Int)), (3, v), (1, .pointer (some ⟨b1, 0, none⟩)), (2, .bool false)] ∧ m = a.Boards.length - k ∧ k ≤ a.Boards.length ∧ ns.length = 0 + k ∧ Reps Kd.hdr w (fun _ => True) ns cs ∧ St 0 w wl [.row 0 89 1 (v) (0 + k) (cs), .pt b1 [.int .i64 a.Mode, .int .i64 a.Begun, .int .i64 a.Next, .slice Al_3 a.Memory.length cl_3, .slice Al_4 a.Procs.length cl_4, .slice Al_5 a.Boards.length cl_5, .slice Al_6 a.Buffers.length cl_6, .slice Al_7 a.Semas.length cl_7, .slice Al_8 a.Events.length cl_8, .slice Al_9 a.Samples.length cl_9, .slice Al_10 a.Queues.length cl_10, .int .i64 a.Latch.Depth, .slice Al_12 a.Latch.Lines.length cl_12, .int .i64 a.Latch.Dropped, .slice Al_14 a.Given.length cl_14] 48]) _ [(4, .int .i64 ((0 : Nat) : Int)), (3, .slice none 0 0), (1, .pointer (some ⟨b1, 0, none⟩)), (2, .bool false)] (.cons rfl (.cons rfl (.cons rfl (.cons rfl .nil)))) ⟨0, .slice none 0 0, [], [], rfl, rfl, Nat.zero_le _, rfl, Reps.nil _ _ _, hs0r⟩ ?_
              rintro _ _ w8 ⟨k, v, cs, ns, rfl, rfl, hkk, hnl, hR, hs8⟩
              refine s_seq ?_
              refine s_seq ?_
              refine s_region ?_
              refine l_r (r_move rfl) rfl ?_
              refine l_r (r_field rfl fo48_5) rfl ?_
              refine l_r (r_load1p rfl hs8 (Repl.there Repl.here) ag39 rfl) rfl ?_
              refine l_r (r_len rfl el39) rfl ?_
              refine l_r (r_cmp rfl rfl rfl) rfl ?_
              refine l_nil ?_
              refine s_part (dj := 49) rfl (fun hc9 => ?_) (fun hc9 => ?_)
              ·
                have hc9p := of_decide_eq_true hc9
                refine s_then rfl ?_
                refine s_skip ?_
                refine s_seq ?_
                refine s_block ?_
                refine s_region ?_
                refine l_r (r_move rfl) rfl ?_
                refine l_r (r_field rfl fo48_5) rfl ?_
                refine l_r (r_load1p rfl hs8 (Repl.there Repl.here) ag39 rfl) rfl ?_
                refine l_r (r_move rfl) rfl ?_
                obtain ⟨e10x, e10h, e10b, e10o, e10cs, e10A, _, e10K, e10c⟩ := hl_5.get_ (i := k) (by omega)
                have e10K0 := e10K
                obtain ⟨Ae10_2, ce10_2, rfl, he10_2⟩ := e10K
                refine l_r (r_indexA rfl e10A rfl (by omega) (by omega) el39) rfl ?_
                refine l_r (r_field rfl fo91_2) rfl ?_
                refine l_r (r_load1 rfl ag89 ((e10c.on hs8).get (j := 2) rfl)) rfl ?_
                refine l_bsN (m := 1) Try.underlying88 sz89 (by rw [zz89]; rfl) rfl rfl (by
                    intro v hv
                    simp only [List.mem_cons, List.not_mem_nil, or_false] at hv
                    subst hv
                    rfl) rfl (by decide) rfl hs8 ?_
                intro w11 b59 hb59 hx11 hs11
                refine l_appendP (news := [.slice Ae10_2 e10x.L.length ce10_2]) (base := 0) Try.underlying88 rw89 rfl rfl rfl rfl hs11 Repl.here rfl (one_all rfl) (by omega) rfl (Nat.zero_le _) (Nat.zero_le _) (fun v' => (Repl.there Repl.here)) rfl ?_
                intro v12 w12 hz12 hk12 hs12
                refine l_r (r_assign rfl) rfl ?_
                refine l_nil ?_
                refine s_mark ?_
                refine s_region ?_
                refine l_r (r_move rfl) rfl ?_
                refine l_r (r_inc rfl (by omega)) rfl ?_
                refine l_r (r_assign rfl) rfl ?_
                refine l_nil ?_
                refine s_again ?_
                exact ⟨_, [(4, .int .i64 (((k + 1) : Nat) : Int)), (3, v12), (1, .pointer (some ⟨b1, 0, none⟩)), (2, .bool false)], by omega, (.cons rfl (.cons rfl (.cons rfl (.cons rfl .nil)))), ⟨(k + 1), v12, (cs ++ [.slice Ae10_2 e10x.L.length ce10_2]), (ns ++ [e10x.L.length]), rfl, rfl, by omega, by rw [List.length_append, hnl]; rfl, hR.snoc (x := e10x.L.length) ⟨Ae10_2, ce10_2, rfl⟩, hs12.tail⟩⟩
              ·
                have hc9p := of_decide_eq_false hc9
                refine s_else rfl ?_
                refine s_exit rfl ?_
                refine s_seq ?_
                refine s_seq ?_
                obtain rfl : k = a.Boards.length := by omega
                refine s_region ?_
                refine l_r (r_assign rfl) rfl ?_
                refine l_nil ?_
                refine s_block ?_
                refine s_loop (fun m L wl => ∃ (k : Nat) (v : Value) (cs : List Value) (ns : List Nat), L = [(5, .int .i64 ((k : Nat) : Int)), (3, v), (1, .pointer (some ⟨b1, 0, none⟩))] ∧ m = a.Buffers.length - k ∧ k ≤ a.Buffers.length ∧ ns.length = 0 + a.Boards.length + k ∧ Reps Kd.hdr w (fun _ => True) ns cs ∧ St 0 w wl [.row 0 89 1 (v) (0 + a.Boards.length + k) (cs), .pt b1 [.int .i64 a.Mode, .int .i64 a.Begun, .int .i64 a.Next, .slice Al_3 a.Memory.length cl_3, .slice Al_4 a.Procs.length cl_4, .slice Al_5 a.Boards.length cl_5, .slice Al_6 a.Buffers.length cl_6, .slice Al_7 a.Semas.length cl_7, .slice Al_8 a.Events.length cl_8, .slice Al_9 a.Samples.length cl_9, .slice Al_10 a.Queues.length cl_10, .int .i64 a.Latch.Depth, .slice Al_12 a.Latch.Lines.length cl_12, .int .i64 a.Latch.Dropped, .slice Al_14 a.Given.length cl_14] 48]) _ [(5, .int .i64 ((0 : Nat) : Int)), (3, v), (1, .pointer (some ⟨b1, 0, none⟩))] (.cons rfl (.cons rfl (.cons rfl .nil))) ⟨0, v, cs, ns, rfl, rfl, Nat.zero_le _, hnl, hR, hs8⟩ ?_
                rintro _ _ w13 ⟨k, v, cs, ns, rfl, rfl, hkk, hnl, hR, hs13⟩
                refine s_seq ?_
                refine s_seq ?_
                refine s_region ?_
                refine l_r (r_move rfl) rfl ?_
                refine l_r (r_field rfl fo48_6) rfl ?_
                refine l_r (r_load1p rfl hs13 (Repl.there Repl.here) ag40 rfl) rfl ?_
                refine l_r (r_len rfl el40) rfl ?_
                refine l_r (r_cmp rfl rfl rfl) rfl ?_
                refine l_nil ?_
                refine s_part (dj := 65) rfl (fun hc14 => ?_) (fun hc14 => ?_)
                ·
                  have hc14p := of_decide_eq_true hc14
                  refine s_then rfl ?_
                  refine s_skip ?_
                  refine s_seq ?_
                  refine s_block ?_
                  refine s_seq ?_
                  refine s_region ?_
                  refine l_r (r_move rfl) rfl ?_
                  refine l_r (r_field rfl fo48_6) rfl ?_
                  refine l_r (r_load1p rfl hs13 (Repl.there Repl.here) ag40 rfl) rfl ?_
                  refine l_r (r_move rfl) rfl ?_
                  obtain ⟨e15x, e15h, e15b, e15o, e15cs, e15A, _, e15K, e15c⟩ := hl_6.get_ (i := k) (by omega)
                  have e15K0 := e15K
                  obtain ⟨Ae15_2, ce15_2, Ae15_3, ce15_3, rfl, he15_2, he15_3⟩ := e15K
                  refine l_r (r_indexA rfl e15A rfl (by omega) (by omega) el40) rfl ?_
                  refine l_r (r_field rfl fo93_3) rfl ?_
                  refine l_r (r_load1 rfl ag89 ((e15c.on hs13).get (j := 3) rfl)) rfl ?_
                  refine l_bsN (m := 1) Try.underlying88 sz89 (by rw [zz89]; rfl) rfl rfl (by
                      intro v hv
                      simp only [List.mem_cons, List.not_mem_nil, or_false] at hv
                      subst hv
                      rfl) rfl (by decide) rfl hs13 ?_
                  intro w16 b75 hb75 hx16 hs16
                  refine l_appendP (news := [.slice Ae15_3 e15x.L.length ce15_3]) (base := 0) Try.underlying88 rw89 rfl rfl rfl rfl hs16 Repl.here rfl (one_all rfl) (by omega) rfl (Nat.zero_le _) (Nat.zero_le _) (fun v' => (Repl.there Repl.here)) rfl ?_
                  intro v17 w17 hz17 hk17 hs17
                  refine l_r (r_assign rfl) rfl ?_
                  refine l_nil ?_
                  refine s_seq ?_
                  refine s_region ?_
                  refine l_r (r_field rfl fo48_6) rfl ?_
                  refine l_r (r_load1p rfl hs17 (Repl.there (Repl.there Repl.here)) ag40 rfl) rfl ?_
                  refine l_r (r_move rfl) rfl ?_
                  refine l_r (r_indexA rfl e15A rfl (by omega) (by omega) el40) rfl ?_
                  refine l_r (r_field rfl fo93_2) rfl ?_
                  refine l_r (r_load1 rfl ag22 ((e15c.on hs17).get (j := 2) rfl)) rfl ?_
                  refine l_r (r_len rfl el22) rfl ?_
                  refine l_r (r_cmp rfl rfl rfl) rfl ?_
                  refine l_nil ?_
                  refine s_part (dj := 84) rfl (fun hc18 => ?_) (fun hc18 => ?_)
                  ·
                    have hc18p := of_decide_eq_true hc18
                    refine s_then rfl ?_
                    refine s_seq ?_
                    refine s_region ?_
                    refine l_r (r_assign rfl) rfl ?_
                    refine l_nil ?_
                    refine s_ret ?_
                    exact q_done (.inr rfl) (.tmp rfl .nil) ⟨false, rfl, (fun h => by cases h), hs17.nil⟩
                  ·
                    have hc18p := of_decide_eq_false hc18
                    refine s_else rfl ?_
                    refine s_skip ?_
                    refine s_mark ?_
                    refine s_region ?_
                    refine l_r (r_move rfl) rfl ?_
                    refine l_r (r_inc rfl (by omega)) rfl ?_
                    refine l_r (r_assign rfl) rfl ?_
                    refine l_nil ?_
                    refine s_again ?_
                    exact ⟨_, [(5, .int .i64 (((k + 1) : Nat) : Int)), (3, v17), (1, .pointer (some ⟨b1, 0, none⟩))], by omega, (.cons rfl (.cons rfl (.cons rfl .nil))), ⟨(k + 1), v17, (cs ++ [.slice Ae15_3 e15x.L.length ce15_3]), (ns ++ [e15x.L.length]), rfl, rfl, by omega, by rw [List.length_append, hnl]; rfl, hR.snoc (x := e15x.L.length) ⟨Ae15_3, ce15_3, rfl⟩, hs17.tail⟩⟩
                ·
                  have hc14p := of_decide_eq_false hc14
                  refine s_else rfl ?_
                  refine s_exit rfl ?_
                  refine s_seq ?_
                  refine s_seq ?_
                  obtain rfl : k = a.Buffers.length := by omega
                  refine s_region ?_
                  refine l_r (r_assign rfl) rfl ?_
                  refine l_nil ?_
                  refine s_block ?_
                  refine s_loop (fun m L wl => ∃ (k : Nat) (v : Value) (cs : List Value) (ns : List Nat), L = [(6, .int .i64 ((k : Nat) : Int)), (3, v), (1, .pointer (some ⟨b1, 0, none⟩))] ∧ m = a.Semas.length - k ∧ k ≤ a.Semas.length ∧ ns.length = 0 + a.Boards.length + a.Buffers.length + k ∧ Reps Kd.hdr w (fun _ => True) ns cs ∧ St 0 w wl [.row 0 89 1 (v) (0 + a.Boards.length + a.Buffers.length + k) (cs), .pt b1 [.int .i64 a.Mode, .int .i64 a.Begun, .int .i64 a.Next, .slice Al_3 a.Memory.length cl_3, .slice Al_4 a.Procs.length cl_4, .slice Al_5 a.Boards.length cl_5, .slice Al_6 a.Buffers.length cl_6, .slice Al_7 a.Semas.length cl_7, .slice Al_8 a.Events.length cl_8, .slice Al_9 a.Samples.length cl_9, .slice Al_10 a.Queues.length cl_10, .int .i64 a.Latch.Depth, .slice Al_12 a.Latch.Lines.length cl_12, .int .i64 a.Latch.Dropped, .slice Al_14 a.Given.length cl_14] 48]) _ [(6, .int .i64 ((0 : Nat) : Int)), (3, v), (1, .pointer (some ⟨b1, 0, none⟩))] (.cons rfl (.cons rfl (.cons rfl .nil))) ⟨0, v, cs, ns, rfl, rfl, Nat.zero_le _, hnl, hR, hs13⟩ ?_
                  rintro _ _ w19 ⟨k, v, cs, ns, rfl, rfl, hkk, hnl, hR, hs19⟩
                  refine s_seq ?_
                  refine s_seq ?_
                  refine s_region ?_
                  refine l_r (r_move rfl) rfl ?_
                  refine l_r (r_field rfl fo48_7) rfl ?_
                  refine l_r (r_load1p rfl hs19 (Repl.there Repl.here) ag41 rfl) rfl ?_
                  refine l_r (r_len rfl el41) rfl ?_
                  refine l_r (r_cmp rfl rfl rfl) rfl ?_
                  refine l_nil ?_
                  refine s_part (dj := 89) rfl (fun hc20 => ?_) (fun hc20 => ?_)
                  ·
                    have hc20p := of_decide_eq_true hc20
                    refine s_then rfl ?_
                    refine s_skip ?_
                    refine s_seq ?_
                    refine s_block ?_
                    refine s_region ?_
                    refine l_r (r_move rfl) rfl ?_
                    refine l_r (r_field rfl fo48_7) rfl ?_
                    refine l_r (r_load1p rfl hs19 (Repl.there Repl.here) ag41 rfl) rfl ?_
                    refine l_r (r_move rfl) rfl ?_
                    obtain ⟨e21x, e21h, e21b, e21o, e21cs, e21A, _, e21K, e21c⟩ := hl_7.get_ (i := k) (by omega)
                    have e21K0 := e21K
                    obtain ⟨Ae21_3, ce21_3, rfl, he21_3⟩ := e21K
                    refine l_r (r_indexA rfl e21A rfl (by omega) (by omega) el41) rfl ?_
                    refine l_r (r_field rfl fo95_3) rfl ?_
                    refine l_r (r_load1 rfl ag89 ((e21c.on hs19).get (j := 3) rfl)) rfl ?_
                    refine l_bsN (m := 1) Try.underlying88 sz89 (by rw [zz89]; rfl) rfl rfl (by
                        intro v hv
                        simp only [List.mem_cons, List.not_mem_nil, or_false] at hv
                        subst hv
                        rfl) rfl (by decide) rfl hs19 ?_
                    intro w22 b99 hb99 hx22 hs22
                    refine l_appendP (news := [.slice Ae21_3 e21x.L.length ce21_3]) (base := 0) Try.underlying88 rw89 rfl rfl rfl rfl hs22 Repl.here rfl (one_all rfl) (by omega) rfl (Nat.zero_le _) (Nat.zero_le _) (fun v' => (Repl.there Repl.here)) rfl ?_
                    intro v23 w23 hz23 hk23 hs23
                    refine l_r (r_assign rfl) rfl ?_
                    refine l_nil ?_
                    refine s_mark ?_
                    refine s_region ?_
                    refine l_r (r_move rfl) rfl ?_
                    refine l_r (r_inc rfl (by omega)) rfl ?_
                    refine l_r (r_assign rfl) rfl ?_
                    refine l_nil ?_
                    refine s_again ?_
                    exact ⟨_, [(6, .int .i64 (((k + 1) : Nat) : Int)), (3, v23), (1, .pointer (some ⟨b1, 0, none⟩))], by omega, (.cons rfl (.cons rfl (.cons rfl .nil))), ⟨(k + 1), v23, (cs ++ [.slice Ae21_3 e21x.L.length ce21_3]), (ns ++ [e21x.L.length]), rfl, rfl, by omega, by rw [List.length_append, hnl]; rfl, hR.snoc (x := e21x.L.length) ⟨Ae21_3, ce21_3, rfl⟩, hs23.tail⟩⟩
                  ·
                    have hc20p := of_decide_eq_false hc20
                    refine s_else rfl ?_
                    refine s_exit rfl ?_
                    refine s_seq ?_
                    refine s_seq ?_
                    obtain rfl : k = a.Semas.length := by omega
                    refine s_region ?_
                    refine l_r (r_assign rfl) rfl ?_
                    refine l_nil ?_
                    refine s_block ?_
                    refine s_loop (fun m L wl => ∃ (k : Nat) (v : Value) (cs : List Value) (ns : List Nat), L = [(7, .int .i64 ((k : Nat) : Int)), (3, v), (1, .pointer (some ⟨b1, 0, none⟩))] ∧ m = a.Events.length - k ∧ k ≤ a.Events.length ∧ ns.length = 0 + a.Boards.length + a.Buffers.length + a.Semas.length + k ∧ Reps Kd.hdr w (fun _ => True) ns cs ∧ St 0 w wl [.row 0 89 1 (v) (0 + a.Boards.length + a.Buffers.length + a.Semas.length + k) (cs), .pt b1 [.int .i64 a.Mode, .int .i64 a.Begun, .int .i64 a.Next, .slice Al_3 a.Memory.length cl_3, .slice Al_4 a.Procs.length cl_4, .slice Al_5 a.Boards.length cl_5, .slice Al_6 a.Buffers.length cl_6, .slice Al_7 a.Semas.length cl_7, .slice Al_8 a.Events.length cl_8, .slice Al_9 a.Samples.length cl_9, .slice Al_10 a.Queues.length cl_10, .int .i64 a.Latch.Depth, .slice Al_12 a.Latch.Lines.length cl_12, .int .i64 a.Latch.Dropped, .slice Al_14 a.Given.length cl_14] 48]) _ [(7, .int .i64 ((0 : Nat) : Int)), (3, v), (1, .pointer (some ⟨b1, 0, none⟩))] (.cons rfl (.cons rfl (.cons rfl .nil))) ⟨0, v, cs, ns, rfl, rfl, Nat.zero_le _, hnl, hR, hs19⟩ ?_
                    rintro _ _ w24 ⟨k, v, cs, ns, rfl, rfl, hkk, hnl, hR, hs24⟩
                    refine s_seq ?_
                    refine s_seq ?_
                    refine s_region ?_
                    refine l_r (r_move rfl) rfl ?_
                    refine l_r (r_field rfl fo48_8) rfl ?_
                    refine l_r (r_load1p rfl hs24 (Repl.there Repl.here) ag42 rfl) rfl ?_
                    refine l_r (r_len rfl el42) rfl ?_
                    refine l_r (r_cmp rfl rfl rfl) rfl ?_
                    refine l_nil ?_
                    refine s_part (dj := 105) rfl (fun hc25 => ?_) (fun hc25 => ?_)
                    ·
                      have hc25p := of_decide_eq_true hc25
                      refine s_then rfl ?_
                      refine s_skip ?_
                      refine s_seq ?_
                      refine s_block ?_
                      refine s_region ?_
                      refine l_r (r_move rfl) rfl ?_
                      refine l_r (r_field rfl fo48_8) rfl ?_
                      refine l_r (r_load1p rfl hs24 (Repl.there Repl.here) ag42 rfl) rfl ?_
                      refine l_r (r_move rfl) rfl ?_
                      obtain ⟨e26x, e26h, e26b, e26o, e26cs, e26A, _, e26K, e26c⟩ := hl_8.get_ (i := k) (by omega)
                      have e26K0 := e26K
                      obtain ⟨Ae26_1, ce26_1, rfl, he26_1⟩ := e26K
                      refine l_r (r_indexA rfl e26A rfl (by omega) (by omega) el42) rfl ?_
                      refine l_r (r_field rfl fo97_1) rfl ?_
                      refine l_r (r_load1 rfl ag89 ((e26c.on hs24).get (j := 1) rfl)) rfl ?_
                      refine l_bsN (m := 1) Try.underlying88 sz89 (by rw [zz89]; rfl) rfl rfl (by
                          intro v hv
                          simp only [List.mem_cons, List.not_mem_nil, or_false] at hv
                          subst hv
                          rfl) rfl (by decide) rfl hs24 ?_
                      intro w27 b115 hb115 hx27 hs27
                      refine l_appendP (news := [.slice Ae26_1 e26x.L.length ce26_1]) (base := 0) Try.underlying88 rw89 rfl rfl rfl rfl hs27 Repl.here rfl (one_all rfl) (by omega) rfl (Nat.zero_le _) (Nat.zero_le _) (fun v' => (Repl.there Repl.here)) rfl ?_
                      intro v28 w28 hz28 hk28 hs28
                      refine l_r (r_assign rfl) rfl ?_
                      refine l_nil ?_
                      refine s_mark ?_
                      refine s_region ?_
                      refine l_r (r_move rfl) rfl ?_
                      refine l_r (r_inc rfl (by omega)) rfl ?_
                      refine l_r (r_assign rfl) rfl ?_
                      refine l_nil ?_
                      refine s_again ?_
                      exact ⟨_, [(7, .int .i64 (((k + 1) : Nat) : Int)), (3, v28), (1, .pointer (some ⟨b1, 0, none⟩))], by omega, (.cons rfl (.cons rfl (.cons rfl .nil))), ⟨(k + 1), v28, (cs ++ [.slice Ae26_1 e26x.L.length ce26_1]), (ns ++ [e26x.L.length]), rfl, rfl, by omega, by rw [List.length_append, hnl]; rfl, hR.snoc (x := e26x.L.length) ⟨Ae26_1, ce26_1, rfl⟩, hs28.tail⟩⟩
                    ·
                      have hc25p := of_decide_eq_false hc25
                      refine s_else rfl ?_
                      refine s_exit rfl ?_
                      refine s_seq ?_
                      refine s_seq ?_
                      obtain rfl : k = a.Events.length := by omega
                      refine s_region ?_
                      refine l_r (r_assign rfl) rfl ?_
                      refine l_nil ?_
                      refine s_block ?_
                      refine s_loop (fun m L wl => ∃ (k9 : Nat), L = [(8, .int .i64 ((k9 : Nat) : Int)), (1, .pointer (some ⟨b1, 0, none⟩)), (3, v)] ∧ m = a.Queues.length - k9 ∧ k9 ≤ a.Queues.length ∧ (∀ j x, j < k9 → a.Queues[j]? = some x → x.Values.length ≤ 20) ∧ St 0 w wl [.row 0 89 1 v (0 + a.Boards.length + a.Buffers.length + a.Semas.length + a.Events.length) (cs), .pt b1 [.int .i64 a.Mode, .int .i64 a.Begun, .int .i64 a.Next, .slice Al_3 a.Memory.length cl_3, .slice Al_4 a.Procs.length cl_4, .slice Al_5 a.Boards.length cl_5, .slice Al_6 a.Buffers.length cl_6, .slice Al_7 a.Semas.length cl_7, .slice Al_8 a.Events.length cl_8, .slice Al_9 a.Samples.length cl_9, .slice Al_10 a.Queues.length cl_10, .int .i64 a.Latch.Depth, .slice Al_12 a.Latch.Lines.length cl_12, .int .i64 a.Latch.Dropped, .slice Al_14 a.Given.length cl_14] 48]) _ [(8, .int .i64 ((0 : Nat) : Int)), (1, .pointer (some ⟨b1, 0, none⟩)), (3, v)] (.cons rfl (.cons rfl (.cons rfl .nil))) ⟨0, rfl, rfl, Nat.zero_le _, fun j x hj => by omega, hs24⟩ ?_
                      rintro _ _ w29 ⟨k9, rfl, rfl, hkk9, hq, hs29⟩
                      refine s_seq ?_
                      refine s_seq ?_
                      refine s_region ?_
                      refine l_r (r_move rfl) rfl ?_
                      refine l_r (r_field rfl fo48_10) rfl ?_
                      refine l_r (r_load1p rfl hs29 (Repl.there Repl.here) ag44 rfl) rfl ?_
                      refine l_r (r_len rfl el44) rfl ?_
                      refine l_r (r_cmp rfl rfl rfl) rfl ?_
                      refine l_nil ?_
                      refine s_part (dj := 121) rfl (fun hc30 => ?_) (fun hc30 => ?_)
                      ·
                        have hc30p := of_decide_eq_true hc30
                        refine s_then rfl ?_
                        refine s_skip ?_
                        refine s_seq ?_
                        refine s_block ?_
                        refine s_seq ?_
                        refine s_region ?_
                        refine l_r (r_field rfl fo48_10) rfl ?_
                        refine l_r (r_load1p rfl hs29 (Repl.there Repl.here) ag44 rfl) rfl ?_
                        refine l_r (r_move rfl) rfl ?_
                        obtain ⟨e31x, e31h, e31b, e31o, e31cs, e31A, _, e31K, e31c⟩ := hl_10.get_ (i := k9) (by omega)
                        have e31K0 := e31K
                        obtain ⟨Ae31_1, ce31_1, rfl, he31_1⟩ := e31K
                        refine l_r (r_indexA rfl e31A rfl (by omega) (by omega) el44) rfl ?_
                        refine l_r (r_field rfl fo52_1) rfl ?_
                        refine l_r (r_load1 rfl ag22 ((e31c.on hs29).get (j := 1) rfl)) rfl ?_
                        refine l_r (r_len rfl el22) rfl ?_
                        refine l_r (r_cmp rfl rfl rfl) rfl ?_
                        refine l_nil ?_
                        refine s_part (dj := 131) rfl (fun hc32 => ?_) (fun hc32 => ?_)
                        ·
                          have hc32p := of_decide_eq_true hc32
                          refine s_then rfl ?_
                          refine s_seq ?_
                          refine s_region ?_
                          refine l_r (r_assign rfl) rfl ?_
                          refine l_nil ?_
                          refine s_ret ?_
                          exact q_done (.inr rfl) (.tmp rfl .nil) ⟨false, rfl, (fun h => by cases h), hs29.nil⟩
                        ·
                          have hc32p := of_decide_eq_false hc32
                          refine s_else rfl ?_
                          refine s_skip ?_
                          refine s_mark ?_
                          refine s_region ?_
                          refine l_r (r_move rfl) rfl ?_
                          refine l_r (r_inc rfl (by omega)) rfl ?_
                          refine l_r (r_assign rfl) rfl ?_
                          refine l_nil ?_
                          refine s_again ?_
                          exact ⟨_, [(8, .int .i64 (((k9 + 1) : Nat) : Int)), (1, .pointer (some ⟨b1, 0, none⟩)), (3, v)], by omega, (.cons rfl (.cons rfl (.cons rfl .nil))), ⟨(k9 + 1), rfl, rfl, by omega, fun j x hj hx => by
                                by_cases e : j = k9
                                · subst e; rw [e31h] at hx; injection hx with hx; subst hx; omega
                                · exact hq j x (by omega) hx, hs29⟩⟩
                      ·
                        have hc30p := of_decide_eq_false hc30
                        refine s_else rfl ?_
                        refine s_exit rfl ?_
                        refine s_seq ?_
                        have hrow := hs29.get (r := .row 0 89 1 v _ cs) List.mem_cons_self
                        obtain ⟨Av, cv, rfl, _⟩ := row_slice hrow
                        refine s_region ?_
                        refine l_r (r_move rfl) rfl ?_
                        refine l_r (r_len rfl el88) rfl ?_
                        refine l_r (r_move rfl) rfl ?_
                        have hcw := few_waits w29 (n := ((0 + a.Boards.length + a.Buffers.length + a.Semas.length + a.Events.length : Nat) : Int)) (row_sl (F := fun _ => True) (xs := ns) hrow hR (fun _ _ => trivial) (fun _ _ h => h) hnl.symm)
                        rw [hnl] at hcw
                        refine l_call rfl rfl fk39 rfl hcw ?_
                        rintro _ w33 ⟨b, rfl, hc33⟩
                        have hs33 := hs29.call0 hc33
                        refine ⟨_, rfl, ?_⟩
                        refine l_r (r_assign rfl) rfl ?_
                        refine l_nil ?_
                        refine s_seq ?_
                        refine s_region ?_
                        refine l_r (r_move rfl) rfl ?_
                        refine l_r (r_assign rfl) rfl ?_
                        refine l_nil ?_
                        refine s_ret ?_
                        exact q_done (.inr rfl) (.tmp rfl .nil) ⟨b, rfl, fun _ q hq0 => by
                            obtain ⟨j, hj⟩ := List.mem_iff_getElem?.1 hq0
                            exact hq j q (by have := (List.getElem?_eq_some_iff.1 hj).1; omega) hj, hs33.nil⟩

def FewP (p : TPartConf) : Prop := p.Regions.length ≤ 20 ∧ p.Procs.length ≤ 20 ∧ p.Buffers.length ≤ 20 ∧ p.Semas.length ≤ 20 ∧ p.Samples.length ≤ 20 ∧ p.Queues.length ≤ 20 ∧ p.Table.length ≤ 20
def FewC (c : TConfig) : Prop := c.Lines.length ≤ 20 ∧ c.Parts.length ≤ 20 ∧ c.Windows.length ≤ 20 ∧ c.Channels.length ≤ 20 ∧ ∀ p ∈ c.Parts, FewP p

set_option maxRecDepth 100000 in
theorem few_config {cf : TConfig} {pl : List Value} (w : World) {ok : Nat → Prop} (hKl : Kd.config.K w ok cf pl) :
    Calls Try.prog 18 #[.agg pl.toArray] w (fun e w' => ∃ b, e = .returned (.bool b) ∧ (b = true → FewC cf) ∧ St 0 w w' []) := by
  refine q_call (n := 79) (args := [.agg pl.toArray]) Try.func18 rfl rfl rfl ?_
  have hs0 := St.refl 0 w
  have hKl0 := hKl
  obtain ⟨Al_2, cl_2, Al_3, cl_3, Al_4, cl_4, Al_5, cl_5, rfl, hl_2, hl_3, hl_4, hl_5⟩ := hKl
  have hle2 := hl_2.len
  have hle3 := hl_3.len
  have hle4 := hl_4.len
  have hle5 := hl_5.len
  refine s_seq ?_
  refine s_region ?_
  refine l_box rfl rfl rfl hs0 ?_
  intro w1 b1 hb1 hx1 hs1
  refine l_r (r_assign rfl) rfl ?_
  refine l_nil ?_
  refine s_seq ?_
  refine s_seq ?_
  refine s_region ?_
  refine l_r (r_field rfl fo27_2) rfl ?_
  refine l_r (r_load1p rfl hs1 Repl.here ag22 rfl) rfl ?_
  refine l_r (r_len rfl el22) rfl ?_
  refine l_r (r_cmp rfl rfl rfl) rfl ?_
  refine l_r (r_move rfl) rfl ?_
  refine l_part (dj := 9) rfl (fun hc2 => ?_) (fun hc2 => ?_)
  ·
    have hc2p := of_decide_eq_true hc2
    refine l_off (dj := 9) (b := true) rfl rfl rfl rfl rfl ?_
    refine l_off (dj := 9) (b := true) rfl rfl rfl rfl rfl ?_
    refine l_off (dj := 9) (b := true) rfl rfl rfl rfl rfl ?_
    refine l_off (dj := 9) (b := true) rfl rfl rfl rfl rfl ?_
    refine l_r (r_pick_t rfl rfl) rfl ?_
    refine l_r (r_move rfl) rfl ?_
    refine l_off (dj := 15) (b := true) rfl rfl rfl rfl rfl ?_
    refine l_off (dj := 15) (b := true) rfl rfl rfl rfl rfl ?_
    refine l_off (dj := 15) (b := true) rfl rfl rfl rfl rfl ?_
    refine l_off (dj := 15) (b := true) rfl rfl rfl rfl rfl ?_
    refine l_r (r_pick_t rfl rfl) rfl ?_
    refine l_r (r_move rfl) rfl ?_
    refine l_off (dj := 21) (b := true) rfl rfl rfl rfl rfl ?_
    refine l_off (dj := 21) (b := true) rfl rfl rfl rfl rfl ?_
    refine l_off (dj := 21) (b := true) rfl rfl rfl rfl rfl ?_
    refine l_off (dj := 21) (b := true) rfl rfl rfl rfl rfl ?_
    refine l_r (r_pick_t rfl rfl) rfl ?_
    refine l_nil ?_
    refine s_then rfl ?_
    refine s_seq ?_
    refine s_region ?_
    refine l_r (r_assign rfl) rfl ?_
    refine l_nil ?_
    refine s_ret ?_
    exact q_done (.inr rfl) (.tmp rfl .nil) ⟨false, rfl, (fun h => by cases h), hs1.nil⟩
  ·
    have hc2p := of_decide_eq_false hc2
    refine l_on (dj := 9) rfl rfl rfl ?_
    refine l_r (r_field rfl fo27_3) rfl ?_
    refine l_on (dj := 9) rfl rfl rfl ?_
    refine l_r (r_load1p rfl hs1 Repl.here ag23 rfl) rfl ?_
    refine l_on (dj := 9) rfl rfl rfl ?_
    refine l_r (r_len rfl el23) rfl ?_
    refine l_on (dj := 9) rfl rfl rfl ?_
    refine l_r (r_cmp rfl rfl rfl) rfl ?_
    refine l_r (r_pick_f rfl rfl) rfl ?_
    refine l_r (r_move rfl) rfl ?_
    refine l_part (dj := 15) rfl (fun hc3 => ?_) (fun hc3 => ?_)
    ·
      have hc3p := of_decide_eq_true hc3
      refine l_off (dj := 15) (b := true) rfl rfl rfl rfl rfl ?_
      refine l_off (dj := 15) (b := true) rfl rfl rfl rfl rfl ?_
      refine l_off (dj := 15) (b := true) rfl rfl rfl rfl rfl ?_
      refine l_off (dj := 15) (b := true) rfl rfl rfl rfl rfl ?_
      refine l_r (r_pick_t rfl rfl) rfl ?_
      refine l_r (r_move rfl) rfl ?_
      refine l_off (dj := 21) (b := true) rfl rfl rfl rfl rfl ?_
      refine l_off (dj := 21) (b := true) rfl rfl rfl rfl rfl ?_
      refine l_off (dj := 21) (b := true) rfl rfl rfl rfl rfl ?_
      refine l_off (dj := 21) (b := true) rfl rfl rfl rfl rfl ?_
      refine l_r (r_pick_t rfl rfl) rfl ?_
      refine l_nil ?_
      refine s_then rfl ?_
      refine s_seq ?_
      refine s_region ?_
      refine l_r (r_assign rfl) rfl ?_
      refine l_nil ?_
      refine s_ret ?_
      exact q_done (.inr rfl) (.tmp rfl .nil) ⟨false, rfl, (fun h => by cases h), hs1.nil⟩
    ·
      have hc3p := of_decide_eq_false hc3
      refine l_on (dj := 15) rfl rfl rfl ?_
      refine l_r (r_field rfl fo27_4) rfl ?_
      refine l_on (dj := 15) rfl rfl rfl ?_
      refine l_r (r_load1p rfl hs1 Repl.here ag24 rfl) rfl ?_
      refine l_on (dj := 15) rfl rfl rfl ?_
      refine l_r (r_len rfl el24) rfl ?_
      refine l_on (dj := 15) rfl rfl rfl ?_
      refine l_r (r_cmp rfl rfl rfl) rfl ?_
      refine l_r (r_pick_f rfl rfl) rfl ?_
      refine l_r (r_move rfl) rfl ?_
      refine l_part (dj := 21) rfl (fun hc4 => ?_) (fun hc4 => ?_)
      ·
        have hc4p := of_decide_eq_true hc4
        refine l_off (dj := 21) (b := true) rfl rfl rfl rfl rfl ?_
        refine l_off (dj := 21) (b := true) rfl rfl rfl rfl rfl ?_
        refine l_off (dj := 21) (b := true) rfl rfl rfl rfl rfl ?_
        refine l_off (dj := 21) (b := true) rfl rfl rfl rfl rfl ?_
        refine l_r (r_pick_t rfl rfl) rfl ?_
        refine l_nil ?_
        refine s_then rfl ?_
        refine s_seq ?_
        refine s_region ?_
        refine l_r (r_assign rfl) rfl ?_
        refine l_nil ?_
        refine s_ret ?_
        exact q_done (.inr rfl) (.tmp rfl .nil) ⟨false, rfl, (fun h => by cases h), hs1.nil⟩
      ·
        have hc4p := of_decide_eq_false hc4
        refine l_on (dj := 21) rfl rfl rfl ?_
        refine l_r (r_field rfl fo27_5) rfl ?_
        refine l_on (dj := 21) rfl rfl rfl ?_
        refine l_r (r_load1p rfl hs1 Repl.here ag25 rfl) rfl ?_
        refine l_on (dj := 21) rfl rfl rfl ?_
        refine l_r (r_len rfl el25) rfl ?_
        refine l_on (dj := 21) rfl rfl rfl ?_
        refine l_r (r_cmp rfl rfl rfl) rfl ?_
        refine l_r (r_pick_f rfl rfl) rfl ?_
        refine l_nil ?_
        refine s_part (dj := 26) rfl (fun hc5 => ?_) (fun hc5 => ?_)
        ·
          have hc5p := of_decide_eq_true hc5
          refine s_then rfl ?_
          refine s_seq ?_
          refine s_region ?_
          refine l_r (r_assign rfl) rfl ?_
          refine l_nil ?_
          refine s_ret ?_
          exact q_done (.inr rfl) (.tmp rfl .nil) ⟨false, rfl, (fun h => by cases h), hs1.nil⟩
        ·
          have hc5p := of_decide_eq_false hc5
          refine s_else rfl ?_
          refine s_skip ?_
          refine s_seq ?_
          refine s_seq ?_
          refine s_region ?_
          refine l_r (r_assign rfl) rfl ?_
          refine l_nil ?_
          refine s_block ?_
          refine s_loop (fun m L wl => ∃ (k : Nat), L = [(3, .int .i64 ((k : Nat) : Int)), (1, .pointer (some ⟨b1, 0, none⟩))] ∧ m = cf.Parts.length - k ∧ k ≤ cf.Parts.length ∧ (∀ j x, j < k → cf.Parts[j]? = some x → FewP x) ∧ St 0 w wl [.pt b1 [.int .i64 cf.Frame, .int .i64 cf.Switch, .slice Al_2 cf.Lines.length cl_2, .slice Al_3 cf.Parts.length cl_3, .slice Al_4 cf.Windows.length cl_4, .slice Al_5 cf.Channels.length cl_5] 27]) _ [(3, .int .i64 ((0 : Nat) : Int)), (1, .pointer (some ⟨b1, 0, none⟩))] (.cons rfl (.cons rfl .nil)) ⟨0, rfl, rfl, Nat.zero_le _, fun j x hj => by omega, hs1⟩ ?_
          rintro _ _ w6 ⟨k, rfl, rfl, hkk, hq, hs6⟩
          refine s_seq ?_
          refine s_seq ?_
          refine s_region ?_
          refine l_r (r_move rfl) rfl ?_
          refine l_r (r_field rfl fo27_3) rfl ?_
          refine l_r (r_load1p rfl hs6 Repl.here ag23 rfl) rfl ?_
          refine l_r (r_len rfl el23) rfl ?_
          refine l_r (r_cmp rfl rfl rfl) rfl ?_
          refine l_nil ?_
          refine s_part (dj := 31) rfl (fun hc7 => ?_) (fun hc7 => ?_)
          ·
            have hc7p := of_decide_eq_true hc7
            refine s_then rfl ?_
            refine s_skip ?_
            refine s_seq ?_
            refine s_block ?_
            refine s_seq ?_
            refine s_region ?_
            refine l_r (r_field rfl fo27_3) rfl ?_
            refine l_r (r_load1p rfl hs6 Repl.here ag23 rfl) rfl ?_
            refine l_r (r_move rfl) rfl ?_
            obtain ⟨e8x, e8h, e8b, e8o, e8cs, e8A, _, e8K, e8c⟩ := hl_3.get_ (i := k) (by omega)
            have e8K0 := e8K
            obtain ⟨Ae8_1, ce8_1, Ae8_2, ce8_2, Ae8_4, ce8_4, Ae8_5, ce8_5, Ae8_7, ce8_7, Ae8_8, ce8_8, Ae8_10, ce8_10, rfl, he8_1, he8_2, he8_4, he8_5, he8_7, he8_8, he8_10⟩ := e8K
            refine l_r (r_indexA rfl e8A rfl (by omega) (by omega) el23) rfl ?_
            refine l_r (r_loadN rfl ag75 (e8c.on hs6) sz75) rfl ?_
            refine l_alloc zz75 rfl hs6 ?_
            intro w9 b4 hb4 hx9 hs9
            refine l_storeAll rfl rfl sz75 (one_all rfl) (Nat.zero_le _) hs9 Repl.here rfl ?_
            intro w10 hz10 hk10 hs10
            refine l_nil ?_
            refine s_seq ?_
            refine s_region ?_
            refine l_r (r_field rfl fo75_1) rfl ?_
            refine l_r (r_load1p rfl hs10 Repl.here ag70 rfl) rfl ?_
            refine l_r (r_len rfl el70) rfl ?_
            refine l_r (r_cmp rfl rfl rfl) rfl ?_
            refine l_r (r_move rfl) rfl ?_
            refine l_part (dj := 43) rfl (fun hc11 => ?_) (fun hc11 => ?_)
            ·
              have hc11p := of_decide_eq_true hc11
              refine l_off (dj := 43) (b := true) rfl rfl rfl rfl rfl ?_
              refine l_off (dj := 43) (b := true) rfl rfl rfl rfl rfl ?_
              refine l_off (dj := 43) (b := true) rfl rfl rfl rfl rfl ?_
              refine l_off (dj := 43) (b := true) rfl rfl rfl rfl rfl ?_
              refine l_r (r_pick_t rfl rfl) rfl ?_
              refine l_r (r_move rfl) rfl ?_
              refine l_off (dj := 49) (b := true) rfl rfl rfl rfl rfl ?_
              refine l_off (dj := 49) (b := true) rfl rfl rfl rfl rfl ?_
              refine l_off (dj := 49) (b := true) rfl rfl rfl rfl rfl ?_
              refine l_off (dj := 49) (b := true) rfl rfl rfl rfl rfl ?_
              refine l_r (r_pick_t rfl rfl) rfl ?_
              refine l_r (r_move rfl) rfl ?_
              refine l_off (dj := 55) (b := true) rfl rfl rfl rfl rfl ?_
              refine l_off (dj := 55) (b := true) rfl rfl rfl rfl rfl ?_
              refine l_off (dj := 55) (b := true) rfl rfl rfl rfl rfl ?_
              refine l_off (dj := 55) (b := true) rfl rfl rfl rfl rfl ?_
              refine l_r (r_pick_t rfl rfl) rfl ?_
              refine l_r (r_move rfl) rfl ?_
              refine l_off (dj := 61) (b := true) rfl rfl rfl rfl rfl ?_
              refine l_off (dj := 61) (b := true) rfl rfl rfl rfl rfl ?_
              refine l_off (dj := 61) (b := true) rfl rfl rfl rfl rfl ?_
              refine l_off (dj := 61) (b := true) rfl rfl rfl rfl rfl ?_
              refine l_r (r_pick_t rfl rfl) rfl ?_
              refine l_r (r_move rfl) rfl ?_
              refine l_off (dj := 67) (b := true) rfl rfl rfl rfl rfl ?_
              refine l_off (dj := 67) (b := true) rfl rfl rfl rfl rfl ?_
              refine l_off (dj := 67) (b := true) rfl rfl rfl rfl rfl ?_
              refine l_off (dj := 67) (b := true) rfl rfl rfl rfl rfl ?_
              refine l_r (r_pick_t rfl rfl) rfl ?_
              refine l_r (r_move rfl) rfl ?_
              refine l_off (dj := 73) (b := true) rfl rfl rfl rfl rfl ?_
              refine l_off (dj := 73) (b := true) rfl rfl rfl rfl rfl ?_
              refine l_off (dj := 73) (b := true) rfl rfl rfl rfl rfl ?_
              refine l_off (dj := 73) (b := true) rfl rfl rfl rfl rfl ?_
              refine l_r (r_pick_t rfl rfl) rfl ?_
              refine l_nil ?_
              refine s_then rfl ?_
              refine s_seq ?_
              refine s_region ?_
              refine l_r (r_assign rfl) rfl ?_
              refine l_nil ?_
              refine s_ret ?_
              exact q_done (.inr rfl) (.tmp rfl .nil) ⟨false, rfl, (fun h => by cases h), hs10.nil⟩
            ·
              have hc11p := of_decide_eq_false hc11
              refine l_on (dj := 43) rfl rfl rfl ?_
              refine l_r (r_field rfl fo75_2) rfl ?_
              refine l_on (dj := 43) rfl rfl rfl ?_
              refine l_r (r_load1p rfl hs10 Repl.here ag71 rfl) rfl ?_
              refine l_on (dj := 43) rfl rfl rfl ?_
              refine l_r (r_len rfl el71) rfl ?_
              refine l_on (dj := 43) rfl rfl rfl ?_
              refine l_r (r_cmp rfl rfl rfl) rfl ?_
              refine l_r (r_pick_f rfl rfl) rfl ?_
              refine l_r (r_move rfl) rfl ?_
              refine l_part (dj := 49) rfl (fun hc12 => ?_) (fun hc12 => ?_)
              ·
                have hc12p := of_decide_eq_true hc12
                refine l_off (dj := 49) (b := true) rfl rfl rfl rfl rfl ?_
                refine l_off (dj := 49) (b := true) rfl rfl rfl rfl rfl ?_
                refine l_off (dj := 49) (b := true) rfl rfl rfl rfl rfl ?_
                refine l_off (dj := 49) (b := true) rfl rfl rfl rfl rfl ?_
                refine l_r (r_pick_t rfl rfl) rfl ?_
                refine l_r (r_move rfl) rfl ?_
                refine l_off (dj := 55) (b := true) rfl rfl rfl rfl rfl ?_
                refine l_off (dj := 55) (b := true) rfl rfl rfl rfl rfl ?_
                refine l_off (dj := 55) (b := true) rfl rfl rfl rfl rfl ?_
                refine l_off (dj := 55) (b := true) rfl rfl rfl rfl rfl ?_
                refine l_r (r_pick_t rfl rfl) rfl ?_
                refine l_r (r_move rfl) rfl ?_
                refine l_off (dj := 61) (b := true) rfl rfl rfl rfl rfl ?_
                refine l_off (dj := 61) (b := true) rfl rfl rfl rfl rfl ?_
                refine l_off (dj := 61) (b := true) rfl rfl rfl rfl rfl ?_
                refine l_off (dj := 61) (b := true) rfl rfl rfl rfl rfl ?_
                refine l_r (r_pick_t rfl rfl) rfl ?_
                refine l_r (r_move rfl) rfl ?_
                refine l_off (dj := 67) (b := true) rfl rfl rfl rfl rfl ?_
                refine l_off (dj := 67) (b := true) rfl rfl rfl rfl rfl ?_
                refine l_off (dj := 67) (b := true) rfl rfl rfl rfl rfl ?_
                refine l_off (dj := 67) (b := true) rfl rfl rfl rfl rfl ?_
                refine l_r (r_pick_t rfl rfl) rfl ?_
                refine l_r (r_move rfl) rfl ?_
                refine l_off (dj := 73) (b := true) rfl rfl rfl rfl rfl ?_
                refine l_off (dj := 73) (b := true) rfl rfl rfl rfl rfl ?_
                refine l_off (dj := 73) (b := true) rfl rfl rfl rfl rfl ?_
                refine l_off (dj := 73) (b := true) rfl rfl rfl rfl rfl ?_
                refine l_r (r_pick_t rfl rfl) rfl ?_
                refine l_nil ?_
                refine s_then rfl ?_
                refine s_seq ?_
                refine s_region ?_
                refine l_r (r_assign rfl) rfl ?_
                refine l_nil ?_
                refine s_ret ?_
                exact q_done (.inr rfl) (.tmp rfl .nil) ⟨false, rfl, (fun h => by cases h), hs10.nil⟩
              ·
                have hc12p := of_decide_eq_false hc12
                refine l_on (dj := 49) rfl rfl rfl ?_
                refine l_r (r_field rfl fo75_4) rfl ?_
                refine l_on (dj := 49) rfl rfl rfl ?_
                refine l_r (r_load1p rfl hs10 Repl.here ag72 rfl) rfl ?_
                refine l_on (dj := 49) rfl rfl rfl ?_
                refine l_r (r_len rfl el72) rfl ?_
                refine l_on (dj := 49) rfl rfl rfl ?_
                refine l_r (r_cmp rfl rfl rfl) rfl ?_
                refine l_r (r_pick_f rfl rfl) rfl ?_
                refine l_r (r_move rfl) rfl ?_
                refine l_part (dj := 55) rfl (fun hc13 => ?_) (fun hc13 => ?_)
                ·
                  have hc13p := of_decide_eq_true hc13
                  refine l_off (dj := 55) (b := true) rfl rfl rfl rfl rfl ?_
                  refine l_off (dj := 55) (b := true) rfl rfl rfl rfl rfl ?_
                  refine l_off (dj := 55) (b := true) rfl rfl rfl rfl rfl ?_
                  refine l_off (dj := 55) (b := true) rfl rfl rfl rfl rfl ?_
                  refine l_r (r_pick_t rfl rfl) rfl ?_
                  refine l_r (r_move rfl) rfl ?_
                  refine l_off (dj := 61) (b := true) rfl rfl rfl rfl rfl ?_
                  refine l_off (dj := 61) (b := true) rfl rfl rfl rfl rfl ?_
                  refine l_off (dj := 61) (b := true) rfl rfl rfl rfl rfl ?_
                  refine l_off (dj := 61) (b := true) rfl rfl rfl rfl rfl ?_
                  refine l_r (r_pick_t rfl rfl) rfl ?_
                  refine l_r (r_move rfl) rfl ?_
                  refine l_off (dj := 67) (b := true) rfl rfl rfl rfl rfl ?_
                  refine l_off (dj := 67) (b := true) rfl rfl rfl rfl rfl ?_
                  refine l_off (dj := 67) (b := true) rfl rfl rfl rfl rfl ?_
                  refine l_off (dj := 67) (b := true) rfl rfl rfl rfl rfl ?_
                  refine l_r (r_pick_t rfl rfl) rfl ?_
                  refine l_r (r_move rfl) rfl ?_
                  refine l_off (dj := 73) (b := true) rfl rfl rfl rfl rfl ?_
                  refine l_off (dj := 73) (b := true) rfl rfl rfl rfl rfl ?_
                  refine l_off (dj := 73) (b := true) rfl rfl rfl rfl rfl ?_
                  refine l_off (dj := 73) (b := true) rfl rfl rfl rfl rfl ?_
                  refine l_r (r_pick_t rfl rfl) rfl ?_
                  refine l_nil ?_
                  refine s_then rfl ?_
                  refine s_seq ?_
                  refine s_region ?_
                  refine l_r (r_assign rfl) rfl ?_
                  refine l_nil ?_
                  refine s_ret ?_
                  exact q_done (.inr rfl) (.tmp rfl .nil) ⟨false, rfl, (fun h => by cases h), hs10.nil⟩
                ·
                  have hc13p := of_decide_eq_false hc13
                  refine l_on (dj := 55) rfl rfl rfl ?_
                  refine l_r (r_field rfl fo75_5) rfl ?_
                  refine l_on (dj := 55) rfl rfl rfl ?_
                  refine l_r (r_load1p rfl hs10 Repl.here ag73 rfl) rfl ?_
                  refine l_on (dj := 55) rfl rfl rfl ?_
                  refine l_r (r_len rfl el73) rfl ?_
                  refine l_on (dj := 55) rfl rfl rfl ?_
                  refine l_r (r_cmp rfl rfl rfl) rfl ?_
                  refine l_r (r_pick_f rfl rfl) rfl ?_
                  refine l_r (r_move rfl) rfl ?_
                  refine l_part (dj := 61) rfl (fun hc14 => ?_) (fun hc14 => ?_)
                  ·
                    have hc14p := of_decide_eq_true hc14
                    refine l_off (dj := 61) (b := true) rfl rfl rfl rfl rfl ?_
                    refine l_off (dj := 61) (b := true) rfl rfl rfl rfl rfl ?_
                    refine l_off (dj := 61) (b := true) rfl rfl rfl rfl rfl ?_
                    refine l_off (dj := 61) (b := true) rfl rfl rfl rfl rfl ?_
                    refine l_r (r_pick_t rfl rfl) rfl ?_
                    refine l_r (r_move rfl) rfl ?_
                    refine l_off (dj := 67) (b := true) rfl rfl rfl rfl rfl ?_
                    refine l_off (dj := 67) (b := true) rfl rfl rfl rfl rfl ?_
                    refine l_off (dj := 67) (b := true) rfl rfl rfl rfl rfl ?_
                    refine l_off (dj := 67) (b := true) rfl rfl rfl rfl rfl ?_
                    refine l_r (r_pick_t rfl rfl) rfl ?_
                    refine l_r (r_move rfl) rfl ?_
                    refine l_off (dj := 73) (b := true) rfl rfl rfl rfl rfl ?_
                    refine l_off (dj := 73) (b := true) rfl rfl rfl rfl rfl ?_
                    refine l_off (dj := 73) (b := true) rfl rfl rfl rfl rfl ?_
                    refine l_off (dj := 73) (b := true) rfl rfl rfl rfl rfl ?_
                    refine l_r (r_pick_t rfl rfl) rfl ?_
                    refine l_nil ?_
                    refine s_then rfl ?_
                    refine s_seq ?_
                    refine s_region ?_
                    refine l_r (r_assign rfl) rfl ?_
                    refine l_nil ?_
                    refine s_ret ?_
                    exact q_done (.inr rfl) (.tmp rfl .nil) ⟨false, rfl, (fun h => by cases h), hs10.nil⟩
                  ·
                    have hc14p := of_decide_eq_false hc14
                    refine l_on (dj := 61) rfl rfl rfl ?_
                    refine l_r (r_field rfl fo75_7) rfl ?_
                    refine l_on (dj := 61) rfl rfl rfl ?_
                    refine l_r (r_load1p rfl hs10 Repl.here ag22 rfl) rfl ?_
                    refine l_on (dj := 61) rfl rfl rfl ?_
                    refine l_r (r_len rfl el22) rfl ?_
                    refine l_on (dj := 61) rfl rfl rfl ?_
                    refine l_r (r_cmp rfl rfl rfl) rfl ?_
                    refine l_r (r_pick_f rfl rfl) rfl ?_
                    refine l_r (r_move rfl) rfl ?_
                    refine l_part (dj := 67) rfl (fun hc15 => ?_) (fun hc15 => ?_)
                    ·
                      have hc15p := of_decide_eq_true hc15
                      refine l_off (dj := 67) (b := true) rfl rfl rfl rfl rfl ?_
                      refine l_off (dj := 67) (b := true) rfl rfl rfl rfl rfl ?_
                      refine l_off (dj := 67) (b := true) rfl rfl rfl rfl rfl ?_
                      refine l_off (dj := 67) (b := true) rfl rfl rfl rfl rfl ?_
                      refine l_r (r_pick_t rfl rfl) rfl ?_
                      refine l_r (r_move rfl) rfl ?_
                      refine l_off (dj := 73) (b := true) rfl rfl rfl rfl rfl ?_
                      refine l_off (dj := 73) (b := true) rfl rfl rfl rfl rfl ?_
                      refine l_off (dj := 73) (b := true) rfl rfl rfl rfl rfl ?_
                      refine l_off (dj := 73) (b := true) rfl rfl rfl rfl rfl ?_
                      refine l_r (r_pick_t rfl rfl) rfl ?_
                      refine l_nil ?_
                      refine s_then rfl ?_
                      refine s_seq ?_
                      refine s_region ?_
                      refine l_r (r_assign rfl) rfl ?_
                      refine l_nil ?_
                      refine s_ret ?_
                      exact q_done (.inr rfl) (.tmp rfl .nil) ⟨false, rfl, (fun h => by cases h), hs10.nil⟩
                    ·
                      have hc15p := of_decide_eq_false hc15
                      refine l_on (dj := 67) rfl rfl rfl ?_
                      refine l_r (r_field rfl fo75_8) rfl ?_
                      refine l_on (dj := 67) rfl rfl rfl ?_
                      refine l_r (r_load1p rfl hs10 Repl.here ag22 rfl) rfl ?_
                      refine l_on (dj := 67) rfl rfl rfl ?_
                      refine l_r (r_len rfl el22) rfl ?_
                      refine l_on (dj := 67) rfl rfl rfl ?_
                      refine l_r (r_cmp rfl rfl rfl) rfl ?_
                      refine l_r (r_pick_f rfl rfl) rfl ?_
                      refine l_r (r_move rfl) rfl ?_
                      refine l_part (dj := 73) rfl (fun hc16 => ?_) (fun hc16 => ?_)
                      ·
                        have hc16p := of_decide_eq_true hc16
                        refine l_off (dj := 73) (b := true) rfl rfl rfl rfl rfl ?_
                        refine l_off (dj := 73) (b := true) rfl rfl rfl rfl rfl ?_
                        refine l_off (dj := 73) (b := true) rfl rfl rfl rfl rfl ?_
                        refine l_off (dj := 73) (b := true) rfl rfl rfl rfl rfl ?_
                        refine l_r (r_pick_t rfl rfl) rfl ?_
                        refine l_nil ?_
                        refine s_then rfl ?_
                        refine s_seq ?_
                        refine s_region ?_
                        refine l_r (r_assign rfl) rfl ?_
                        refine l_nil ?_
                        refine s_ret ?_
                        exact q_done (.inr rfl) (.tmp rfl .nil) ⟨false, rfl, (fun h => by cases h), hs10.nil⟩
                      ·
                        have hc16p := of_decide_eq_false hc16
                        refine l_on (dj := 73) rfl rfl rfl ?_
                        refine l_r (r_field rfl fo75_10) rfl ?_
                        refine l_on (dj := 73) rfl rfl rfl ?_
                        refine l_r (r_load1p rfl hs10 Repl.here ag22 rfl) rfl ?_
                        refine l_on (dj := 73) rfl rfl rfl ?_
                        refine l_r (r_len rfl el22) rfl ?_
                        refine l_on (dj := 73) rfl rfl rfl ?_
                        refine l_r (r_cmp rfl rfl rfl) rfl ?_
                        refine l_r (r_pick_f rfl rfl) rfl ?_
                        refine l_nil ?_
                        refine s_part (dj := 78) rfl (fun hc17 => ?_) (fun hc17 => ?_)
                        ·
                          have hc17p := of_decide_eq_true hc17
                          refine s_then rfl ?_
                          refine s_seq ?_
                          refine s_region ?_
                          refine l_r (r_assign rfl) rfl ?_
                          refine l_nil ?_
                          refine s_ret ?_
                          exact q_done (.inr rfl) (.tmp rfl .nil) ⟨false, rfl, (fun h => by cases h), hs10.nil⟩
                        ·
                          have hc17p := of_decide_eq_false hc17
                          refine s_else rfl ?_
                          refine s_skip ?_
                          refine s_mark ?_
                          refine s_region ?_
                          refine l_r (r_move rfl) rfl ?_
                          refine l_r (r_inc rfl (by omega)) rfl ?_
                          refine l_r (r_assign rfl) rfl ?_
                          refine l_nil ?_
                          refine s_again ?_
                          exact ⟨_, [(3, .int .i64 (((k + 1) : Nat) : Int)), (1, .pointer (some ⟨b1, 0, none⟩))], by omega, (.cons rfl (.cons rfl .nil)), ⟨(k + 1), rfl, rfl, by omega, fun j x hj hx => by
                                by_cases e : j = k
                                · subst e; rw [e8h] at hx; injection hx with hx; subst hx; unfold FewP; omega
                                · exact hq j x (by omega) hx, hs10.tail⟩⟩
          ·
            have hc7p := of_decide_eq_false hc7
            refine s_else rfl ?_
            refine s_exit rfl ?_
            refine s_seq ?_
            refine s_region ?_
            refine l_r (r_assign rfl) rfl ?_
            refine l_nil ?_
            refine s_ret ?_
            exact q_done (.inr rfl) (.tmp rfl .nil) ⟨true, rfl, fun _ => ⟨by omega, by omega, by omega, by omega, fun p hp => by
                obtain ⟨j, hj⟩ := List.mem_iff_getElem?.1 hp
                exact hq j p (by have := (List.getElem?_eq_some_iff.1 hj).1; omega) hj⟩, hs6.nil⟩

set_option maxRecDepth 100000 in
theorem few_any {cf : TConfig} {pl : List Value} {ps : List TPart} {A : Option Addr} {c : Nat} (w : World) {ok ok2 : Nat → Prop} (hKl : Kd.config.K w ok cf pl) (hx : Sl Kd.part w ok2 A c ps) (hsm : ∀ p, p ∈ ps → PartSmall p) :
    Calls Try.prog 10 #[.agg pl.toArray, .slice A ps.length c] w (fun e w' => ∃ b, e = .returned (.bool b) ∧ (b = true → FewC cf ∧ ps.length ≤ 8 ∧ QB ps 20) ∧ St 0 w w' []) := by
  refine q_call (n := 30) (args := [.agg pl.toArray, .slice A ps.length c]) Try.func10 rfl rfl rfl ?_
  have hs0 := St.refl 0 w
  have hKl0 := hKl
  obtain ⟨Al_2, cl_2, Al_3, cl_3, Al_4, cl_4, Al_5, cl_5, rfl, hl_2, hl_3, hl_4, hl_5⟩ := hKl
  have hlx := hx.len
  have hle2 := hl_2.len
  have hle3 := hl_3.len
  have hle4 := hl_4.len
  have hle5 := hl_5.len
  refine s_seq ?_
  refine s_region ?_
  refine l_box rfl rfl rfl hs0 ?_
  intro w1 b2 hb2 hx1 hs1
  refine l_r (r_assign rfl) rfl ?_
  refine l_nil ?_
  refine s_seq ?_
  refine s_region ?_
  refine l_r (r_loadNp rfl hs1 Repl.here ag27 sz27) rfl ?_
  refine l_call rfl rfl fk18 rfl (few_config w1 (Kd.config.on hKl0 hs1)) ?_
  rintro _ w2 ⟨bb2, rfl, hb2, hc2⟩
  have hs2 := hs1.call0 hc2
  refine ⟨_, rfl, ?_⟩
  refine l_r (r_assign rfl) rfl ?_
  refine l_nil ?_
  refine s_seq ?_
  refine s_seq ?_
  skip
  refine s_region ?_
  refine l_r (r_move rfl) rfl ?_
  refine l_r (r_not rfl) rfl ?_
  refine l_r (r_move rfl) rfl ?_
  refine l_part (dj := 12) rfl (fun hc3 => ?_) (fun hc3 => ?_)
  ·
    have hc3n := Bool.not_eq_true' _ |>.mp hc3
    refine l_off (dj := 12) (b := true) rfl rfl rfl rfl rfl ?_
    refine l_off (dj := 12) (b := true) rfl rfl rfl rfl rfl ?_
    refine l_off (dj := 12) (b := true) rfl rfl rfl rfl rfl ?_
    refine l_r (r_pick_t rfl rfl) rfl ?_
    refine l_nil ?_
    refine s_then rfl ?_
    refine s_seq ?_
    refine s_region ?_
    refine l_r (r_assign rfl) rfl ?_
    refine l_nil ?_
    refine s_ret ?_
    exact q_done (.inr rfl) (.tmp rfl .nil) ⟨false, rfl, (fun h => by cases h), hs2.nil⟩
  ·
    have hc3n := Bool.not_eq_false' _ |>.mp hc3
    refine l_on (dj := 12) rfl rfl rfl ?_
    refine l_r (r_move rfl) rfl ?_
    refine l_on (dj := 12) rfl rfl rfl ?_
    refine l_r (r_len rfl el28) rfl ?_
    refine l_on (dj := 12) rfl rfl rfl ?_
    refine l_r (r_cmp rfl rfl rfl) rfl ?_
    refine l_r (r_pick_f rfl rfl) rfl ?_
    refine l_nil ?_
    refine s_part (dj := 16) rfl (fun hc4 => ?_) (fun hc4 => ?_)
    ·
      have hc4p := of_decide_eq_true hc4
      refine s_then rfl ?_
      refine s_seq ?_
      refine s_region ?_
      refine l_r (r_assign rfl) rfl ?_
      refine l_nil ?_
      refine s_ret ?_
      exact q_done (.inr rfl) (.tmp rfl .nil) ⟨false, rfl, (fun h => by cases h), hs2.nil⟩
    ·
      have hc4p := of_decide_eq_false hc4
      refine s_else rfl ?_
      refine s_skip ?_
      refine s_seq ?_
      refine s_seq ?_
      refine s_region ?_
      refine l_r (r_assign rfl) rfl ?_
      refine l_nil ?_
      refine s_block ?_
      refine s_loop (fun m L wl => ∃ (k : Nat), L = [(6, .int .i64 ((k : Nat) : Int)), (1, .slice A ps.length c)] ∧ m = ps.length - k ∧ k ≤ ps.length ∧ (∀ j x, j < k → ps[j]? = some x → ∀ q ∈ x.Queues, q.Values.length ≤ 20) ∧ St 0 w wl [.pt b2 [.int .i64 cf.Frame, .int .i64 cf.Switch, .slice Al_2 cf.Lines.length cl_2, .slice Al_3 cf.Parts.length cl_3, .slice Al_4 cf.Windows.length cl_4, .slice Al_5 cf.Channels.length cl_5] 27]) _ [(6, .int .i64 ((0 : Nat) : Int)), (1, .slice A ps.length c)] (.cons rfl (.cons rfl .nil)) ⟨0, rfl, rfl, Nat.zero_le _, fun j x hj => by omega, hs2⟩ ?_
      rintro _ _ w5 ⟨k, rfl, rfl, hkk, hq, hs5⟩
      refine s_seq ?_
      refine s_seq ?_
      refine s_region ?_
      refine l_r (r_move rfl) rfl ?_
      refine l_r (r_move rfl) rfl ?_
      refine l_r (r_len rfl el28) rfl ?_
      refine l_r (r_cmp rfl rfl rfl) rfl ?_
      refine l_nil ?_
      refine s_part (dj := 20) rfl (fun hc6 => ?_) (fun hc6 => ?_)
      ·
        have hc6p := of_decide_eq_true hc6
        refine s_then rfl ?_
        refine s_skip ?_
        refine s_seq ?_
        refine s_block ?_
        refine s_seq ?_
        refine s_region ?_
        refine l_r (r_move rfl) rfl ?_
        refine l_r (r_move rfl) rfl ?_
        obtain ⟨e7x, e7h, e7b, e7o, e7cs, e7A, _, e7K, e7c⟩ := hx.get_ (i := k) (by omega)
        have e7K0 := e7K
        obtain ⟨Ae7_3, ce7_3, Ae7_4, ce7_4, Ae7_5, ce7_5, Ae7_6, ce7_6, Ae7_7, ce7_7, Ae7_8, ce7_8, Ae7_9, ce7_9, Ae7_10, ce7_10, Ae7_12, ce7_12, Ae7_14, ce7_14, rfl, he7_3, he7_4, he7_5, he7_6, he7_7, he7_8, he7_9, he7_10, he7_12, he7_14⟩ := e7K
        refine l_r (r_indexA rfl e7A rfl (by omega) (by omega) el28) rfl ?_
        refine l_r (r_loadN rfl ag48 (e7c.on hs5) sz48) rfl ?_
        refine l_call rfl rfl fk19 rfl (few_part w5 (Kd.part.on e7K0 hs5) (hsm _ (List.mem_of_getElem? e7h))) ?_
        rintro _ w8 ⟨bb8, rfl, hb8, hc8⟩
        have hs8 := hs5.call0 hc8
        refine ⟨_, rfl, ?_⟩
        refine l_r (r_assign rfl) rfl ?_
        refine l_nil ?_
        refine s_seq ?_
        refine s_region ?_
        refine l_r (r_move rfl) rfl ?_
        refine l_r (r_not rfl) rfl ?_
        refine l_nil ?_
        refine s_part (dj := 29) rfl (fun hc9 => ?_) (fun hc9 => ?_)
        ·
          have hc9n := Bool.not_eq_true' _ |>.mp hc9
          refine s_then rfl ?_
          refine s_seq ?_
          refine s_region ?_
          refine l_r (r_assign rfl) rfl ?_
          refine l_nil ?_
          refine s_ret ?_
          exact q_done (.inr rfl) (.tmp rfl .nil) ⟨false, rfl, (fun h => by cases h), hs8.nil⟩
        ·
          have hc9n := Bool.not_eq_false' _ |>.mp hc9
          refine s_else rfl ?_
          refine s_skip ?_
          refine s_mark ?_
          refine s_region ?_
          refine l_r (r_move rfl) rfl ?_
          refine l_r (r_inc rfl (by omega)) rfl ?_
          refine l_r (r_assign rfl) rfl ?_
          refine l_nil ?_
          refine s_again ?_
          exact ⟨_, [(6, .int .i64 (((k + 1) : Nat) : Int)), (1, .slice A ps.length c)], by omega, (.cons rfl (.cons rfl .nil)), ⟨(k + 1), rfl, rfl, by omega, fun j x hj hx => by
                by_cases e : j = k
                · subst e; rw [e7h] at hx; injection hx with hx; subst hx; exact hb8 hc9n
                · exact hq j x (by omega) hx, hs8⟩⟩
      ·
        have hc6p := of_decide_eq_false hc6
        refine s_else rfl ?_
        refine s_exit rfl ?_
        refine s_seq ?_
        refine s_region ?_
        refine l_r (r_assign rfl) rfl ?_
        refine l_nil ?_
        refine s_ret ?_
        exact q_done (.inr rfl) (.tmp rfl .nil) ⟨true, rfl, fun _ => ⟨hb2 hc3n, by omega, fun p hp => by
            obtain ⟨j, hj⟩ := List.mem_iff_getElem?.1 hp
            exact hq j p (by have := (List.getElem?_eq_some_iff.1 hj).1; omega) hj⟩, hs5.nil⟩

end Go.Proofs.Ytfhghnhgcdiknaa
