/- The two laws walked. -/
import Derived.Test.YtcapkhhflhpnpaaWh
namespace Go.Proofs.Ytcapkhhflhpnpaa
open Go.RowKit
theorem nums_eq (is : List Nat) : decide (nums is = nums is) = true := decide_eq_true rfl
theorem Sl.at_world {α : Type} {k : Kd α} {w w1 : World} {ok : Nat → Prop} {B : Option Addr} {c : Nat} {xs : List α} (h : Sl k w ok B c xs) (hz : 0 < k.sz) (hx : Ext w w1) : Sl k w1 (fun b => b < w.heap.size) B c xs := h.on hz ((St.refl 0 w).ext hx)
theorem pick_spec (xs : List TProc) : (pickI xs 2 = -1 ∧ ∀ k, (hk : k < xs.length) → ¬ (xs[k].State = 1 ∧ xs[k].Suspended = false)) ∨
    ∃ j : Nat, pickI xs 2 = (j : Int) ∧ ∃ hj : j < xs.length, xs[j].State = 1 ∧ xs[j].Suspended = false ∧ ∀ k, (hk : k < xs.length) → xs[k].State = 1 → xs[k].Suspended = false → ¬ xs[k].Prio > xs[j].Prio ∧ (xs[k].Prio = xs[j].Prio → ¬ xs[k].Since < xs[j].Since) := by
  have hm : ∀ k, (hk : k < xs.length) → (k ∈ ordL xs 2 ↔ xs[k].State = 1 ∧ xs[k].Suspended = false) := fun k hk => by
    rw [ordL_mem, ← could_cand hk]
    simp [couldB]
  have hs := ordL_sorted xs 2
  have hlt : ∀ i, i ∈ ordL xs 2 → i < xs.length := fun i hi => ordL_lt hi
  unfold pickI
  cases ho : ordL xs 2 with
  | nil =>
    refine .inl ⟨rfl, fun k hk h => ?_⟩
    have := (hm k hk).2 h
    rw [ho] at this
    cases this
  | cons j r =>
    rw [ho] at hs hm hlt
    have hj := hlt j List.mem_cons_self
    have hcj := (hm j hj).1 List.mem_cons_self
    refine .inr ⟨j, rfl, hj, hcj.1, hcj.2, fun k hk h1 h2 => ?_⟩
    have hk' := (hm k hk).2 ⟨h1, h2⟩
    rcases List.mem_cons.1 hk' with e | e
    · subst e
      exact ⟨by omega, fun _ => by omega⟩
    · have hkj := (List.pairwise_cons.1 hs).1 k e
      rw [aheadB_eq hk hj] at hkj
      by_cases e1 : xs[k].Prio = xs[j].Prio
      · refine ⟨by omega, fun _ => ?_⟩
        by_cases e2 : xs[k].Since = xs[j].Since
        · omega
        · simp [e1, e2] at hkj
          omega
      · simp [e1] at hkj
        exact ⟨by omega, fun h => absurd h e1⟩

set_option maxRecDepth 100000 in
theorem readyOrders_any {xs : List TProc} {A : Option Addr} {c : Nat} (mode : Int) (w : World) {ok : Nat → Prop} (hx : Sl Kd.proc w ok A c xs) :
    Calls Try.prog 3 #[.slice A xs.length c, .int .i64 mode] w (fun e w' => e = .returned (.bool true) ∧ St 0 w w' []) := by
  refine q_call (n := 33) (args := [.slice A xs.length c, .int .i64 mode]) Try.func3 rfl rfl rfl ?_
  have hs0 := St.refl 0 w
  refine s_seq ?_
  refine s_region ?_
  refine l_r (r_assign rfl) rfl ?_
  refine l_nil ?_
  refine s_seq ?_
  refine s_region ?_
  refine l_call rfl rfl fk5 rfl (awake_any sort_ok w) ?_
  rintro _ w1 ⟨rfl, hc1⟩
  have hs1 := hs0.call0 hc1
  refine ⟨_, rfl, ?_⟩
  refine l_r (r_assign rfl) rfl ?_
  refine l_nil ?_
  refine s_seq ?_
  refine s_seq ?_
  refine s_region ?_
  refine l_r (r_move rfl) rfl ?_
  refine l_r (r_not rfl) rfl ?_
  refine l_r (r_move rfl) rfl ?_
  refine l_on (dj := 10) rfl rfl rfl ?_
  refine l_r (r_move rfl) rfl ?_
  refine l_on (dj := 10) rfl rfl rfl ?_
  refine l_r (r_len rfl el22) rfl ?_
  refine l_on (dj := 10) rfl rfl rfl ?_
  by_cases hc2 : (xs.length : Int) > 40
  ·
    refine l_r (r_cmp rfl rfl (b := true) (congrArg some (decide_eq_true hc2))) rfl ?_
    refine l_r (r_pick_f rfl rfl) rfl ?_
    refine l_nil ?_
    refine s_then rfl ?_
    refine s_seq ?_
    refine s_region ?_
    refine l_r (r_move rfl) rfl ?_
    refine l_r (r_assign rfl) rfl ?_
    refine l_nil ?_
    refine s_ret ?_
    exact q_done (.inr rfl) (.tmp rfl .nil) ⟨rfl, hs1.nil⟩
  ·
    refine l_r (r_cmp rfl rfl (b := false) (congrArg some (decide_eq_false hc2))) rfl ?_
    refine l_r (r_pick_f rfl rfl) rfl ?_
    refine l_nil ?_
    refine s_else rfl ?_
    refine s_skip ?_
    refine s_seq ?_
    refine s_region ?_
    refine l_r (r_move rfl) rfl ?_
    refine l_r (r_move rfl) rfl ?_
    refine l_call rfl rfl fk7 rfl (order_any sort_ok mode w1 (hx.on (by decide) hs1) (by omega)) ?_
    rintro _ w3 ⟨v, rfl, hc3⟩
    have hs3 := hs1.call1 hc3
    obtain ⟨Av, cv, rfl, sov⟩ := ord_sl hc3
    refine ⟨_, rfl, ?_⟩
    refine l_r (r_move rfl) rfl ?_
    refine l_r (r_move rfl) rfl ?_
    refine l_call rfl rfl fk8 rfl (refOrder_any mode w3 (hx.on (by decide) hs3) (by omega)) ?_
    rintro _ w4 ⟨u, rfl, hc4⟩
    have hs4 := hs3.call1 hc4
    obtain ⟨Au, cu, rfl, sou⟩ := ord_sl hc4
    have sov := sov.on (by decide) hc4
    refine ⟨_, rfl, ?_⟩
    refine l_call rfl rfl fk6 rfl (same_any w4 sov sou) ?_
    rintro _ w5 ⟨rfl, hc5⟩
    rw [nums_eq]
    have hs5 := hs4.call0 hc5
    refine ⟨_, rfl, ?_⟩
    refine l_r (r_assign rfl) rfl ?_
    refine l_nil ?_
    refine s_seq ?_
    refine s_region ?_
    refine l_r (r_move rfl) rfl ?_
    refine l_r (r_move rfl) rfl ?_
    refine l_on (dj := 24) rfl rfl rfl ?_
    refine l_r (r_move rfl) rfl ?_
    refine l_on (dj := 24) rfl rfl rfl ?_
    refine l_r (r_move rfl) rfl ?_
    refine l_on (dj := 24) rfl rfl rfl ?_
    refine l_call rfl rfl fk9 rfl (pick_any sort_ok mode w5 (hx.on (by decide) hs5) (by omega)) ?_
    rintro _ w6 ⟨rfl, hc6⟩
    have hs6 := hs5.call0 hc6
    refine ⟨_, rfl, ?_⟩
    refine l_on (dj := 24) rfl rfl rfl ?_
    refine l_r (r_move rfl) rfl ?_
    refine l_on (dj := 24) rfl rfl rfl ?_
    refine l_r (r_move rfl) rfl ?_
    refine l_on (dj := 24) rfl rfl rfl ?_
    refine l_call rfl rfl fk10 rfl (refPick_any mode w6 (hx.on (by decide) hs6) (by omega)) ?_
    rintro _ w7 ⟨rfl, hc7⟩
    have hs7 := hs6.call0 hc7
    refine ⟨_, rfl, ?_⟩
    refine l_on (dj := 24) rfl rfl rfl ?_
    refine l_r (r_cmp rfl rfl (b := true) (congrArg some (beq_iff_eq.2 rfl))) rfl ?_
    refine l_r (r_pick_t rfl rfl) rfl ?_
    refine l_r (r_assign rfl) rfl ?_
    refine l_nil ?_
    refine s_ret ?_
    exact q_done (.inr rfl) (.tmp rfl .nil) ⟨rfl, hs7.nil⟩

set_option maxRecDepth 100000 in
theorem readyFirst_any {xs : List TProc} {A : Option Addr} {c : Nat} (w : World) {ok : Nat → Prop} (hx : Sl Kd.proc w ok A c xs) :
    Calls Try.prog 4 #[.slice A xs.length c] w (fun e w' => e = .returned (.bool true) ∧ St 0 w w' []) := by
  refine q_call (n := 109) (args := [.slice A xs.length c]) Try.func4 rfl rfl rfl ?_
  have hs0 := St.refl 0 w
  refine s_seq ?_
  refine s_region ?_
  refine l_r (r_assign rfl) rfl ?_
  refine l_nil ?_
  refine s_seq ?_
  refine s_region ?_
  refine l_call rfl rfl fk5 rfl (awake_any sort_ok w) ?_
  rintro _ w1 ⟨rfl, hc1⟩
  have hs1 := hs0.call0 hc1
  refine ⟨_, rfl, ?_⟩
  refine l_r (r_assign rfl) rfl ?_
  refine l_nil ?_
  refine s_seq ?_
  refine s_seq ?_
  refine s_region ?_
  refine l_r (r_move rfl) rfl ?_
  refine l_r (r_not rfl) rfl ?_
  refine l_r (r_move rfl) rfl ?_
  refine l_on (dj := 10) rfl rfl rfl ?_
  refine l_r (r_move rfl) rfl ?_
  refine l_on (dj := 10) rfl rfl rfl ?_
  refine l_r (r_len rfl el22) rfl ?_
  refine l_on (dj := 10) rfl rfl rfl ?_
  by_cases hc2 : (xs.length : Int) > 40
  ·
    refine l_r (r_cmp rfl rfl (b := true) (congrArg some (decide_eq_true hc2))) rfl ?_
    refine l_r (r_pick_f rfl rfl) rfl ?_
    refine l_nil ?_
    refine s_then rfl ?_
    refine s_seq ?_
    refine s_region ?_
    refine l_r (r_move rfl) rfl ?_
    refine l_r (r_assign rfl) rfl ?_
    refine l_nil ?_
    refine s_ret ?_
    exact q_done (.inr rfl) (.tmp rfl .nil) ⟨rfl, hs1.nil⟩
  ·
    refine l_r (r_cmp rfl rfl (b := false) (congrArg some (decide_eq_false hc2))) rfl ?_
    refine l_r (r_pick_f rfl rfl) rfl ?_
    refine l_nil ?_
    refine s_else rfl ?_
    refine s_skip ?_
    refine s_seq ?_
    refine s_region ?_
    refine l_r (r_move rfl) rfl ?_
    refine l_call rfl rfl fk9 rfl (pick_any sort_ok 2 w1 (hx.on (by decide) hs1) (by omega)) ?_
    rintro _ w3 ⟨rfl, hc3⟩
    have hs3 := hs1.call0 hc3
    have hps := pick_spec xs
    generalize pickI xs 2 = p at hps ⊢
    have hp0 : -1 ≤ p ∧ p < xs.length := by rcases hps with ⟨h, _⟩ | ⟨j, h, hj, _⟩ <;> omega
    refine ⟨_, rfl, ?_⟩
    refine l_r (r_assign rfl) rfl ?_
    refine l_nil ?_
    refine s_seq ?_
    refine s_seq ?_
    refine s_region ?_
    refine l_r (r_move rfl) rfl ?_
    refine l_r (r_cmp rfl rfl (b := false) (congrArg some (decide_eq_false (by omega)))) rfl ?_
    refine l_r (r_move rfl) rfl ?_
    refine l_on (dj := 20) rfl rfl rfl ?_
    refine l_r (r_move rfl) rfl ?_
    refine l_on (dj := 20) rfl rfl rfl ?_
    refine l_r (r_move rfl) rfl ?_
    refine l_on (dj := 20) rfl rfl rfl ?_
    refine l_r (r_len rfl el22) rfl ?_
    refine l_on (dj := 20) rfl rfl rfl ?_
    refine l_r (r_cmp rfl rfl (b := false) (congrArg some (decide_eq_false (by omega)))) rfl ?_
    refine l_r (r_pick_f rfl rfl) rfl ?_
    refine l_r (r_move rfl) rfl ?_
    refine l_on (dj := 26) rfl rfl rfl ?_
    refine l_r (r_move rfl) rfl ?_
    refine l_on (dj := 26) rfl rfl rfl ?_
    by_cases hc4 : p ≥ 0
    ·
      refine l_r (r_cmp rfl rfl (b := true) (congrArg some (decide_eq_true hc4))) rfl ?_
      obtain ⟨j, rfl, hj, hsj, huj, hmax⟩ := hps.resolve_left (fun h => by omega)
      obtain ⟨bj, oj, hAj, hcj⟩ := sl_proc hx hj
      refine l_on (dj := 26) rfl rfl rfl ?_
      refine l_r (r_move rfl) rfl ?_
      refine l_on (dj := 29) rfl rfl rfl ?_
      refine l_r (r_move rfl) rfl ?_
      refine l_on (dj := 29) rfl rfl rfl ?_
      refine l_r (r_move rfl) rfl ?_
      refine l_on (dj := 29) rfl rfl rfl ?_
      refine l_r (r_indexA rfl hAj rfl (by omega) (by omega) el22) rfl ?_
      refine l_on (dj := 29) rfl rfl rfl ?_
      refine l_r (r_field rfl fo33_0) rfl ?_
      refine l_on (dj := 29) rfl rfl rfl ?_
      refine l_r (r_load1 rfl ag3 ((hcj.on hs3).get (j := 0) rfl)) rfl ?_
      refine l_on (dj := 29) rfl rfl rfl ?_
      refine l_r (r_cmp rfl rfl (b := false) (congrArg some (bne_eq_false_iff_eq.2 hsj))) rfl ?_
      refine l_on (dj := 29) rfl rfl rfl ?_
      refine l_r (r_move rfl) rfl ?_
      refine l_on (dj := 36) rfl rfl rfl ?_
      refine l_r (r_move rfl) rfl ?_
      refine l_on (dj := 36) rfl rfl rfl ?_
      refine l_r (r_move rfl) rfl ?_
      refine l_on (dj := 36) rfl rfl rfl ?_
      refine l_r (r_indexA rfl hAj rfl (by omega) (by omega) el22) rfl ?_
      refine l_on (dj := 36) rfl rfl rfl ?_
      refine l_r (r_field rfl fo33_2) rfl ?_
      refine l_on (dj := 36) rfl rfl rfl ?_
      refine l_r (r_load1 (v := .bool false) rfl ag4 ((hcj.on hs3).get (j := 2) (congrArg (fun z => some (Value.bool z)) huj))) rfl ?_
      refine l_on (dj := 29) rfl rfl rfl ?_
      refine l_r (r_pick_f rfl rfl) rfl ?_
      refine l_on (dj := 26) rfl rfl rfl ?_
      refine l_r (r_pick_t rfl rfl) rfl ?_
      refine l_r (r_pick_f rfl rfl) rfl ?_
      refine l_nil ?_
      refine s_else rfl ?_
      refine s_skip ?_
      refine s_seq ?_
      refine s_seq ?_
      refine s_region ?_
      refine l_r (r_assign rfl) rfl ?_
      refine l_nil ?_
      refine s_block ?_
      refine s_loop (fun m L wl => ∃ (k : Nat), L = [(0, .slice A xs.length c), (4, .int .i64 (j : Int)), (5, .int .i64 ((k : Nat) : Int))] ∧ m = xs.length - k ∧ k ≤ xs.length ∧ Ext w wl) _ [(0, .slice A xs.length c), (4, .int .i64 (j : Int)), (5, .int .i64 ((0 : Nat) : Int))] (.cons rfl (.cons rfl (.cons rfl .nil))) ⟨0, rfl, rfl, ⟨Nat.zero_le _, hs3.toExt⟩⟩ ?_
      rintro _ _ w5 ⟨k, rfl, rfl, hk, hx5⟩
      have hs5 := (St.refl 0 w).ext hx5
      refine s_seq ?_
      refine s_seq ?_
      refine s_region ?_
      refine l_r (r_move rfl) rfl ?_
      refine l_r (r_move rfl) rfl ?_
      refine l_r (r_len rfl el22) rfl ?_
      by_cases hc6 : (k : Int) < (xs.length : Int)
      ·
        refine l_r (r_cmp rfl rfl (b := true) (congrArg some (decide_eq_true hc6))) rfl ?_
        have hkx : k < xs.length := by omega
        obtain ⟨bk, ok_, hAk, hck⟩ := sl_proc hx hkx
        refine l_nil ?_
        refine s_then rfl ?_
        refine s_skip ?_
        refine s_seq ?_
        refine s_block ?_
        refine s_seq ?_
        refine s_region ?_
        refine l_r (r_move rfl) rfl ?_
        refine l_r (r_move rfl) rfl ?_
        refine l_r (r_indexA rfl hAk rfl (by omega) (by omega) el22) rfl ?_
        refine l_r (r_field rfl fo33_0) rfl ?_
        refine l_r (r_load1 rfl ag3 ((hck.on hs5).get (j := 0) rfl)) rfl ?_
        by_cases hc7 : xs[k].State = 1
        ·
          refine l_r (r_cmp rfl rfl (b := true) (congrArg some (beq_iff_eq.2 hc7))) rfl ?_
          refine l_r (r_move rfl) rfl ?_
          refine l_on (dj := 57) rfl rfl rfl ?_
          refine l_r (r_move rfl) rfl ?_
          refine l_on (dj := 57) rfl rfl rfl ?_
          refine l_r (r_move rfl) rfl ?_
          refine l_on (dj := 57) rfl rfl rfl ?_
          refine l_r (r_indexA rfl hAk rfl (by omega) (by omega) el22) rfl ?_
          refine l_on (dj := 57) rfl rfl rfl ?_
          refine l_r (r_field rfl fo33_2) rfl ?_
          refine l_on (dj := 57) rfl rfl rfl ?_
          by_cases hc8 : xs[k].Suspended = true
          ·
            refine l_r (r_load1 (v := .bool true) rfl ag4 ((hck.on hs5).get (j := 2) (congrArg (fun z => some (Value.bool z)) (hc8)))) rfl ?_
            refine l_on (dj := 57) rfl rfl rfl ?_
            refine l_r (r_not rfl) rfl ?_
            refine l_r (r_pick_t rfl rfl) rfl ?_
            refine l_r (r_assign rfl) rfl ?_
            refine l_nil ?_
            refine s_seq ?_
            refine s_quiet (by kernel_rfl) (by kernel_rfl) ?_
            refine qq_r (fun w' hw' => r_move rfl) rfl ?_
            refine qq_r (fun w' hw' => r_move rfl) rfl ?_
            refine qq_off (dj := 66) (b := false) rfl rfl rfl rfl rfl ?_
            refine qq_off (dj := 66) (b := false) rfl rfl rfl rfl rfl ?_
            refine qq_off (dj := 66) (b := false) rfl rfl rfl rfl rfl ?_
            refine qq_offu (dj := 69) rfl rfl rfl rfl ?_
            refine qq_offu (dj := 69) rfl rfl rfl rfl ?_
            refine qq_offu (dj := 69) rfl rfl rfl rfl ?_
            refine qq_offu (dj := 69) rfl rfl rfl rfl ?_
            refine qq_offu (dj := 69) rfl rfl rfl rfl ?_
            refine qq_offu (dj := 69) rfl rfl rfl rfl ?_
            refine qq_offu (dj := 69) rfl rfl rfl rfl ?_
            refine qq_offu (dj := 69) rfl rfl rfl rfl ?_
            refine qq_offu (dj := 69) rfl rfl rfl rfl ?_
            refine qq_offu (dj := 69) rfl rfl rfl rfl ?_
            refine qq_offu (dj := 69) rfl rfl rfl rfl ?_
            refine qq_off (dj := 66) (b := false) rfl rfl rfl rfl rfl ?_
            refine qq_off (dj := 66) (b := false) rfl rfl rfl rfl rfl ?_
            refine qq_offu (dj := 82) rfl rfl rfl rfl ?_
            refine qq_offu (dj := 82) rfl rfl rfl rfl ?_
            refine qq_offu (dj := 82) rfl rfl rfl rfl ?_
            refine qq_offu (dj := 82) rfl rfl rfl rfl ?_
            refine qq_offu (dj := 82) rfl rfl rfl rfl ?_
            refine qq_offu (dj := 82) rfl rfl rfl rfl ?_
            refine qq_offu (dj := 82) rfl rfl rfl rfl ?_
            refine qq_offu (dj := 82) rfl rfl rfl rfl ?_
            refine qq_offu (dj := 82) rfl rfl rfl rfl ?_
            refine qq_offu (dj := 82) rfl rfl rfl rfl ?_
            refine qq_offu (dj := 82) rfl rfl rfl rfl ?_
            refine qq_offu (dj := 82) rfl rfl rfl rfl ?_
            refine qq_offu (dj := 94) rfl rfl rfl rfl ?_
            refine qq_offu (dj := 94) rfl rfl rfl rfl ?_
            refine qq_offu (dj := 94) rfl rfl rfl rfl ?_
            refine qq_offu (dj := 94) rfl rfl rfl rfl ?_
            refine qq_offu (dj := 94) rfl rfl rfl rfl ?_
            refine qq_offu (dj := 94) rfl rfl rfl rfl ?_
            refine qq_offu (dj := 94) rfl rfl rfl rfl ?_
            refine qq_offu (dj := 94) rfl rfl rfl rfl ?_
            refine qq_offu (dj := 94) rfl rfl rfl rfl ?_
            refine qq_offu (dj := 94) rfl rfl rfl rfl ?_
            refine qq_offu (dj := 94) rfl rfl rfl rfl ?_
            refine qq_offu (dj := 82) rfl rfl rfl rfl ?_
            refine qq_off (dj := 66) (b := false) rfl rfl rfl rfl rfl ?_
            refine qq_r (fun w' hw' => r_pick_f rfl rfl) rfl ?_
            refine qq_nil ?_
            intro w9 hx9
            have hs9 := hs5.ext hx9
            refine s_else rfl ?_
            refine s_skip ?_
            refine s_mark ?_
            refine s_region ?_
            refine l_r (r_move rfl) rfl ?_
            refine l_r (r_inc rfl (by omega)) rfl ?_
            refine l_r (r_assign rfl) rfl ?_
            refine l_nil ?_
            refine s_again ?_
            exact ⟨_, [(0, .slice A xs.length c), (4, .int .i64 (j : Int)), (5, .int .i64 (((k + 1) : Nat) : Int))], by omega, (.cons rfl (.cons rfl (.cons rfl .nil))), ⟨(k + 1), rfl, rfl, ⟨by omega, hs9.toExt⟩⟩⟩
          ·
            refine l_r (r_load1 (v := .bool false) rfl ag4 ((hck.on hs5).get (j := 2) (congrArg (fun z => some (Value.bool z)) (Bool.eq_false_iff.2 hc8)))) rfl ?_
            refine l_on (dj := 57) rfl rfl rfl ?_
            refine l_r (r_not rfl) rfl ?_
            refine l_r (r_pick_t rfl rfl) rfl ?_
            refine l_r (r_assign rfl) rfl ?_
            refine l_nil ?_
            refine s_seq ?_
            refine s_quiet (by kernel_rfl) (by kernel_rfl) ?_
            refine qq_r (fun w' hw' => r_move rfl) rfl ?_
            refine qq_r (fun w' hw' => r_move rfl) rfl ?_
            refine qq_on (dj := 66) rfl rfl rfl ?_
            refine qq_r (fun w' hw' => r_move rfl) rfl ?_
            refine qq_on (dj := 66) rfl rfl rfl ?_
            refine qq_r (fun w' hw' => r_cmp rfl rfl (b := false) (congrArg some (decide_eq_false (by omega)))) rfl ?_
            refine qq_on (dj := 66) rfl rfl rfl ?_
            refine qq_r (fun w' hw' => r_move rfl) rfl ?_
            refine qq_on (dj := 69) rfl rfl rfl ?_
            refine qq_r (fun w' hw' => r_move rfl) rfl ?_
            refine qq_on (dj := 69) rfl rfl rfl ?_
            refine qq_r (fun w' hw' => r_move rfl) rfl ?_
            refine qq_on (dj := 69) rfl rfl rfl ?_
            refine qq_r (fun w' hw' => r_indexA rfl hAk rfl (by omega) (by omega) el22) rfl ?_
            refine qq_on (dj := 69) rfl rfl rfl ?_
            refine qq_r (fun w' hw' => r_field rfl fo33_1) rfl ?_
            refine qq_on (dj := 69) rfl rfl rfl ?_
            refine qq_r (fun w' hw' => r_load1 rfl ag3 ((hck.on (hs5.ext hw')).get (j := 1) rfl)) rfl ?_
            refine qq_on (dj := 69) rfl rfl rfl ?_
            refine qq_r (fun w' hw' => r_move rfl) rfl ?_
            refine qq_on (dj := 69) rfl rfl rfl ?_
            refine qq_r (fun w' hw' => r_move rfl) rfl ?_
            refine qq_on (dj := 69) rfl rfl rfl ?_
            refine qq_r (fun w' hw' => r_indexA rfl hAj rfl (by omega) (by omega) el22) rfl ?_
            refine qq_on (dj := 69) rfl rfl rfl ?_
            refine qq_r (fun w' hw' => r_field rfl fo33_1) rfl ?_
            refine qq_on (dj := 69) rfl rfl rfl ?_
            refine qq_r (fun w' hw' => r_load1 rfl ag3 ((hcj.on (hs5.ext hw')).get (j := 1) rfl)) rfl ?_
            refine qq_on (dj := 69) rfl rfl rfl ?_
            refine qq_r (fun w' hw' => r_cmp rfl rfl (b := false) (congrArg some (decide_eq_false (hmax k hkx ‹_› (Bool.eq_false_iff.2 ‹_›)).1))) rfl ?_
            refine qq_on (dj := 66) rfl rfl rfl ?_
            refine qq_r (fun w' hw' => r_pick_f rfl rfl) rfl ?_
            refine qq_on (dj := 66) rfl rfl rfl ?_
            refine qq_r (fun w' hw' => r_move rfl) rfl ?_
            refine qq_on (dj := 82) rfl rfl rfl ?_
            refine qq_r (fun w' hw' => r_move rfl) rfl ?_
            refine qq_on (dj := 82) rfl rfl rfl ?_
            refine qq_r (fun w' hw' => r_move rfl) rfl ?_
            refine qq_on (dj := 82) rfl rfl rfl ?_
            refine qq_r (fun w' hw' => r_indexA rfl hAk rfl (by omega) (by omega) el22) rfl ?_
            refine qq_on (dj := 82) rfl rfl rfl ?_
            refine qq_r (fun w' hw' => r_field rfl fo33_1) rfl ?_
            refine qq_on (dj := 82) rfl rfl rfl ?_
            refine qq_r (fun w' hw' => r_load1 rfl ag3 ((hck.on (hs5.ext hw')).get (j := 1) rfl)) rfl ?_
            refine qq_on (dj := 82) rfl rfl rfl ?_
            refine qq_r (fun w' hw' => r_move rfl) rfl ?_
            refine qq_on (dj := 82) rfl rfl rfl ?_
            refine qq_r (fun w' hw' => r_move rfl) rfl ?_
            refine qq_on (dj := 82) rfl rfl rfl ?_
            refine qq_r (fun w' hw' => r_indexA rfl hAj rfl (by omega) (by omega) el22) rfl ?_
            refine qq_on (dj := 82) rfl rfl rfl ?_
            refine qq_r (fun w' hw' => r_field rfl fo33_1) rfl ?_
            refine qq_on (dj := 82) rfl rfl rfl ?_
            refine qq_r (fun w' hw' => r_load1 rfl ag3 ((hcj.on (hs5.ext hw')).get (j := 1) rfl)) rfl ?_
            refine qq_on (dj := 82) rfl rfl rfl ?_
            by_cases hc10 : xs[k].Prio = xs[j].Prio
            ·
              refine qq_r (fun w' hw' => r_cmp rfl rfl (b := true) (congrArg some (beq_iff_eq.2 hc10))) rfl ?_
              refine qq_on (dj := 82) rfl rfl rfl ?_
              refine qq_r (fun w' hw' => r_move rfl) rfl ?_
              refine qq_on (dj := 94) rfl rfl rfl ?_
              refine qq_r (fun w' hw' => r_move rfl) rfl ?_
              refine qq_on (dj := 94) rfl rfl rfl ?_
              refine qq_r (fun w' hw' => r_move rfl) rfl ?_
              refine qq_on (dj := 94) rfl rfl rfl ?_
              refine qq_r (fun w' hw' => r_indexA rfl hAk rfl (by omega) (by omega) el22) rfl ?_
              refine qq_on (dj := 94) rfl rfl rfl ?_
              refine qq_r (fun w' hw' => r_field rfl fo33_4) rfl ?_
              refine qq_on (dj := 94) rfl rfl rfl ?_
              refine qq_r (fun w' hw' => r_load1 rfl ag3 ((hck.on (hs5.ext hw')).get (j := 8) rfl)) rfl ?_
              refine qq_on (dj := 94) rfl rfl rfl ?_
              refine qq_r (fun w' hw' => r_move rfl) rfl ?_
              refine qq_on (dj := 94) rfl rfl rfl ?_
              refine qq_r (fun w' hw' => r_move rfl) rfl ?_
              refine qq_on (dj := 94) rfl rfl rfl ?_
              refine qq_r (fun w' hw' => r_indexA rfl hAj rfl (by omega) (by omega) el22) rfl ?_
              refine qq_on (dj := 94) rfl rfl rfl ?_
              refine qq_r (fun w' hw' => r_field rfl fo33_4) rfl ?_
              refine qq_on (dj := 94) rfl rfl rfl ?_
              refine qq_r (fun w' hw' => r_load1 rfl ag3 ((hcj.on (hs5.ext hw')).get (j := 8) rfl)) rfl ?_
              refine qq_on (dj := 94) rfl rfl rfl ?_
              refine qq_r (fun w' hw' => r_cmp rfl rfl (b := false) (congrArg some (decide_eq_false ((hmax k hkx ‹_› (Bool.eq_false_iff.2 ‹_›)).2 ‹_›)))) rfl ?_
              refine qq_on (dj := 82) rfl rfl rfl ?_
              refine qq_r (fun w' hw' => r_pick_t rfl rfl) rfl ?_
              refine qq_on (dj := 66) rfl rfl rfl ?_
              refine qq_r (fun w' hw' => r_pick_f rfl rfl) rfl ?_
              refine qq_r (fun w' hw' => r_pick_t rfl rfl) rfl ?_
              refine qq_nil ?_
              intro w11 hx11
              have hs11 := hs5.ext hx11
              refine s_else rfl ?_
              refine s_skip ?_
              refine s_mark ?_
              refine s_region ?_
              refine l_r (r_move rfl) rfl ?_
              refine l_r (r_inc rfl (by omega)) rfl ?_
              refine l_r (r_assign rfl) rfl ?_
              refine l_nil ?_
              refine s_again ?_
              exact ⟨_, [(0, .slice A xs.length c), (4, .int .i64 (j : Int)), (5, .int .i64 (((k + 1) : Nat) : Int))], by omega, (.cons rfl (.cons rfl (.cons rfl .nil))), ⟨(k + 1), rfl, rfl, ⟨by omega, hs11.toExt⟩⟩⟩
            ·
              refine qq_r (fun w' hw' => r_cmp rfl rfl (b := false) (congrArg some (beq_eq_false_iff_ne.2 hc10))) rfl ?_
              refine qq_on (dj := 82) rfl rfl rfl ?_
              refine qq_r (fun w' hw' => r_move rfl) rfl ?_
              refine qq_off (dj := 94) (b := false) rfl rfl rfl rfl rfl ?_
              refine qq_off (dj := 94) (b := false) rfl rfl rfl rfl rfl ?_
              refine qq_off (dj := 94) (b := false) rfl rfl rfl rfl rfl ?_
              refine qq_off (dj := 94) (b := false) rfl rfl rfl rfl rfl ?_
              refine qq_off (dj := 94) (b := false) rfl rfl rfl rfl rfl ?_
              refine qq_off (dj := 94) (b := false) rfl rfl rfl rfl rfl ?_
              refine qq_off (dj := 94) (b := false) rfl rfl rfl rfl rfl ?_
              refine qq_off (dj := 94) (b := false) rfl rfl rfl rfl rfl ?_
              refine qq_off (dj := 94) (b := false) rfl rfl rfl rfl rfl ?_
              refine qq_off (dj := 94) (b := false) rfl rfl rfl rfl rfl ?_
              refine qq_off (dj := 94) (b := false) rfl rfl rfl rfl rfl ?_
              refine qq_on (dj := 82) rfl rfl rfl ?_
              refine qq_r (fun w' hw' => r_pick_f rfl rfl) rfl ?_
              refine qq_on (dj := 66) rfl rfl rfl ?_
              refine qq_r (fun w' hw' => r_pick_f rfl rfl) rfl ?_
              refine qq_r (fun w' hw' => r_pick_t rfl rfl) rfl ?_
              refine qq_nil ?_
              intro w12 hx12
              have hs12 := hs5.ext hx12
              refine s_else rfl ?_
              refine s_skip ?_
              refine s_mark ?_
              refine s_region ?_
              refine l_r (r_move rfl) rfl ?_
              refine l_r (r_inc rfl (by omega)) rfl ?_
              refine l_r (r_assign rfl) rfl ?_
              refine l_nil ?_
              refine s_again ?_
              exact ⟨_, [(0, .slice A xs.length c), (4, .int .i64 (j : Int)), (5, .int .i64 (((k + 1) : Nat) : Int))], by omega, (.cons rfl (.cons rfl (.cons rfl .nil))), ⟨(k + 1), rfl, rfl, ⟨by omega, hs12.toExt⟩⟩⟩
        ·
          refine l_r (r_cmp rfl rfl (b := false) (congrArg some (beq_eq_false_iff_ne.2 hc7))) rfl ?_
          refine l_r (r_move rfl) rfl ?_
          refine l_off (dj := 57) (b := false) rfl rfl rfl rfl rfl ?_
          refine l_off (dj := 57) (b := false) rfl rfl rfl rfl rfl ?_
          refine l_off (dj := 57) (b := false) rfl rfl rfl rfl rfl ?_
          refine l_off (dj := 57) (b := false) rfl rfl rfl rfl rfl ?_
          refine l_off (dj := 57) (b := false) rfl rfl rfl rfl rfl ?_
          refine l_off (dj := 57) (b := false) rfl rfl rfl rfl rfl ?_
          refine l_r (r_pick_f rfl rfl) rfl ?_
          refine l_r (r_assign rfl) rfl ?_
          refine l_nil ?_
          refine s_seq ?_
          refine s_quiet (by kernel_rfl) (by kernel_rfl) ?_
          refine qq_r (fun w' hw' => r_move rfl) rfl ?_
          refine qq_r (fun w' hw' => r_move rfl) rfl ?_
          refine qq_off (dj := 66) (b := false) rfl rfl rfl rfl rfl ?_
          refine qq_off (dj := 66) (b := false) rfl rfl rfl rfl rfl ?_
          refine qq_off (dj := 66) (b := false) rfl rfl rfl rfl rfl ?_
          refine qq_offu (dj := 69) rfl rfl rfl rfl ?_
          refine qq_offu (dj := 69) rfl rfl rfl rfl ?_
          refine qq_offu (dj := 69) rfl rfl rfl rfl ?_
          refine qq_offu (dj := 69) rfl rfl rfl rfl ?_
          refine qq_offu (dj := 69) rfl rfl rfl rfl ?_
          refine qq_offu (dj := 69) rfl rfl rfl rfl ?_
          refine qq_offu (dj := 69) rfl rfl rfl rfl ?_
          refine qq_offu (dj := 69) rfl rfl rfl rfl ?_
          refine qq_offu (dj := 69) rfl rfl rfl rfl ?_
          refine qq_offu (dj := 69) rfl rfl rfl rfl ?_
          refine qq_offu (dj := 69) rfl rfl rfl rfl ?_
          refine qq_off (dj := 66) (b := false) rfl rfl rfl rfl rfl ?_
          refine qq_off (dj := 66) (b := false) rfl rfl rfl rfl rfl ?_
          refine qq_offu (dj := 82) rfl rfl rfl rfl ?_
          refine qq_offu (dj := 82) rfl rfl rfl rfl ?_
          refine qq_offu (dj := 82) rfl rfl rfl rfl ?_
          refine qq_offu (dj := 82) rfl rfl rfl rfl ?_
          refine qq_offu (dj := 82) rfl rfl rfl rfl ?_
          refine qq_offu (dj := 82) rfl rfl rfl rfl ?_
          refine qq_offu (dj := 82) rfl rfl rfl rfl ?_
          refine qq_offu (dj := 82) rfl rfl rfl rfl ?_
          refine qq_offu (dj := 82) rfl rfl rfl rfl ?_
          refine qq_offu (dj := 82) rfl rfl rfl rfl ?_
          refine qq_offu (dj := 82) rfl rfl rfl rfl ?_
          refine qq_offu (dj := 82) rfl rfl rfl rfl ?_
          refine qq_offu (dj := 94) rfl rfl rfl rfl ?_
          refine qq_offu (dj := 94) rfl rfl rfl rfl ?_
          refine qq_offu (dj := 94) rfl rfl rfl rfl ?_
          refine qq_offu (dj := 94) rfl rfl rfl rfl ?_
          refine qq_offu (dj := 94) rfl rfl rfl rfl ?_
          refine qq_offu (dj := 94) rfl rfl rfl rfl ?_
          refine qq_offu (dj := 94) rfl rfl rfl rfl ?_
          refine qq_offu (dj := 94) rfl rfl rfl rfl ?_
          refine qq_offu (dj := 94) rfl rfl rfl rfl ?_
          refine qq_offu (dj := 94) rfl rfl rfl rfl ?_
          refine qq_offu (dj := 94) rfl rfl rfl rfl ?_
          refine qq_offu (dj := 82) rfl rfl rfl rfl ?_
          refine qq_off (dj := 66) (b := false) rfl rfl rfl rfl rfl ?_
          refine qq_r (fun w' hw' => r_pick_f rfl rfl) rfl ?_
          refine qq_nil ?_
          intro w14 hx14
          have hs14 := hs5.ext hx14
          refine s_else rfl ?_
          refine s_skip ?_
          refine s_mark ?_
          refine s_region ?_
          refine l_r (r_move rfl) rfl ?_
          refine l_r (r_inc rfl (by omega)) rfl ?_
          refine l_r (r_assign rfl) rfl ?_
          refine l_nil ?_
          refine s_again ?_
          exact ⟨_, [(0, .slice A xs.length c), (4, .int .i64 (j : Int)), (5, .int .i64 (((k + 1) : Nat) : Int))], by omega, (.cons rfl (.cons rfl (.cons rfl .nil))), ⟨(k + 1), rfl, rfl, ⟨by omega, hs14.toExt⟩⟩⟩
      ·
        refine l_r (r_cmp rfl rfl (b := false) (congrArg some (decide_eq_false hc6))) rfl ?_
        refine l_nil ?_
        refine s_else rfl ?_
        refine s_exit rfl ?_
        refine s_seq ?_
        refine s_region ?_
        refine l_r (r_assign rfl) rfl ?_
        refine l_nil ?_
        refine s_ret ?_
        exact q_done (.inr rfl) (.tmp rfl .nil) ⟨rfl, hs5.nil⟩
    ·
      refine l_r (r_cmp rfl rfl (b := false) (congrArg some (decide_eq_false hc4))) rfl ?_
      obtain ⟨rfl, hnone⟩ := hps.resolve_right (fun ⟨j, h, _⟩ => by omega)
      refine l_on (dj := 26) rfl rfl rfl ?_
      refine l_r (r_move rfl) rfl ?_
      refine l_off (dj := 29) (b := false) rfl rfl rfl rfl rfl ?_
      refine l_off (dj := 29) (b := false) rfl rfl rfl rfl rfl ?_
      refine l_off (dj := 29) (b := false) rfl rfl rfl rfl rfl ?_
      refine l_off (dj := 29) (b := false) rfl rfl rfl rfl rfl ?_
      refine l_off (dj := 29) (b := false) rfl rfl rfl rfl rfl ?_
      refine l_off (dj := 29) (b := false) rfl rfl rfl rfl rfl ?_
      refine l_off (dj := 29) (b := false) rfl rfl rfl rfl rfl ?_
      refine l_offu (dj := 36) rfl rfl rfl rfl ?_
      refine l_offu (dj := 36) rfl rfl rfl rfl ?_
      refine l_offu (dj := 36) rfl rfl rfl rfl ?_
      refine l_offu (dj := 36) rfl rfl rfl rfl ?_
      refine l_offu (dj := 36) rfl rfl rfl rfl ?_
      refine l_off (dj := 29) (b := false) rfl rfl rfl rfl rfl ?_
      refine l_on (dj := 26) rfl rfl rfl ?_
      refine l_r (r_pick_f rfl rfl) rfl ?_
      refine l_r (r_pick_f rfl rfl) rfl ?_
      refine l_nil ?_
      refine s_else rfl ?_
      refine s_skip ?_
      refine s_seq ?_
      refine s_seq ?_
      refine s_region ?_
      refine l_r (r_assign rfl) rfl ?_
      refine l_nil ?_
      refine s_block ?_
      refine s_loop (fun m L wl => ∃ (k : Nat), L = [(0, .slice A xs.length c), (4, .int .i64 (-1)), (5, .int .i64 ((k : Nat) : Int))] ∧ m = xs.length - k ∧ k ≤ xs.length ∧ Ext w wl) _ [(0, .slice A xs.length c), (4, .int .i64 (-1)), (5, .int .i64 ((0 : Nat) : Int))] (.cons rfl (.cons rfl (.cons rfl .nil))) ⟨0, rfl, rfl, ⟨Nat.zero_le _, hs3.toExt⟩⟩ ?_
      rintro _ _ w15 ⟨k, rfl, rfl, hk, hx15⟩
      have hs15 := (St.refl 0 w).ext hx15
      refine s_seq ?_
      refine s_seq ?_
      refine s_region ?_
      refine l_r (r_move rfl) rfl ?_
      refine l_r (r_move rfl) rfl ?_
      refine l_r (r_len rfl el22) rfl ?_
      by_cases hc16 : (k : Int) < (xs.length : Int)
      ·
        refine l_r (r_cmp rfl rfl (b := true) (congrArg some (decide_eq_true hc16))) rfl ?_
        have hkx : k < xs.length := by omega
        obtain ⟨bk, ok_, hAk, hck⟩ := sl_proc hx hkx
        refine l_nil ?_
        refine s_then rfl ?_
        refine s_skip ?_
        refine s_seq ?_
        refine s_block ?_
        refine s_seq ?_
        refine s_region ?_
        refine l_r (r_move rfl) rfl ?_
        refine l_r (r_move rfl) rfl ?_
        refine l_r (r_indexA rfl hAk rfl (by omega) (by omega) el22) rfl ?_
        refine l_r (r_field rfl fo33_0) rfl ?_
        refine l_r (r_load1 rfl ag3 ((hck.on hs15).get (j := 0) rfl)) rfl ?_
        by_cases hc17 : xs[k].State = 1
        ·
          refine l_r (r_cmp rfl rfl (b := true) (congrArg some (beq_iff_eq.2 hc17))) rfl ?_
          refine l_r (r_move rfl) rfl ?_
          refine l_on (dj := 57) rfl rfl rfl ?_
          refine l_r (r_move rfl) rfl ?_
          refine l_on (dj := 57) rfl rfl rfl ?_
          refine l_r (r_move rfl) rfl ?_
          refine l_on (dj := 57) rfl rfl rfl ?_
          refine l_r (r_indexA rfl hAk rfl (by omega) (by omega) el22) rfl ?_
          refine l_on (dj := 57) rfl rfl rfl ?_
          refine l_r (r_field rfl fo33_2) rfl ?_
          refine l_on (dj := 57) rfl rfl rfl ?_
          by_cases hc18 : xs[k].Suspended = true
          ·
            refine l_r (r_load1 (v := .bool true) rfl ag4 ((hck.on hs15).get (j := 2) (congrArg (fun z => some (Value.bool z)) (hc18)))) rfl ?_
            refine l_on (dj := 57) rfl rfl rfl ?_
            refine l_r (r_not rfl) rfl ?_
            refine l_r (r_pick_t rfl rfl) rfl ?_
            refine l_r (r_assign rfl) rfl ?_
            refine l_nil ?_
            refine s_seq ?_
            refine s_quiet (by kernel_rfl) (by kernel_rfl) ?_
            refine qq_r (fun w' hw' => r_move rfl) rfl ?_
            refine qq_r (fun w' hw' => r_move rfl) rfl ?_
            refine qq_off (dj := 66) (b := false) rfl rfl rfl rfl rfl ?_
            refine qq_off (dj := 66) (b := false) rfl rfl rfl rfl rfl ?_
            refine qq_off (dj := 66) (b := false) rfl rfl rfl rfl rfl ?_
            refine qq_offu (dj := 69) rfl rfl rfl rfl ?_
            refine qq_offu (dj := 69) rfl rfl rfl rfl ?_
            refine qq_offu (dj := 69) rfl rfl rfl rfl ?_
            refine qq_offu (dj := 69) rfl rfl rfl rfl ?_
            refine qq_offu (dj := 69) rfl rfl rfl rfl ?_
            refine qq_offu (dj := 69) rfl rfl rfl rfl ?_
            refine qq_offu (dj := 69) rfl rfl rfl rfl ?_
            refine qq_offu (dj := 69) rfl rfl rfl rfl ?_
            refine qq_offu (dj := 69) rfl rfl rfl rfl ?_
            refine qq_offu (dj := 69) rfl rfl rfl rfl ?_
            refine qq_offu (dj := 69) rfl rfl rfl rfl ?_
            refine qq_off (dj := 66) (b := false) rfl rfl rfl rfl rfl ?_
            refine qq_off (dj := 66) (b := false) rfl rfl rfl rfl rfl ?_
            refine qq_offu (dj := 82) rfl rfl rfl rfl ?_
            refine qq_offu (dj := 82) rfl rfl rfl rfl ?_
            refine qq_offu (dj := 82) rfl rfl rfl rfl ?_
            refine qq_offu (dj := 82) rfl rfl rfl rfl ?_
            refine qq_offu (dj := 82) rfl rfl rfl rfl ?_
            refine qq_offu (dj := 82) rfl rfl rfl rfl ?_
            refine qq_offu (dj := 82) rfl rfl rfl rfl ?_
            refine qq_offu (dj := 82) rfl rfl rfl rfl ?_
            refine qq_offu (dj := 82) rfl rfl rfl rfl ?_
            refine qq_offu (dj := 82) rfl rfl rfl rfl ?_
            refine qq_offu (dj := 82) rfl rfl rfl rfl ?_
            refine qq_offu (dj := 82) rfl rfl rfl rfl ?_
            refine qq_offu (dj := 94) rfl rfl rfl rfl ?_
            refine qq_offu (dj := 94) rfl rfl rfl rfl ?_
            refine qq_offu (dj := 94) rfl rfl rfl rfl ?_
            refine qq_offu (dj := 94) rfl rfl rfl rfl ?_
            refine qq_offu (dj := 94) rfl rfl rfl rfl ?_
            refine qq_offu (dj := 94) rfl rfl rfl rfl ?_
            refine qq_offu (dj := 94) rfl rfl rfl rfl ?_
            refine qq_offu (dj := 94) rfl rfl rfl rfl ?_
            refine qq_offu (dj := 94) rfl rfl rfl rfl ?_
            refine qq_offu (dj := 94) rfl rfl rfl rfl ?_
            refine qq_offu (dj := 94) rfl rfl rfl rfl ?_
            refine qq_offu (dj := 82) rfl rfl rfl rfl ?_
            refine qq_off (dj := 66) (b := false) rfl rfl rfl rfl rfl ?_
            refine qq_r (fun w' hw' => r_pick_f rfl rfl) rfl ?_
            refine qq_nil ?_
            intro w19 hx19
            have hs19 := hs15.ext hx19
            refine s_else rfl ?_
            refine s_skip ?_
            refine s_mark ?_
            refine s_region ?_
            refine l_r (r_move rfl) rfl ?_
            refine l_r (r_inc rfl (by omega)) rfl ?_
            refine l_r (r_assign rfl) rfl ?_
            refine l_nil ?_
            refine s_again ?_
            exact ⟨_, [(0, .slice A xs.length c), (4, .int .i64 (-1)), (5, .int .i64 (((k + 1) : Nat) : Int))], by omega, (.cons rfl (.cons rfl (.cons rfl .nil))), ⟨(k + 1), rfl, rfl, ⟨by omega, hs19.toExt⟩⟩⟩
          ·
            refine l_r (r_load1 (v := .bool false) rfl ag4 ((hck.on hs15).get (j := 2) (congrArg (fun z => some (Value.bool z)) (Bool.eq_false_iff.2 hc18)))) rfl ?_
            exact absurd ⟨‹_›, Bool.eq_false_iff.2 ‹_›⟩ (hnone k hkx)
        ·
          refine l_r (r_cmp rfl rfl (b := false) (congrArg some (beq_eq_false_iff_ne.2 hc17))) rfl ?_
          refine l_r (r_move rfl) rfl ?_
          refine l_off (dj := 57) (b := false) rfl rfl rfl rfl rfl ?_
          refine l_off (dj := 57) (b := false) rfl rfl rfl rfl rfl ?_
          refine l_off (dj := 57) (b := false) rfl rfl rfl rfl rfl ?_
          refine l_off (dj := 57) (b := false) rfl rfl rfl rfl rfl ?_
          refine l_off (dj := 57) (b := false) rfl rfl rfl rfl rfl ?_
          refine l_off (dj := 57) (b := false) rfl rfl rfl rfl rfl ?_
          refine l_r (r_pick_f rfl rfl) rfl ?_
          refine l_r (r_assign rfl) rfl ?_
          refine l_nil ?_
          refine s_seq ?_
          refine s_quiet (by kernel_rfl) (by kernel_rfl) ?_
          refine qq_r (fun w' hw' => r_move rfl) rfl ?_
          refine qq_r (fun w' hw' => r_move rfl) rfl ?_
          refine qq_off (dj := 66) (b := false) rfl rfl rfl rfl rfl ?_
          refine qq_off (dj := 66) (b := false) rfl rfl rfl rfl rfl ?_
          refine qq_off (dj := 66) (b := false) rfl rfl rfl rfl rfl ?_
          refine qq_offu (dj := 69) rfl rfl rfl rfl ?_
          refine qq_offu (dj := 69) rfl rfl rfl rfl ?_
          refine qq_offu (dj := 69) rfl rfl rfl rfl ?_
          refine qq_offu (dj := 69) rfl rfl rfl rfl ?_
          refine qq_offu (dj := 69) rfl rfl rfl rfl ?_
          refine qq_offu (dj := 69) rfl rfl rfl rfl ?_
          refine qq_offu (dj := 69) rfl rfl rfl rfl ?_
          refine qq_offu (dj := 69) rfl rfl rfl rfl ?_
          refine qq_offu (dj := 69) rfl rfl rfl rfl ?_
          refine qq_offu (dj := 69) rfl rfl rfl rfl ?_
          refine qq_offu (dj := 69) rfl rfl rfl rfl ?_
          refine qq_off (dj := 66) (b := false) rfl rfl rfl rfl rfl ?_
          refine qq_off (dj := 66) (b := false) rfl rfl rfl rfl rfl ?_
          refine qq_offu (dj := 82) rfl rfl rfl rfl ?_
          refine qq_offu (dj := 82) rfl rfl rfl rfl ?_
          refine qq_offu (dj := 82) rfl rfl rfl rfl ?_
          refine qq_offu (dj := 82) rfl rfl rfl rfl ?_
          refine qq_offu (dj := 82) rfl rfl rfl rfl ?_
          refine qq_offu (dj := 82) rfl rfl rfl rfl ?_
          refine qq_offu (dj := 82) rfl rfl rfl rfl ?_
          refine qq_offu (dj := 82) rfl rfl rfl rfl ?_
          refine qq_offu (dj := 82) rfl rfl rfl rfl ?_
          refine qq_offu (dj := 82) rfl rfl rfl rfl ?_
          refine qq_offu (dj := 82) rfl rfl rfl rfl ?_
          refine qq_offu (dj := 82) rfl rfl rfl rfl ?_
          refine qq_offu (dj := 94) rfl rfl rfl rfl ?_
          refine qq_offu (dj := 94) rfl rfl rfl rfl ?_
          refine qq_offu (dj := 94) rfl rfl rfl rfl ?_
          refine qq_offu (dj := 94) rfl rfl rfl rfl ?_
          refine qq_offu (dj := 94) rfl rfl rfl rfl ?_
          refine qq_offu (dj := 94) rfl rfl rfl rfl ?_
          refine qq_offu (dj := 94) rfl rfl rfl rfl ?_
          refine qq_offu (dj := 94) rfl rfl rfl rfl ?_
          refine qq_offu (dj := 94) rfl rfl rfl rfl ?_
          refine qq_offu (dj := 94) rfl rfl rfl rfl ?_
          refine qq_offu (dj := 94) rfl rfl rfl rfl ?_
          refine qq_offu (dj := 82) rfl rfl rfl rfl ?_
          refine qq_off (dj := 66) (b := false) rfl rfl rfl rfl rfl ?_
          refine qq_r (fun w' hw' => r_pick_f rfl rfl) rfl ?_
          refine qq_nil ?_
          intro w21 hx21
          have hs21 := hs15.ext hx21
          refine s_else rfl ?_
          refine s_skip ?_
          refine s_mark ?_
          refine s_region ?_
          refine l_r (r_move rfl) rfl ?_
          refine l_r (r_inc rfl (by omega)) rfl ?_
          refine l_r (r_assign rfl) rfl ?_
          refine l_nil ?_
          refine s_again ?_
          exact ⟨_, [(0, .slice A xs.length c), (4, .int .i64 (-1)), (5, .int .i64 (((k + 1) : Nat) : Int))], by omega, (.cons rfl (.cons rfl (.cons rfl .nil))), ⟨(k + 1), rfl, rfl, ⟨by omega, hs21.toExt⟩⟩⟩
      ·
        refine l_r (r_cmp rfl rfl (b := false) (congrArg some (decide_eq_false hc16))) rfl ?_
        refine l_nil ?_
        refine s_else rfl ?_
        refine s_exit rfl ?_
        refine s_seq ?_
        refine s_region ?_
        refine l_r (r_assign rfl) rfl ?_
        refine l_nil ?_
        refine s_ret ?_
        exact q_done (.inr rfl) (.tmp rfl .nil) ⟨rfl, hs15.nil⟩

end Go.Proofs.Ytcapkhhflhpnpaa
