/- The document's search walked. -/
import Derived.Test.YtcapkhhflhpnpaaWe
namespace Go.Proofs.Ytcapkhhflhpnpaa
open Go.RowKit
theorem told_false {n k : Nat} {out : List Nat} (hk : k < n) (h : ¬ (toldOf n out)[k]? = some true) : (toldOf n out)[k]? = some false := by
  rw [toldOf_get hk] at h ⊢
  simpa using h
theorem Best.nat {xs : List TProc} {mode : Int} {told : List Bool} {k : Nat} {b : Int} (h : Best xs mode told k b) (hb : ¬ b < 0) : ∃ j : Nat, b = (j : Int) ∧ j < xs.length := by
  rcases h with ⟨rfl, _⟩ | ⟨j, rfl, _, hj, _⟩
  · omega
  · exact ⟨j, rfl, hj⟩
theorem told_len (n : Nat) (out : List Nat) : (toldOf n out).length = n := by simp [toldOf]
theorem told_set (n j : Nat) (out : List Nat) : ((toldOf n out).map Value.bool).set (0 + (j : Int).toNat * 1) (.bool true) = (toldOf n (out ++ [j])).map Value.bool := by
  rw [← toldOf_snoc]; simp

theorem ordL_len (xs : List TProc) (mode : Int) : (ordL xs mode).length ≤ xs.length := by
  have h1 := candN_len xs (mostN xs.length mode)
  have h2 := mostN_le xs.length mode
  have h3 : (ordL xs mode).length = (candN xs (mostN xs.length mode)).length := by simp [ordL]
  omega

set_option maxRecDepth 100000 in
theorem refOrder_any {xs : List TProc} {A : Option Addr} {c : Nat} (mode : Int) (w : World) {ok : Nat → Prop} (hx : Sl Kd.proc w ok A c xs) (hb : xs.length ≤ 1000) :
    Calls Try.prog 8 #[.slice A xs.length c, .int .i64 mode] w (fun e w' => ∃ v, e = .returned v ∧ St 0 w w' [.row w.heap.size 3 1 v (ordL xs mode).length (idx (ordL xs mode))]) := by
  refine q_call (n := 51) (args := [.slice A xs.length c, .int .i64 mode]) Try.func8 rfl rfl rfl ?_
  have hs0 := St.refl 0 w
  have hlx := hx.len
  have hxc := hx.1
  refine s_seq ?_
  refine s_region ?_
  refine l_r (r_assign rfl) rfl ?_
  refine l_nil ?_
  refine s_seq ?_
  refine s_region ?_
  refine l_r (r_assign rfl) rfl ?_
  refine l_nil ?_
  refine s_seq ?_
  refine s_region ?_
  refine l_r (r_move rfl) rfl ?_
  refine l_r (r_len rfl el22) rfl ?_
  refine l_make (m := xs.length) rfl rfl Try.underlying38 rw4 rfl (by omega) (by omega) rfl hs0 ?_
  intro w1 b13 hb13 hx1 hs1
  refine l_r (r_assign rfl) rfl ?_
  refine l_nil ?_
  refine s_block ?_
  refine s_loop (fun m L wl => ∃ (out : List Nat) (v : Value), L = [(0, .slice A xs.length c), (1, .int .i64 mode), (5, v), (6, .slice (some ⟨b13, 0, none⟩) xs.length xs.length)] ∧ m = (ordL xs mode).length - out.length ∧ (∃ rest, ordL xs mode = out ++ rest) ∧ St 0 w wl [.row w.heap.size 3 1 v out.length (idx out), .pt b13 ((toldOf xs.length out).map Value.bool) 4]) _ [(0, .slice A xs.length c), (1, .int .i64 mode), (5, .slice none 0 0), (6, .slice (some ⟨b13, 0, none⟩) xs.length xs.length)] (.cons rfl (.cons rfl (.cons rfl (.cons rfl .nil)))) ⟨[], .slice none 0 0, rfl, rfl, ⟨⟨_, rfl⟩, by rw [toldOf_nil, List.map_replicate]; exact hs1.nil_row _ _ _⟩⟩ ?_
  rintro _ _ w2 ⟨out, v, rfl, rfl, ⟨rest, hS⟩, hs2⟩
  refine s_block ?_
  refine s_seq ?_
  refine s_region ?_
  refine l_r (r_assign rfl) rfl ?_
  refine l_nil ?_
  refine s_seq ?_
  refine s_seq ?_
  refine s_region ?_
  refine l_r (r_assign rfl) rfl ?_
  refine l_nil ?_
  refine s_block ?_
  refine s_loop (fun m L wl => ∃ (k : Nat) (b : Int), L = [(0, .slice A xs.length c), (1, .int .i64 mode), (5, v), (6, .slice (some ⟨b13, 0, none⟩) xs.length xs.length), (7, .int .i64 (b)), (8, .int .i64 ((k : Nat) : Int))] ∧ m = xs.length - k ∧ k ≤ xs.length ∧ Best xs mode (toldOf xs.length out) k b ∧ St 0 w wl [.row w.heap.size 3 1 v out.length (idx out), .pt b13 ((toldOf xs.length out).map Value.bool) 4]) _ [(0, .slice A xs.length c), (1, .int .i64 mode), (5, v), (6, .slice (some ⟨b13, 0, none⟩) xs.length xs.length), (7, .int .i64 (-1)), (8, .int .i64 ((0 : Nat) : Int))] (.cons rfl (.cons rfl (.cons rfl (.cons rfl (.cons rfl (.cons rfl .nil)))))) ⟨0, -1, rfl, rfl, ⟨Nat.zero_le _, Best.zero _ _ _, hs2⟩⟩ ?_
  rintro _ _ w3 ⟨k, b, rfl, rfl, hk, hbest, hs3⟩
  refine s_seq ?_
  refine s_seq ?_
  refine s_region ?_
  refine l_r (r_move rfl) rfl ?_
  refine l_r (r_move rfl) rfl ?_
  refine l_r (r_len rfl el22) rfl ?_
  by_cases hc4 : (k : Int) < (xs.length : Int)
  ·
    refine l_r (r_cmp rfl rfl (b := true) (congrArg some (decide_eq_true hc4))) rfl ?_
    have hkx : k < xs.length := by omega
    obtain ⟨b', o', hA, hck⟩ := sl_proc hx hkx
    refine l_nil ?_
    refine s_then rfl ?_
    refine s_skip ?_
    refine s_seq ?_
    refine s_block ?_
    refine s_seq ?_
    refine s_region ?_
    refine l_r (r_move rfl) rfl ?_
    refine l_r (r_move rfl) rfl ?_
    refine l_r (r_move rfl) rfl ?_
    refine l_call rfl rfl fk15 rfl (could_anyA hA k mode w3 hkx (hck.on hs3)) ?_
    rintro _ _ ⟨rfl, rfl⟩
    refine ⟨_, rfl, ?_⟩
    refine l_r (r_assign rfl) rfl ?_
    refine l_nil ?_
    refine s_seq ?_
    refine s_seq ?_
    refine s_region ?_
    refine l_r (r_move rfl) rfl ?_
    refine l_r (r_move rfl) rfl ?_
    refine l_r (r_index rfl rfl (by omega) (by omega) el38) rfl ?_
    by_cases hc5 : (toldOf xs.length out)[k]? = some true
    ·
      refine l_r (r_load1p rfl hs3 (Repl.there Repl.here) ag4 (v := .bool true) (told_get hc5)) rfl ?_
      refine l_r (r_move rfl) rfl ?_
      refine l_off (dj := 28) (b := true) rfl rfl rfl rfl rfl ?_
      refine l_off (dj := 28) (b := true) rfl rfl rfl rfl rfl ?_
      refine l_r (r_pick_t rfl rfl) rfl ?_
      refine l_nil ?_
      refine s_then rfl ?_
      refine s_exit rfl ?_
      refine s_region ?_
      refine l_r (r_move rfl) rfl ?_
      refine l_r (r_inc rfl (by omega)) rfl ?_
      refine l_r (r_assign rfl) rfl ?_
      refine l_nil ?_
      refine s_again ?_
      exact ⟨_, [(0, .slice A xs.length c), (1, .int .i64 mode), (5, v), (6, .slice (some ⟨b13, 0, none⟩) xs.length xs.length), (7, .int .i64 (b)), (8, .int .i64 (((k + 1) : Nat) : Int))], by omega, (.cons rfl (.cons rfl (.cons rfl (.cons rfl (.cons rfl (.cons rfl .nil)))))), ⟨(k + 1), b, rfl, rfl, ⟨by omega, hbest.skip hkx (fun _ => hc5), hs3⟩⟩⟩
    ·
      refine l_r (r_load1p rfl hs3 (Repl.there Repl.here) ag4 (v := .bool false) (told_get (told_false hkx hc5))) rfl ?_
      refine l_r (r_move rfl) rfl ?_
      refine l_on (dj := 28) rfl rfl rfl ?_
      refine l_r (r_move rfl) rfl ?_
      refine l_on (dj := 28) rfl rfl rfl ?_
      refine l_r (r_not rfl) rfl ?_
      refine l_r (r_pick_f rfl rfl) rfl ?_
      refine l_nil ?_
      refine s_cond rfl (fun hcc31 => ?_) (fun hcc31 => ?_)
      ·
        refine s_exit rfl ?_
        refine s_region ?_
        refine l_r (r_move rfl) rfl ?_
        refine l_r (r_inc rfl (by omega)) rfl ?_
        refine l_r (r_assign rfl) rfl ?_
        refine l_nil ?_
        refine s_again ?_
        exact ⟨_, [(0, .slice A xs.length c), (1, .int .i64 mode), (5, v), (6, .slice (some ⟨b13, 0, none⟩) xs.length xs.length), (7, .int .i64 (b)), (8, .int .i64 (((k + 1) : Nat) : Int))], by omega, (.cons rfl (.cons rfl (.cons rfl (.cons rfl (.cons rfl (.cons rfl .nil)))))), ⟨(k + 1), b, rfl, rfl, ⟨by omega, hbest.skip hkx (fun h => by simp [h] at hcc31), hs3⟩⟩⟩
      ·
        refine s_skip ?_
        refine s_seq ?_
        refine s_seq ?_
        refine s_region ?_
        refine l_r (r_move rfl) rfl ?_
        by_cases hc7 : b < 0
        ·
          refine l_r (r_cmp rfl rfl (b := true) (congrArg some (decide_eq_true hc7))) rfl ?_
          refine l_nil ?_
          refine s_then rfl ?_
          refine s_seq ?_
          refine s_region ?_
          refine l_r (r_move rfl) rfl ?_
          refine l_r (r_assign rfl) rfl ?_
          refine l_nil ?_
          refine s_exit rfl ?_
          refine s_region ?_
          refine l_r (r_move rfl) rfl ?_
          refine l_r (r_inc rfl (by omega)) rfl ?_
          refine l_r (r_assign rfl) rfl ?_
          refine l_nil ?_
          refine s_again ?_
          exact ⟨_, [(0, .slice A xs.length c), (1, .int .i64 mode), (5, v), (6, .slice (some ⟨b13, 0, none⟩) xs.length xs.length), (7, .int .i64 ((k : Int))), (8, .int .i64 (((k + 1) : Nat) : Int))], by omega, (.cons rfl (.cons rfl (.cons rfl (.cons rfl (.cons rfl (.cons rfl .nil)))))), ⟨(k + 1), (k : Int), rfl, rfl, ⟨by omega, hbest.first hc7 hkx (by simpa using hcc31) (told_false hkx hc5), hs3⟩⟩⟩
        ·
          refine l_r (r_cmp rfl rfl (b := false) (congrArg some (decide_eq_false hc7))) rfl ?_
          obtain ⟨j, rfl, hjx⟩ := hbest.nat ‹_›
          obtain ⟨b2, o2, hA2, hcj⟩ := sl_proc hx hjx
          refine l_nil ?_
          refine s_else rfl ?_
          refine s_skip ?_
          refine s_seq ?_
          refine s_region ?_
          refine l_r (r_move rfl) rfl ?_
          refine l_r (r_move rfl) rfl ?_
          refine l_r (r_move rfl) rfl ?_
          refine l_call rfl rfl fk16 rfl (ahead_anyA hA hA2 k j w3 hkx hjx (hck.on hs3) (hcj.on hs3)) ?_
          rintro _ w8 ⟨rfl, hcl8⟩
          have hs8 := hs3.call0 hcl8
          refine ⟨_, rfl, ?_⟩
          refine l_r (r_assign rfl) rfl ?_
          refine l_nil ?_
          refine s_seq ?_
          refine s_region ?_
          refine l_r (r_move rfl) rfl ?_
          refine l_nil ?_
          refine s_cond rfl (fun hcc39 => ?_) (fun hcc39 => ?_)
          ·
            refine s_region ?_
            refine l_r (r_move rfl) rfl ?_
            refine l_r (r_assign rfl) rfl ?_
            refine l_nil ?_
            refine s_mark ?_
            refine s_region ?_
            refine l_r (r_move rfl) rfl ?_
            refine l_r (r_inc rfl (by omega)) rfl ?_
            refine l_r (r_assign rfl) rfl ?_
            refine l_nil ?_
            refine s_again ?_
            exact ⟨_, [(0, .slice A xs.length c), (1, .int .i64 mode), (5, v), (6, .slice (some ⟨b13, 0, none⟩) xs.length xs.length), (7, .int .i64 ((k : Int))), (8, .int .i64 (((k + 1) : Nat) : Int))], by omega, (.cons rfl (.cons rfl (.cons rfl (.cons rfl (.cons rfl (.cons rfl .nil)))))), ⟨(k + 1), (k : Int), rfl, rfl, ⟨by omega, hbest.take hkx (by simpa using hcc31) (told_false hkx hc5) hcc39 (fun i h => ahead_trans hcc39 h), hs8⟩⟩⟩
          ·
            refine s_skip ?_
            refine s_mark ?_
            refine s_region ?_
            refine l_r (r_move rfl) rfl ?_
            refine l_r (r_inc rfl (by omega)) rfl ?_
            refine l_r (r_assign rfl) rfl ?_
            refine l_nil ?_
            refine s_again ?_
            exact ⟨_, [(0, .slice A xs.length c), (1, .int .i64 mode), (5, v), (6, .slice (some ⟨b13, 0, none⟩) xs.length xs.length), (7, .int .i64 ((j : Int))), (8, .int .i64 (((k + 1) : Nat) : Int))], by omega, (.cons rfl (.cons rfl (.cons rfl (.cons rfl (.cons rfl (.cons rfl .nil)))))), ⟨(k + 1), (j : Int), rfl, rfl, ⟨by omega, hbest.keep hkx hcc39 (fun hne h => ahead_tot hne h), hs8⟩⟩⟩
  ·
    refine l_r (r_cmp rfl rfl (b := false) (congrArg some (decide_eq_false hc4))) rfl ?_
    refine l_nil ?_
    refine s_else rfl ?_
    refine s_exit rfl ?_
    refine s_seq ?_
    refine s_seq ?_
    refine s_region ?_
    refine l_r (r_move rfl) rfl ?_
    by_cases hc10 : b < 0
    ·
      refine l_r (r_cmp rfl rfl (b := true) (congrArg some (decide_eq_true hc10))) rfl ?_
      have hkn : k = xs.length := by omega
      subst hkn
      refine l_nil ?_
      refine s_then rfl ?_
      refine s_seq ?_
      refine s_region ?_
      refine l_r (r_move rfl) rfl ?_
      refine l_r (r_assign rfl) rfl ?_
      refine l_nil ?_
      refine s_ret ?_
      have hr := none_found hS hbest ‹_›
      subst hr
      rw [List.append_nil] at hS
      refine q_done (.inr rfl) (.tmp rfl .nil) ⟨v, rfl, ?_⟩
      rw [hS]
      exact hs3.one
    ·
      refine l_r (r_cmp rfl rfl (b := false) (congrArg some (decide_eq_false hc10))) rfl ?_
      have hkn : k = xs.length := by omega
      subst hkn
      obtain ⟨j, rfl, hjx⟩ := hbest.nat ‹_›
      obtain ⟨r, hr⟩ := next_found hS hbest
      have hle : out.length < (ordL xs mode).length := by rw [hS, hr]; simp
      have hol := ordL_len xs mode
      refine l_nil ?_
      refine s_else rfl ?_
      refine s_skip ?_
      refine s_seq ?_
      refine s_region ?_
      refine l_r (r_move rfl) rfl ?_
      refine l_r (r_move rfl) rfl ?_
      refine l_r (r_index rfl rfl (by omega) (by omega) el38) rfl ?_
      refine l_store1s rfl rfl rfl sz4 (Nat.zero_le _) hs3 (Repl.there Repl.here) (by rw [List.length_map, told_len]; omega) ?_
      intro w11 hz11 hk11 hs11
      rw [told_set] at hs11
      refine l_nil ?_
      refine s_region ?_
      refine l_r (r_move rfl) rfl ?_
      refine l_r (r_move rfl) rfl ?_
      refine l_bsN (m := 1) Try.underlying25 sz3 (by rw [zz3]; rfl) rfl rfl (by
          intro v hv
          simp only [List.mem_cons, List.not_mem_nil, or_false] at hv
          subst hv
          rfl) rfl (by decide) rfl hs11 ?_
      intro w12 b49 hb49 hx12 hs12
      refine l_appendP (news := [.int .i64 (j : Int)]) Try.underlying25 rw3 rfl rfl rfl rfl hs12 Repl.here rfl (one1 rfl) (by omega) rfl (Nat.zero_le _) (by have := hs12.size; omega) (fun _ => Repl.there Repl.here) rfl ?_
      intro v13 w13 hz13 hk13 hs13
      refine l_r (r_assign rfl) rfl ?_
      refine l_nil ?_
      refine s_mark ?_
      refine s_again ?_
      exact ⟨_, [(0, .slice A xs.length c), (1, .int .i64 mode), (5, v13), (6, .slice (some ⟨b13, 0, none⟩) xs.length xs.length)], by (rw [List.length_append, List.length_singleton]; omega), (.cons rfl (.cons rfl (.cons rfl (.cons rfl .nil)))), ⟨(out ++ [j]), v13, rfl, rfl, ⟨⟨r, by rw [hS, hr]; simp⟩, by rw [idx_append, List.length_append]; exact hs13.tail⟩⟩⟩

end Go.Proofs.Ytcapkhhflhpnpaa
