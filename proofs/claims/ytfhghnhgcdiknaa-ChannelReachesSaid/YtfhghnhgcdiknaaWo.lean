/- What all channels bring. -/
import Derived.Test.YtfhghnhgcdiknaaWp
set_option linter.unusedVariables false
namespace Go.Proofs.Ytfhghnhgcdiknaa
open Go.RowKit
theorem row_none_len {w : World} {base e sz m c n : Nat} {A : Option Addr} {cs : List Value} (h : w.ownsRow base e sz (.slice A m c) n cs) (hA : A = none) : n = 0 := by
  subst hA
  rcases h.2 with ⟨_, h0⟩ | ⟨g, cap, cur, h1, _⟩
  · exact h0
  · cases h1

set_option maxRecDepth 100000 in
theorem move_any {cf : TConfig} {ps : List TPart} {A A2 A3 A4 A5 : Option Addr} {c c2 c3 c4 c5 : Nat} (w : World) {ok ok2 : Nat → Prop} (hl : Sl Kd.part w ok A c ps) (hch : Sl Kd.channel w ok2 A5 c5 cf.Channels) (hn : ps.length ≤ 100000000) (hsm : ∀ p, p ∈ ps → PartSmall p) {M : Nat} (hM : QB ps M) (hMb : M * 2 ^ cf.Channels.length ≤ 100000000) :
    Calls Try.prog 12 #[.agg ([.int .i64 cf.Frame, .int .i64 cf.Switch, .slice A2 cf.Lines.length c2, .slice A3 cf.Parts.length c3, .slice A4 cf.Windows.length c4, .slice A5 cf.Channels.length c5] : List Value).toArray, .slice A ps.length c] w (fun e w' => ∃ (v : Value) (xs : List OP) (F : Nat → Prop), e = .returned v ∧ St 0 w w' (OPs xs v F) ∧ xs.map OP.p = moveL cf ps) := by
  refine q_call (n := 59) (args := [.agg ([.int .i64 cf.Frame, .int .i64 cf.Switch, .slice A2 cf.Lines.length c2, .slice A3 cf.Parts.length c3, .slice A4 cf.Windows.length c4, .slice A5 cf.Channels.length c5] : List Value).toArray, .slice A ps.length c]) Try.func12 rfl rfl rfl ?_
  have hs0 := St.refl 0 w
  refine s_seq ?_
  refine s_region ?_
  refine l_box rfl rfl rfl hs0 ?_
  intro w1 b2 hb2 hx1 hs1
  refine l_r (r_assign rfl) rfl ?_
  refine l_nil ?_
  refine s_seq ?_
  refine s_region ?_
  refine l_r (r_assign rfl) rfl ?_
  refine l_nil ?_
  refine s_seq ?_
  refine s_seq ?_
  refine s_region ?_
  refine l_r (r_move rfl) rfl ?_
  refine l_r (r_len rfl el28) rfl ?_
  refine l_r (r_move rfl) rfl ?_
  refine l_nil ?_
  refine s_block ?_
  refine s_loop (fun m L wl => ∃ (k : Nat) (xs : List OP) (v : Value) (F : Nat → Prop), L = [(2, .pointer (some ⟨b2, 0, none⟩)), (5, v), (12, .slice A ps.length c), (13, .int .i64 (ps.length : Int)), (14, .int .i64 ((k : Nat) : Int))] ∧ m = ps.length - k ∧ k ≤ ps.length ∧ xs.map OP.p = ps.take k ∧ St 0 w wl (.pt b2 [.int .i64 cf.Frame, .int .i64 cf.Switch, .slice A2 cf.Lines.length c2, .slice A3 cf.Parts.length c3, .slice A4 cf.Windows.length c4, .slice A5 cf.Channels.length c5] 27 :: OPs xs v F)) _ [(2, .pointer (some ⟨b2, 0, none⟩)), (5, .slice none 0 0), (12, .slice A ps.length c), (13, .int .i64 (ps.length : Int)), (14, .int .i64 ((0 : Nat) : Int))] (.cons rfl (.cons rfl (.cons rfl (.cons rfl (.cons rfl .nil))))) ⟨0, [], .slice none 0 0, (fun _ => False), rfl, rfl, ⟨Nat.zero_le _, rfl, ops_box0 hs1⟩⟩ ?_
  rintro _ _ w2 ⟨k, xs, v, F, rfl, rfl, hk, hxs, hs2⟩
  have hxl0 : xs.length = k := by have := congrArg List.length hxs; simp at this; omega
  refine s_seq ?_
  refine s_region ?_
  by_cases hc3 : (k : Int) < (ps.length : Int)
  ·
    refine l_r (r_cmp rfl rfl (b := true) (congrArg some (decide_eq_true hc3))) rfl ?_
    have hkx : k < ps.length := by omega
    obtain ⟨bp, op, cx, hA, _, hKx, hcx⟩ := hl.at_ hkx
    have hxl : cx.length = 15 := Kd.part.len hKx
    refine l_nil ?_
    refine s_seq ?_
    refine s_then rfl ?_
    refine s_skip ?_
    refine s_seq ?_
    refine s_block ?_
    refine s_seq ?_
    refine s_region ?_
    refine l_r (r_indexA rfl hA rfl (by omega) (by omega) el28) rfl ?_
    refine l_r (r_loadN rfl ag48 (hcx.on hs2) (by rw [hxl]; exact sz48)) rfl ?_
    refine l_alloc zz48 rfl hs2 ?_
    intro w4 b7 hb7 hx4 hs4
    refine l_storeAll rfl rfl (by rw [hxl]; exact sz48) (Kd.part.one hKx) (Nat.zero_le _) hs4 Repl.here (by rw [hxl]; rfl) ?_
    intro w5 hz5 hk5 hs5
    refine l_nil ?_
    refine s_region ?_
    refine l_r (r_move rfl) rfl ?_
    refine l_r (r_loadNp rfl hs5 Repl.here ag48 (by rw [hxl]; exact sz48)) rfl ?_
    refine l_call rfl rfl fk20 rfl (own_any w5 hxl (Kd.part.one hKx) (Kd.part.move (fun k _ hk => (hs5).below.block k hk) hKx) (hsm _ (List.getElem_mem hkx))) ?_
    rintro _ w6 ⟨cs, vS, vQ, csS, csQ, F2, rfl, hR, hc6⟩
    have hO := hc6.get (r := .ro _ _) (List.mem_cons_of_mem _ (List.mem_cons_of_mem _ List.mem_cons_self))
    obtain ⟨hOl, hO1⟩ := own_one hO (row_val (hc6.get (r := .row _ _ _ _ _ _) List.mem_cons_self)) (row_val (hc6.get (r := .row _ _ _ _ _ _) (List.mem_cons_of_mem _ List.mem_cons_self)))
    have hs6 := hs5.call hc6
    refine ⟨_, rfl, ?_⟩
    refine l_bsN (m := 1) (vs := [.agg cs.toArray]) (cs := cs) Try.underlying28 sz48 (by rw [zz48]; rfl) rfl rfl (by intro v hv; rw [List.mem_singleton.1 hv]; exact hOl) (by simp [Value.cells]) (by decide) rfl hs6 ?_
    intro w7 bn hbn hx7 hs7
    refine l_appendP (news := cs) (base := 0) Try.underlying28 rw48 rfl rfl rfl rfl hs7 Repl.here (by rw [hOl]) hO1 (by omega) rfl (Nat.zero_le _) (Nat.zero_le _) (fun v' => (Repl.there (Repl.there (Repl.there (Repl.there (Repl.there (Repl.there Repl.here))))))) rfl ?_
    intro v8 w8 hz8 hk8 hs8
    refine l_r (r_assign rfl) rfl ?_
    refine l_nil ?_
    refine s_mark ?_
    refine s_region ?_
    refine l_r (r_inc rfl (by omega)) rfl ?_
    refine l_r (r_move rfl) rfl ?_
    refine l_nil ?_
    refine s_again ?_
    exact ⟨_, [(2, .pointer (some ⟨b2, 0, none⟩)), (5, v8), (12, .slice A ps.length c), (13, .int .i64 (ps.length : Int)), (14, .int .i64 (((k + 1) : Nat) : Int))], by omega, (.cons rfl (.cons rfl (.cons rfl (.cons rfl (.cons rfl .nil))))), ⟨(k + 1), (xs ++ [OP.mk ps[k] cs vS vQ csS csQ]), v8, (fun b => F2 b ∨ F b), rfl, rfl, ⟨by omega, by rw [List.map_append, hxs]; exact List.take_append_getElem hkx, by
          have h := ((hs8.tail).toFront 3 rfl).tail
          have h := h.toFront 3 rfl
          exact ops_box (x := OP.mk ps[k] cs vS vQ csS csQ) hR h⟩⟩⟩
  ·
    refine l_r (r_cmp rfl rfl (b := false) (congrArg some (decide_eq_false hc3))) rfl ?_
    have hkl : k = ps.length := by omega
    subst hkl
    have hxl : xs.length = ps.length := by have := congrArg List.length hxs; simp at this; omega
    have hxs : xs.map OP.p = (cf.Channels.take 0).foldl stepL ps := by rw [hxs, List.take_length]; rfl
    obtain ⟨Av, cv, hv, _, _, _, hAv⟩ := row_slice (hs2.get (r := .row 0 48 15 v xs.length _) (List.mem_cons_of_mem _ List.mem_cons_self))
    rw [hxl] at hv
    subst hv
    refine l_nil ?_
    refine s_seq ?_
    refine s_else rfl ?_
    refine s_exit rfl ?_
    refine s_seq ?_
    refine s_seq ?_
    refine s_region ?_
    refine l_r (r_field rfl fo27_5) rfl ?_
    refine l_r (r_load1p rfl hs2 Repl.here ag25 rfl) rfl ?_
    refine l_r (r_len rfl el25) rfl ?_
    refine l_r (r_move rfl) rfl ?_
    refine l_nil ?_
    refine s_block ?_
    refine s_loop (fun m L wl => ∃ (k : Nat) (xs : List OP) (F : Nat → Prop) (Av : Option Addr), L = [(5, .slice Av ps.length cv), (25, .slice A5 cf.Channels.length c5), (26, .int .i64 (cf.Channels.length : Int)), (27, .int .i64 ((k : Nat) : Int))] ∧ m = cf.Channels.length - k ∧ k ≤ cf.Channels.length ∧ xs.map OP.p = (cf.Channels.take k).foldl stepL ps ∧ xs.length = ps.length ∧ (∀ p, Av = some p → ∃ g, p = ⟨g, 0, none⟩) ∧ St 0 w wl (OPs xs (.slice Av ps.length cv) F)) _ [(5, .slice Av ps.length cv), (25, .slice A5 cf.Channels.length c5), (26, .int .i64 (cf.Channels.length : Int)), (27, .int .i64 ((0 : Nat) : Int))] (.cons rfl (.cons rfl (.cons rfl (.cons rfl .nil)))) ⟨0, xs, F, Av, rfl, rfl, ⟨Nat.zero_le _, hxs, hxl, hAv, hs2.tail⟩⟩ ?_
    rintro _ _ w9 ⟨k, xs, F, Av, rfl, rfl, hk2, hxs, hxl, hAv, hs9⟩
    have hcl5 := hch.len
    refine s_seq ?_
    refine s_region ?_
    by_cases hc10 : (k : Int) < (cf.Channels.length : Int)
    ·
      refine l_r (r_cmp rfl rfl (b := true) (congrArg some (decide_eq_true hc10))) rfl ?_
      have hkx : k < cf.Channels.length := by omega
      obtain ⟨b5, o5, cx5, hA5, _, hKx5, hcx5⟩ := hch.at_ hkx
      have hxk : cf.Channels[k]? = some cf.Channels[k] := List.getElem?_eq_getElem hkx
      rcases hxe : cf.Channels[k] with ⟨qu, fr, a, to, b⟩
      rw [hxe] at hKx5 hxk
      obtain rfl : cx5 = [.bool qu, .int .i64 fr, .int .i64 a, .int .i64 to, .int .i64 b] := hKx5
      refine l_nil ?_
      refine s_seq ?_
      refine s_then rfl ?_
      refine s_skip ?_
      refine s_seq ?_
      refine s_block ?_
      refine s_seq ?_
      refine s_region ?_
      by_cases hc11 : 0 ≤ fr ∧ fr < (ps.length : Int)
      ·
        refine l_r (r_indexA rfl hA5 rfl (by omega) (by omega) el25) rfl ?_
        obtain ⟨i, rfl⟩ := Int.eq_ofNat_of_zero_le hc11.1
        by_cases hc12 : 0 ≤ to ∧ to < (ps.length : Int)
        ·
          refine l_r (r_loadN rfl ag32 (hcx5.on hs9) sz32) rfl ?_
          obtain ⟨j, rfl⟩ := Int.eq_ofNat_of_zero_le hc12.1
          refine l_alloc zz32 rfl hs9 ?_
          intro w13 b9 hb9 hx13 hs13
          refine l_storeAll rfl rfl sz32 (by intro u hu; simp only [List.mem_cons, List.not_mem_nil, or_false] at hu; rcases hu with rfl | rfl | rfl | rfl | rfl <;> rfl) (Nat.zero_le _) hs13 Repl.here rfl ?_
          intro w14 hz14 hk14 hs14
          refine l_nil ?_
          refine s_seq ?_
          have hAn : Av ≠ none := by
            intro h0
            have := St.get (r := .row 0 48 15 _ xs.length _) hs14 (List.mem_cons_of_mem _ List.mem_cons_self)
            have := row_none_len this h0
            omega
          obtain ⟨gv, hgv⟩ : ∃ gv, Av = some ⟨gv, 0, none⟩ := by
            cases h0 : Av with
            | none => exact absurd h0 hAn
            | some p => obtain ⟨g, hg⟩ := hAv p h0; exact ⟨g, by rw [hg]⟩
          subst hgv
          refine s_quiet (by kernel_rfl) (by kernel_rfl) ?_
          refine qq_r (fun w' hw' => r_move rfl) rfl ?_
          refine qq_r (fun w' hw' => r_field rfl fo32_1) rfl ?_
          refine qq_r (fun w' hw' => r_load1p rfl (hs14.ext hw') Repl.here ag3 rfl) rfl ?_
          refine qq_call rfl rfl fk21 (fun w' _ => (at21_in (b := gv) (o := 0) (c := cv) (i : Int) w' hc11.1 hc11.2).mono (fun e w1 ⟨he, hw⟩ => ⟨he, hw ▸ Ext.refl _⟩)) rfl ?_
          refine qq_r (fun w' hw' => r_move rfl) rfl ?_
          refine qq_r (fun w' hw' => r_field rfl fo32_3) rfl ?_
          refine qq_r (fun w' hw' => r_load1p rfl (hs14.ext hw') Repl.here ag3 rfl) rfl ?_
          refine qq_call rfl rfl fk21 (fun w' _ => (at21_in (b := gv) (o := 0) (c := cv) (j : Int) w' hc12.1 hc12.2).mono (fun e w1 ⟨he, hw⟩ => ⟨he, hw ▸ Ext.refl _⟩)) rfl ?_
          refine qq_r (fun w' hw' => r_assign rfl) rfl ?_
          refine qq_r (fun w' hw' => r_assign rfl) rfl ?_
          refine qq_nil ?_
          intro w15 hx15
          have hs15 := hs14.ext hx15
          refine s_block ?_
          refine s_seq ?_
          refine s_region ?_
          refine l_r (r_move rfl) rfl ?_
          refine l_r (r_eqpnil rfl rfl Try.underlying59) rfl ?_
          refine l_r (r_move rfl) rfl ?_
          refine l_on (dj := 46) rfl rfl rfl ?_
          refine l_r (r_move rfl) rfl ?_
          refine l_on (dj := 46) rfl rfl rfl ?_
          refine l_r (r_eqpnil rfl rfl Try.underlying59) rfl ?_
          refine l_r (r_pick_f rfl rfl) rfl ?_
          refine l_r (r_assign rfl) rfl ?_
          refine l_nil ?_
          refine s_else rfl ?_
          refine s_seq ?_
          refine s_region ?_
          refine l_r (r_field rfl fo32_0) rfl ?_
          refine l_r (r_load1p rfl hs15 Repl.here ag4 rfl) rfl ?_
          refine l_r (r_assign rfl) rfl ?_
          refine l_nil ?_
          refine s_cond rfl (fun hqu => ?_) (fun hqu => ?_)
          ·
            refine s_region ?_
            refine l_r (r_move rfl) rfl ?_
            refine l_r (r_move rfl) rfl ?_
            refine l_r (r_loadNp rfl hs15 Repl.here ag32 sz32) rfl ?_
            subst hqu
            have hQ : QB (xs.map OP.p) 100000000 := by rw [hxs]; exact (fold_QB _ _ _ hM).mono (Nat.le_trans (Nat.mul_le_mul_left _ (Nat.pow_le_pow_right (by decide) (by rw [List.length_take]; omega))) hMb)
            have hsn : St 0 w w15 (OPs xs (.slice (some ⟨gv, 0, none⟩) xs.length cv) F) := by rw [hxl]; exact hs15.tail
            refine l_call rfl rfl fk22 rfl (queues_any (g := gv) (c := cv) (i := i) (j := j) (a := a) (b := b) hsn (List.getElem?_eq_getElem (by omega)) (List.getElem?_eq_getElem (by omega)) (fun z hz q hq => hQ z.p (List.mem_map_of_mem hz) q hq)) ?_
            rintro _ w17 ⟨rfl, xs2, F2, hs17, hl2, hm2⟩
            rw [hxl] at hs17 hl2
            refine ⟨_, rfl, ?_⟩
            refine l_nil ?_
            refine s_mark ?_
            refine s_mark ?_
            refine s_region ?_
            refine l_r (r_inc rfl (by omega)) rfl ?_
            refine l_r (r_move rfl) rfl ?_
            refine l_nil ?_
            refine s_again ?_
            exact ⟨_, [(5, .slice (some ⟨gv, 0, none⟩) ps.length cv), (25, .slice A5 cf.Channels.length c5), (26, .int .i64 (cf.Channels.length : Int)), (27, .int .i64 (((k + 1) : Nat) : Int))], by omega, (.cons rfl (.cons rfl (.cons rfl (.cons rfl .nil)))), ⟨(k + 1), xs2, F2, (some ⟨gv, 0, none⟩), rfl, rfl, ⟨by omega, by rw [fold_take hxk, ← hxs]; exact hm2, hl2, hAv, hs17⟩⟩⟩
          ·
            refine s_region ?_
            refine l_r (r_move rfl) rfl ?_
            refine l_r (r_move rfl) rfl ?_
            refine l_r (r_loadNp rfl hs15 Repl.here ag32 sz32) rfl ?_
            subst hqu
            have hQ : QB (xs.map OP.p) 100000000 := by rw [hxs]; exact (fold_QB _ _ _ hM).mono (Nat.le_trans (Nat.mul_le_mul_left _ (Nat.pow_le_pow_right (by decide) (by rw [List.length_take]; omega))) hMb)
            have hsn : St 0 w w15 (OPs xs (.slice (some ⟨gv, 0, none⟩) xs.length cv) F) := by rw [hxl]; exact hs15.tail
            refine l_call rfl rfl fk23 rfl (samples_any (g := gv) (c := cv) (i := i) (j := j) (a := a) (b := b) hsn (List.getElem?_eq_getElem (by omega)) (List.getElem?_eq_getElem (by omega))) ?_
            rintro _ w18 ⟨rfl, xs2, F2, hs18, hl2, hm2⟩
            rw [hxl] at hs18 hl2
            refine ⟨_, rfl, ?_⟩
            refine l_nil ?_
            refine s_mark ?_
            refine s_mark ?_
            refine s_region ?_
            refine l_r (r_inc rfl (by omega)) rfl ?_
            refine l_r (r_move rfl) rfl ?_
            refine l_nil ?_
            refine s_again ?_
            exact ⟨_, [(5, .slice (some ⟨gv, 0, none⟩) ps.length cv), (25, .slice A5 cf.Channels.length c5), (26, .int .i64 (cf.Channels.length : Int)), (27, .int .i64 (((k + 1) : Nat) : Int))], by omega, (.cons rfl (.cons rfl (.cons rfl (.cons rfl .nil)))), ⟨(k + 1), xs2, F2, (some ⟨gv, 0, none⟩), rfl, rfl, ⟨by omega, by rw [fold_take hxk, ← hxs]; exact hm2, hl2, hAv, hs18⟩⟩⟩
        ·
          refine l_r (r_loadN rfl ag32 (hcx5.on hs9) sz32) rfl ?_
          refine l_alloc zz32 rfl hs9 ?_
          intro w19 b9 hb9 hx19 hs19
          refine l_storeAll rfl rfl sz32 (by intro u hu; simp only [List.mem_cons, List.not_mem_nil, or_false] at hu; rcases hu with rfl | rfl | rfl | rfl | rfl <;> rfl) (Nat.zero_le _) hs19 Repl.here rfl ?_
          intro w20 hz20 hk20 hs20
          refine l_nil ?_
          refine s_seq ?_
          have hAn : Av ≠ none := by
            intro h0
            have := St.get (r := .row 0 48 15 _ xs.length _) hs20 (List.mem_cons_of_mem _ List.mem_cons_self)
            have := row_none_len this h0
            omega
          obtain ⟨gv, hgv⟩ : ∃ gv, Av = some ⟨gv, 0, none⟩ := by
            cases h0 : Av with
            | none => exact absurd h0 hAn
            | some p => obtain ⟨g, hg⟩ := hAv p h0; exact ⟨g, by rw [hg]⟩
          subst hgv
          refine s_quiet (by kernel_rfl) (by kernel_rfl) ?_
          refine qq_r (fun w' hw' => r_move rfl) rfl ?_
          refine qq_r (fun w' hw' => r_field rfl fo32_1) rfl ?_
          refine qq_r (fun w' hw' => r_load1p rfl (hs20.ext hw') Repl.here ag3 rfl) rfl ?_
          refine qq_call rfl rfl fk21 (fun w' _ => (at21_in (b := gv) (o := 0) (c := cv) (i : Int) w' hc11.1 hc11.2).mono (fun e w1 ⟨he, hw⟩ => ⟨he, hw ▸ Ext.refl _⟩)) rfl ?_
          refine qq_r (fun w' hw' => r_move rfl) rfl ?_
          refine qq_r (fun w' hw' => r_field rfl fo32_3) rfl ?_
          refine qq_r (fun w' hw' => r_load1p rfl (hs20.ext hw') Repl.here ag3 rfl) rfl ?_
          refine qq_call rfl rfl fk21 (fun w' _ => (at21_out (A := some ⟨gv, 0, none⟩) (c := cv) to w' hc12).mono (fun e w1 ⟨he, hw⟩ => ⟨he, hw ▸ Ext.refl _⟩)) rfl ?_
          refine qq_r (fun w' hw' => r_assign rfl) rfl ?_
          refine qq_r (fun w' hw' => r_assign rfl) rfl ?_
          refine qq_nil ?_
          intro w21 hx21
          have hs21 := hs20.ext hx21
          refine s_block ?_
          refine s_seq ?_
          refine s_region ?_
          refine l_r (r_move rfl) rfl ?_
          refine l_r (r_eqpnil rfl rfl Try.underlying59) rfl ?_
          refine l_r (r_move rfl) rfl ?_
          refine l_on (dj := 46) rfl rfl rfl ?_
          refine l_r (r_move rfl) rfl ?_
          refine l_on (dj := 46) rfl rfl rfl ?_
          refine l_r (r_eqpnil rfl rfl Try.underlying59) rfl ?_
          refine l_r (r_pick_f rfl rfl) rfl ?_
          refine l_r (r_assign rfl) rfl ?_
          refine l_nil ?_
          refine s_then rfl ?_
          refine s_skip ?_
          refine s_mark ?_
          refine s_mark ?_
          refine s_region ?_
          refine l_r (r_inc rfl (by omega)) rfl ?_
          refine l_r (r_move rfl) rfl ?_
          refine l_nil ?_
          refine s_again ?_
          exact ⟨_, [(5, .slice (some ⟨gv, 0, none⟩) ps.length cv), (25, .slice A5 cf.Channels.length c5), (26, .int .i64 (cf.Channels.length : Int)), (27, .int .i64 (((k + 1) : Nat) : Int))], by omega, (.cons rfl (.cons rfl (.cons rfl (.cons rfl .nil)))), ⟨(k + 1), xs, F, (some ⟨gv, 0, none⟩), rfl, rfl, ⟨by omega, by rw [fold_take hxk, step_none (.inr (by rw [fold_len]; exact hc12))]; exact hxs, hxl, hAv, hs21.tail⟩⟩⟩
      ·
        refine l_r (r_indexA rfl hA5 rfl (by omega) (by omega) el25) rfl ?_
        by_cases hc22 : 0 ≤ to ∧ to < (ps.length : Int)
        ·
          refine l_r (r_loadN rfl ag32 (hcx5.on hs9) sz32) rfl ?_
          obtain ⟨j, rfl⟩ := Int.eq_ofNat_of_zero_le hc22.1
          refine l_alloc zz32 rfl hs9 ?_
          intro w23 b9 hb9 hx23 hs23
          refine l_storeAll rfl rfl sz32 (by intro u hu; simp only [List.mem_cons, List.not_mem_nil, or_false] at hu; rcases hu with rfl | rfl | rfl | rfl | rfl <;> rfl) (Nat.zero_le _) hs23 Repl.here rfl ?_
          intro w24 hz24 hk24 hs24
          refine l_nil ?_
          refine s_seq ?_
          have hAn : Av ≠ none := by
            intro h0
            have := St.get (r := .row 0 48 15 _ xs.length _) hs24 (List.mem_cons_of_mem _ List.mem_cons_self)
            have := row_none_len this h0
            omega
          obtain ⟨gv, hgv⟩ : ∃ gv, Av = some ⟨gv, 0, none⟩ := by
            cases h0 : Av with
            | none => exact absurd h0 hAn
            | some p => obtain ⟨g, hg⟩ := hAv p h0; exact ⟨g, by rw [hg]⟩
          subst hgv
          refine s_quiet (by kernel_rfl) (by kernel_rfl) ?_
          refine qq_r (fun w' hw' => r_move rfl) rfl ?_
          refine qq_r (fun w' hw' => r_field rfl fo32_1) rfl ?_
          refine qq_r (fun w' hw' => r_load1p rfl (hs24.ext hw') Repl.here ag3 rfl) rfl ?_
          refine qq_call rfl rfl fk21 (fun w' _ => (at21_out (A := some ⟨gv, 0, none⟩) (c := cv) fr w' hc11).mono (fun e w1 ⟨he, hw⟩ => ⟨he, hw ▸ Ext.refl _⟩)) rfl ?_
          refine qq_r (fun w' hw' => r_move rfl) rfl ?_
          refine qq_r (fun w' hw' => r_field rfl fo32_3) rfl ?_
          refine qq_r (fun w' hw' => r_load1p rfl (hs24.ext hw') Repl.here ag3 rfl) rfl ?_
          refine qq_call rfl rfl fk21 (fun w' _ => (at21_in (b := gv) (o := 0) (c := cv) (j : Int) w' hc22.1 hc22.2).mono (fun e w1 ⟨he, hw⟩ => ⟨he, hw ▸ Ext.refl _⟩)) rfl ?_
          refine qq_r (fun w' hw' => r_assign rfl) rfl ?_
          refine qq_r (fun w' hw' => r_assign rfl) rfl ?_
          refine qq_nil ?_
          intro w25 hx25
          have hs25 := hs24.ext hx25
          refine s_block ?_
          refine s_seq ?_
          refine s_region ?_
          refine l_r (r_move rfl) rfl ?_
          refine l_r (r_eqpnil rfl rfl Try.underlying59) rfl ?_
          refine l_r (r_move rfl) rfl ?_
          refine l_off (dj := 46) (b := true) rfl rfl rfl rfl rfl ?_
          refine l_off (dj := 46) (b := true) rfl rfl rfl rfl rfl ?_
          refine l_r (r_pick_t rfl rfl) rfl ?_
          refine l_r (r_assign rfl) rfl ?_
          refine l_nil ?_
          refine s_then rfl ?_
          refine s_skip ?_
          refine s_mark ?_
          refine s_mark ?_
          refine s_region ?_
          refine l_r (r_inc rfl (by omega)) rfl ?_
          refine l_r (r_move rfl) rfl ?_
          refine l_nil ?_
          refine s_again ?_
          exact ⟨_, [(5, .slice (some ⟨gv, 0, none⟩) ps.length cv), (25, .slice A5 cf.Channels.length c5), (26, .int .i64 (cf.Channels.length : Int)), (27, .int .i64 (((k + 1) : Nat) : Int))], by omega, (.cons rfl (.cons rfl (.cons rfl (.cons rfl .nil)))), ⟨(k + 1), xs, F, (some ⟨gv, 0, none⟩), rfl, rfl, ⟨by omega, by rw [fold_take hxk, step_none (.inl (by rw [fold_len]; exact hc11))]; exact hxs, hxl, hAv, hs25.tail⟩⟩⟩
        ·
          refine l_r (r_loadN rfl ag32 (hcx5.on hs9) sz32) rfl ?_
          refine l_alloc zz32 rfl hs9 ?_
          intro w26 b9 hb9 hx26 hs26
          refine l_storeAll rfl rfl sz32 (by intro u hu; simp only [List.mem_cons, List.not_mem_nil, or_false] at hu; rcases hu with rfl | rfl | rfl | rfl | rfl <;> rfl) (Nat.zero_le _) hs26 Repl.here rfl ?_
          intro w27 hz27 hk27 hs27
          refine l_nil ?_
          refine s_seq ?_
          refine s_quiet (by kernel_rfl) (by kernel_rfl) ?_
          refine qq_r (fun w' hw' => r_move rfl) rfl ?_
          refine qq_r (fun w' hw' => r_field rfl fo32_1) rfl ?_
          refine qq_r (fun w' hw' => r_load1p rfl (hs27.ext hw') Repl.here ag3 rfl) rfl ?_
          refine qq_call rfl rfl fk21 (fun w' _ => (at21_out (A := Av) (c := cv) fr w' hc11).mono (fun e w1 ⟨he, hw⟩ => ⟨he, hw ▸ Ext.refl _⟩)) rfl ?_
          refine qq_r (fun w' hw' => r_move rfl) rfl ?_
          refine qq_r (fun w' hw' => r_field rfl fo32_3) rfl ?_
          refine qq_r (fun w' hw' => r_load1p rfl (hs27.ext hw') Repl.here ag3 rfl) rfl ?_
          refine qq_call rfl rfl fk21 (fun w' _ => (at21_out (A := Av) (c := cv) to w' hc22).mono (fun e w1 ⟨he, hw⟩ => ⟨he, hw ▸ Ext.refl _⟩)) rfl ?_
          refine qq_r (fun w' hw' => r_assign rfl) rfl ?_
          refine qq_r (fun w' hw' => r_assign rfl) rfl ?_
          refine qq_nil ?_
          intro w28 hx28
          have hs28 := hs27.ext hx28
          refine s_block ?_
          refine s_seq ?_
          refine s_region ?_
          refine l_r (r_move rfl) rfl ?_
          refine l_r (r_eqpnil rfl rfl Try.underlying59) rfl ?_
          refine l_r (r_move rfl) rfl ?_
          refine l_off (dj := 46) (b := true) rfl rfl rfl rfl rfl ?_
          refine l_off (dj := 46) (b := true) rfl rfl rfl rfl rfl ?_
          refine l_r (r_pick_t rfl rfl) rfl ?_
          refine l_r (r_assign rfl) rfl ?_
          refine l_nil ?_
          refine s_then rfl ?_
          refine s_skip ?_
          refine s_mark ?_
          refine s_mark ?_
          refine s_region ?_
          refine l_r (r_inc rfl (by omega)) rfl ?_
          refine l_r (r_move rfl) rfl ?_
          refine l_nil ?_
          refine s_again ?_
          exact ⟨_, [(5, .slice Av ps.length cv), (25, .slice A5 cf.Channels.length c5), (26, .int .i64 (cf.Channels.length : Int)), (27, .int .i64 (((k + 1) : Nat) : Int))], by omega, (.cons rfl (.cons rfl (.cons rfl (.cons rfl .nil)))), ⟨(k + 1), xs, F, Av, rfl, rfl, ⟨by omega, by rw [fold_take hxk, step_none (.inl (by rw [fold_len]; exact hc11))]; exact hxs, hxl, hAv, hs28.tail⟩⟩⟩
    ·
      refine l_r (r_cmp rfl rfl (b := false) (congrArg some (decide_eq_false hc10))) rfl ?_
      refine l_nil ?_
      refine s_seq ?_
      refine s_else rfl ?_
      refine s_exit rfl ?_
      refine s_seq ?_
      refine s_region ?_
      refine l_r (r_move rfl) rfl ?_
      refine l_r (r_assign rfl) rfl ?_
      refine l_nil ?_
      refine s_ret ?_
      exact q_done (.inr rfl) (.tmp rfl .nil) ⟨_, xs, F, rfl, hs9, by rw [hxs, show k = cf.Channels.length by omega, List.take_length]; rfl⟩

end Go.Proofs.Ytfhghnhgcdiknaa
