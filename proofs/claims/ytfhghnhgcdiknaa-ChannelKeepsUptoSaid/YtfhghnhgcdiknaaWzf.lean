/- What all channels bring is what the document says. -/
import Derived.Test.YtfhghnhgcdiknaaWze
set_option linter.unusedVariables false
namespace Go.Proofs.Ytfhghnhgcdiknaa
open Go.RowKit
set_option maxRecDepth 100000 in
theorem move_anyK {cf : TConfig} {ps : List TPart} {A A2 A3 A4 A5 : Option Addr} {c c2 c3 c4 c5 : Nat} (w : World) {ok ok2 : Nat → Prop} (hl : Sl Kd.part w ok A c ps) (hch : Sl Kd.channel w ok2 A5 c5 cf.Channels) (hn : ps.length ≤ 100000000) (hsm : ∀ p, p ∈ ps → PartSmall p) (hQk : ∀ k, QB ((cf.Channels.take k).foldl stepL ps) 100000000) :
    Calls Try.prog 12 #[.agg ([.int .i64 cf.Frame, .int .i64 cf.Switch, .slice A2 cf.Lines.length c2, .slice A3 cf.Parts.length c3, .slice A4 cf.Windows.length c4, .slice A5 cf.Channels.length c5] : List Value).toArray, .slice A ps.length c] w (fun e w' => ∃ (v : Value) (xs : List OP) (F : Nat → Prop), e = .returned v ∧ St 0 w w' (OPs xs v F) ∧ xs.map OP.p = moveL cf ps) := by
  refine q_call (n := 59) (args := [.agg ([.int .i64 cf.Frame, .int .i64 cf.Switch, .slice A2 cf.Lines.length c2, .slice A3 cf.Parts.length c3, .slice A4 cf.Windows.length c4, .slice A5 cf.Channels.length c5] : List Value).toArray, .slice A ps.length c]) Try.func12 rfl rfl rfl ?_
  have hs0 := St.refl 0 w
  refine s_seq ?_
  refine s_region ?_
  refine l_box rfl rfl rfl hs0 ?_
  intro w1 b2 hb2 hx1 hs1
  refine l_r (r_assign rfl) rfl ?_
  refine l_nil ?_
  refine s_seq ?_
  refine s_region ?_
  refine l_r (r_assign rfl) rfl ?_
  refine l_nil ?_
  refine s_seq ?_
  refine s_seq ?_
  refine s_region ?_
  refine l_r (r_move rfl) rfl ?_
  refine l_r (r_len rfl el28) rfl ?_
  refine l_r (r_move rfl) rfl ?_
  refine l_nil ?_
  refine s_block ?_
  refine s_loop (fun m L wl => ∃ (k : Nat) (xs : List OP) (v : Value) (F : Nat → Prop), L = [(2, .pointer (some ⟨b2, 0, none⟩)), (5, v), (12, .slice A ps.length c), (13, .int .i64 (ps.length : Int)), (14, .int .i64 ((k : Nat) : Int))] ∧ m = ps.length - k ∧ k ≤ ps.length ∧ xs.map OP.p = ps.take k ∧ St 0 w wl (.pt b2 [.int .i64 cf.Frame, .int .i64 cf.Switch, .slice A2 cf.Lines.length c2, .slice A3 cf.Parts.length c3, .slice A4 cf.Windows.length c4, .slice A5 cf.Channels.length c5] 27 :: OPs xs v F)) _ [(2, .pointer (some ⟨b2, 0, none⟩)), (5, .slice none 0 0), (12, .slice A ps.length c), (13, .int .i64 (ps.length : Int)), (14, .int .i64 ((0 : Nat) : Int))] (.cons rfl (.cons rfl (.cons rfl (.cons rfl (.cons rfl .nil))))) ⟨0, [], .slice none 0 0, (fun _ => False), rfl, rfl, ⟨Nat.zero_le _, rfl, ops_box0 hs1⟩⟩ ?_
  rintro _ _ w2 ⟨k, xs, v, F, rfl, rfl, hk, hxs, hs2⟩
  have hxl0 : xs.length = k := by have := congrArg List.length hxs; simp at this; omega
  refine s_seq ?_
  refine s_region ?_
  by_cases hc3 : (k : Int) < (ps.length : Int)
  ·
    refine l_r (r_cmp rfl rfl (b := true) (congrArg some (decide_eq_true hc3))) rfl ?_
    have hkx : k < ps.length := by omega
    obtain ⟨bp, op, cx, hA, _, hKx, hcx⟩ := hl.at_ hkx
    have hxl : cx.length = 15 := Kd.part.len hKx
    refine l_nil ?_
    refine s_seq ?_
    refine s_then rfl ?_
    refine s_skip ?_
    refine s_seq ?_
    refine s_block ?_
    refine s_seq ?_
    refine s_region ?_
    refine l_r (r_indexA rfl hA rfl (by omega) (by omega) el28) rfl ?_
    refine l_r (r_loadN rfl ag48 (hcx.on hs2) (by rw [hxl]; exact sz48)) rfl ?_
    refine l_alloc zz48 rfl hs2 ?_
    intro w4 b7 hb7 hx4 hs4
    refine l_storeAll rfl rfl (by rw [hxl]; exact sz48) (Kd.part.one hKx) (Nat.zero_le _) hs4 Repl.here (by rw [hxl]; rfl) ?_
    intro w5 hz5 hk5 hs5
    refine l_nil ?_
    refine s_region ?_
    refine l_r (r_move rfl) rfl ?_
    refine l_r (r_loadNp rfl hs5 Repl.here ag48 (by rw [hxl]; exact sz48)) rfl ?_
    refine l_call rfl rfl fk20 rfl (own_any w5 hxl (Kd.part.one hKx) (Kd.part.move (fun k _ hk => (hs5).below.block k hk) hKx) (hsm _ (List.getElem_mem hkx))) ?_
    rintro _ w6 ⟨cs, vS, vQ, csS, csQ, F2, rfl, hR, hc6⟩
    have hO := hc6.get (r := .ro _ _) (List.mem_cons_of_mem _ (List.mem_cons_of_mem _ List.mem_cons_self))
    obtain ⟨hOl, hO1⟩ := own_one hO (row_val (hc6.get (r := .row _ _ _ _ _ _) List.mem_cons_self)) (row_val (hc6.get (r := .row _ _ _ _ _ _) (List.mem_cons_of_mem _ List.mem_cons_self)))
    have hs6 := hs5.call hc6
    refine ⟨_, rfl, ?_⟩
    refine l_bsN (m := 1) (vs := [.agg cs.toArray]) (cs := cs) Try.underlying28 sz48 (by rw [zz48]; rfl) rfl rfl (by intro v hv; rw [List.mem_singleton.1 hv]; exact hOl) (by simp [Value.cells]) (by decide) rfl hs6 ?_
    intro w7 bn hbn hx7 hs7
    refine l_appendP (news := cs) (base := 0) Try.underlying28 rw48 rfl rfl rfl rfl hs7 Repl.here (by rw [hOl]) hO1 (by omega) rfl (Nat.zero_le _) (Nat.zero_le _) (fun v' => (Repl.there (Repl.there (Repl.there (Repl.there (Repl.there (Repl.there Repl.here))))))) rfl ?_
    intro v8 w8 hz8 hk8 hs8
    refine l_r (r_assign rfl) rfl ?_
    refine l_nil ?_
    refine s_mark ?_
    refine s_region ?_
    refine l_r (r_inc rfl (by omega)) rfl ?_
    refine l_r (r_move rfl) rfl ?_
    refine l_nil ?_
    refine s_again ?_
    exact ⟨_, [(2, .pointer (some ⟨b2, 0, none⟩)), (5, v8), (12, .slice A ps.length c), (13, .int .i64 (ps.length : Int)), (14, .int .i64 (((k + 1) : Nat) : Int))], by omega, (.cons rfl (.cons rfl (.cons rfl (.cons rfl (.cons rfl .nil))))), ⟨(k + 1), (xs ++ [OP.mk ps[k] cs vS vQ csS csQ]), v8, (fun b => F2 b ∨ F b), rfl, rfl, ⟨by omega, by rw [List.map_append, hxs]; exact List.take_append_getElem hkx, by
          have h := ((hs8.tail).toFront 3 rfl).tail
          have h := h.toFront 3 rfl
          exact ops_box (x := OP.mk ps[k] cs vS vQ csS csQ) hR h⟩⟩⟩
  ·
    refine l_r (r_cmp rfl rfl (b := false) (congrArg some (decide_eq_false hc3))) rfl ?_
    have hkl : k = ps.length := by omega
    subst hkl
    have hxl : xs.length = ps.length := by have := congrArg List.length hxs; simp at this; omega
    have hxs : xs.map OP.p = (cf.Channels.take 0).foldl stepL ps := by rw [hxs, List.take_length]; rfl
    obtain ⟨Av, cv, hv, _, _, _, hAv⟩ := row_slice (hs2.get (r := .row 0 48 15 v xs.length _) (List.mem_cons_of_mem _ List.mem_cons_self))
    rw [hxl] at hv
    subst hv
    refine l_nil ?_
    refine s_seq ?_
    refine s_else rfl ?_
    refine s_exit rfl ?_
    refine s_seq ?_
    refine s_seq ?_
    refine s_region ?_
    refine l_r (r_field rfl fo27_5) rfl ?_
    refine l_r (r_load1p rfl hs2 Repl.here ag25 rfl) rfl ?_
    refine l_r (r_len rfl el25) rfl ?_
    refine l_r (r_move rfl) rfl ?_
    refine l_nil ?_
    refine s_block ?_
    refine s_loop (fun m L wl => ∃ (k : Nat) (xs : List OP) (F : Nat → Prop) (Av : Option Addr), L = [(5, .slice Av ps.length cv), (25, .slice A5 cf.Channels.length c5), (26, .int .i64 (cf.Channels.length : Int)), (27, .int .i64 ((k : Nat) : Int))] ∧ m = cf.Channels.length - k ∧ k ≤ cf.Channels.length ∧ xs.map OP.p = (cf.Channels.take k).foldl stepL ps ∧ xs.length = ps.length ∧ (∀ p, Av = some p → ∃ g, p = ⟨g, 0, none⟩) ∧ St 0 w wl (OPs xs (.slice Av ps.length cv) F)) _ [(5, .slice Av ps.length cv), (25, .slice A5 cf.Channels.length c5), (26, .int .i64 (cf.Channels.length : Int)), (27, .int .i64 ((0 : Nat) : Int))] (.cons rfl (.cons rfl (.cons rfl (.cons rfl .nil)))) ⟨0, xs, F, Av, rfl, rfl, ⟨Nat.zero_le _, hxs, hxl, hAv, hs2.tail⟩⟩ ?_
    rintro _ _ w9 ⟨k, xs, F, Av, rfl, rfl, hk2, hxs, hxl, hAv, hs9⟩
    have hcl5 := hch.len
    refine s_seq ?_
    refine s_region ?_
    by_cases hc10 : (k : Int) < (cf.Channels.length : Int)
    ·
      refine l_r (r_cmp rfl rfl (b := true) (congrArg some (decide_eq_true hc10))) rfl ?_
      have hkx : k < cf.Channels.length := by omega
      obtain ⟨b5, o5, cx5, hA5, _, hKx5, hcx5⟩ := hch.at_ hkx
      have hxk : cf.Channels[k]? = some cf.Channels[k] := List.getElem?_eq_getElem hkx
      rcases hxe : cf.Channels[k] with ⟨qu, fr, a, to, b⟩
      rw [hxe] at hKx5 hxk
      obtain rfl : cx5 = [.bool qu, .int .i64 fr, .int .i64 a, .int .i64 to, .int .i64 b] := hKx5
      refine l_nil ?_
      refine s_seq ?_
      refine s_then rfl ?_
      refine s_skip ?_
      refine s_seq ?_
      refine s_block ?_
      refine s_seq ?_
      refine s_region ?_
      by_cases hc11 : 0 ≤ fr ∧ fr < (ps.length : Int)
      ·
        refine l_r (r_indexA rfl hA5 rfl (by omega) (by omega) el25) rfl ?_
        obtain ⟨i, rfl⟩ := Int.eq_ofNat_of_zero_le hc11.1
        by_cases hc12 : 0 ≤ to ∧ to < (ps.length : Int)
        ·
          refine l_r (r_loadN rfl ag32 (hcx5.on hs9) sz32) rfl ?_
          obtain ⟨j, rfl⟩ := Int.eq_ofNat_of_zero_le hc12.1
          refine l_alloc zz32 rfl hs9 ?_
          intro w13 b9 hb9 hx13 hs13
          refine l_storeAll rfl rfl sz32 (by intro u hu; simp only [List.mem_cons, List.not_mem_nil, or_false] at hu; rcases hu with rfl | rfl | rfl | rfl | rfl <;> rfl) (Nat.zero_le _) hs13 Repl.here rfl ?_
          intro w14 hz14 hk14 hs14
          refine l_nil ?_
          refine s_seq ?_
          have hAn : Av ≠ none := by
            intro h0
            have := St.get (r := .row 0 48 15 _ xs.length _) hs14 (List.mem_cons_of_mem _ List.mem_cons_self)
            have := row_none_len this h0
            omega
          obtain ⟨gv, hgv⟩ : ∃ gv, Av = some ⟨gv, 0, none⟩ := by
            cases h0 : Av with
            | none => exact absurd h0 hAn
            | some p => obtain ⟨g, hg⟩ := hAv p h0; exact ⟨g, by rw [hg]⟩
          subst hgv
          refine s_quiet (by kernel_rfl) (by kernel_rfl) ?_
          refine qq_r (fun w' hw' => r_move rfl) rfl ?_
          refine qq_r (fun w' hw' => r_field rfl fo32_1) rfl ?_
          refine qq_r (fun w' hw' => r_load1p rfl (hs14.ext hw') Repl.here ag3 rfl) rfl ?_
          refine qq_call rfl rfl fk21 (fun w' _ => (at21_in (b := gv) (o := 0) (c := cv) (i : Int) w' hc11.1 hc11.2).mono (fun e w1 ⟨he, hw⟩ => ⟨he, hw ▸ Ext.refl _⟩)) rfl ?_
          refine qq_r (fun w' hw' => r_move rfl) rfl ?_
          refine qq_r (fun w' hw' => r_field rfl fo32_3) rfl ?_
          refine qq_r (fun w' hw' => r_load1p rfl (hs14.ext hw') Repl.here ag3 rfl) rfl ?_
          refine qq_call rfl rfl fk21 (fun w' _ => (at21_in (b := gv) (o := 0) (c := cv) (j : Int) w' hc12.1 hc12.2).mono (fun e w1 ⟨he, hw⟩ => ⟨he, hw ▸ Ext.refl _⟩)) rfl ?_
          refine qq_r (fun w' hw' => r_assign rfl) rfl ?_
          refine qq_r (fun w' hw' => r_assign rfl) rfl ?_
          refine qq_nil ?_
          intro w15 hx15
          have hs15 := hs14.ext hx15
          refine s_block ?_
          refine s_seq ?_
          refine s_region ?_
          refine l_r (r_move rfl) rfl ?_
          refine l_r (r_eqpnil rfl rfl Try.underlying59) rfl ?_
          refine l_r (r_move rfl) rfl ?_
          refine l_on (dj := 46) rfl rfl rfl ?_
          refine l_r (r_move rfl) rfl ?_
          refine l_on (dj := 46) rfl rfl rfl ?_
          refine l_r (r_eqpnil rfl rfl Try.underlying59) rfl ?_
          refine l_r (r_pick_f rfl rfl) rfl ?_
          refine l_r (r_assign rfl) rfl ?_
          refine l_nil ?_
          refine s_else rfl ?_
          refine s_seq ?_
          refine s_region ?_
          refine l_r (r_field rfl fo32_0) rfl ?_
          refine l_r (r_load1p rfl hs15 Repl.here ag4 rfl) rfl ?_
          refine l_r (r_assign rfl) rfl ?_
          refine l_nil ?_
          refine s_cond rfl (fun hqu => ?_) (fun hqu => ?_)
          ·
            refine s_region ?_
            refine l_r (r_move rfl) rfl ?_
            refine l_r (r_move rfl) rfl ?_
            refine l_r (r_loadNp rfl hs15 Repl.here ag32 sz32) rfl ?_
            subst hqu
            have hQ : QB (xs.map OP.p) 100000000 := by rw [hxs]; exact hQk k
            have hsn : St 0 w w15 (OPs xs (.slice (some ⟨gv, 0, none⟩) xs.length cv) F) := by rw [hxl]; exact hs15.tail
            refine l_call rfl rfl fk22 rfl (queues_any (g := gv) (c := cv) (i := i) (j := j) (a := a) (b := b) hsn (List.getElem?_eq_getElem (by omega)) (List.getElem?_eq_getElem (by omega)) (fun z hz q hq => hQ z.p (List.mem_map_of_mem hz) q hq)) ?_
            rintro _ w17 ⟨rfl, xs2, F2, hs17, hl2, hm2⟩
            rw [hxl] at hs17 hl2
            refine ⟨_, rfl, ?_⟩
            refine l_nil ?_
            refine s_mark ?_
            refine s_mark ?_
            refine s_region ?_
            refine l_r (r_inc rfl (by omega)) rfl ?_
            refine l_r (r_move rfl) rfl ?_
            refine l_nil ?_
            refine s_again ?_
            exact ⟨_, [(5, .slice (some ⟨gv, 0, none⟩) ps.length cv), (25, .slice A5 cf.Channels.length c5), (26, .int .i64 (cf.Channels.length : Int)), (27, .int .i64 (((k + 1) : Nat) : Int))], by omega, (.cons rfl (.cons rfl (.cons rfl (.cons rfl .nil)))), ⟨(k + 1), xs2, F2, (some ⟨gv, 0, none⟩), rfl, rfl, ⟨by omega, by rw [fold_take hxk, ← hxs]; exact hm2, hl2, hAv, hs17⟩⟩⟩
          ·
            refine s_region ?_
            refine l_r (r_move rfl) rfl ?_
            refine l_r (r_move rfl) rfl ?_
            refine l_r (r_loadNp rfl hs15 Repl.here ag32 sz32) rfl ?_
            subst hqu
            have hQ : QB (xs.map OP.p) 100000000 := by rw [hxs]; exact hQk k
            have hsn : St 0 w w15 (OPs xs (.slice (some ⟨gv, 0, none⟩) xs.length cv) F) := by rw [hxl]; exact hs15.tail
            refine l_call rfl rfl fk23 rfl (samples_any (g := gv) (c := cv) (i := i) (j := j) (a := a) (b := b) hsn (List.getElem?_eq_getElem (by omega)) (List.getElem?_eq_getElem (by omega))) ?_
            rintro _ w18 ⟨rfl, xs2, F2, hs18, hl2, hm2⟩
            rw [hxl] at hs18 hl2
            refine ⟨_, rfl, ?_⟩
            refine l_nil ?_
            refine s_mark ?_
            refine s_mark ?_
            refine s_region ?_
            refine l_r (r_inc rfl (by omega)) rfl ?_
            refine l_r (r_move rfl) rfl ?_
            refine l_nil ?_
            refine s_again ?_
            exact ⟨_, [(5, .slice (some ⟨gv, 0, none⟩) ps.length cv), (25, .slice A5 cf.Channels.length c5), (26, .int .i64 (cf.Channels.length : Int)), (27, .int .i64 (((k + 1) : Nat) : Int))], by omega, (.cons rfl (.cons rfl (.cons rfl (.cons rfl .nil)))), ⟨(k + 1), xs2, F2, (some ⟨gv, 0, none⟩), rfl, rfl, ⟨by omega, by rw [fold_take hxk, ← hxs]; exact hm2, hl2, hAv, hs18⟩⟩⟩
        ·
          refine l_r (r_loadN rfl ag32 (hcx5.on hs9) sz32) rfl ?_
          refine l_alloc zz32 rfl hs9 ?_
          intro w19 b9 hb9 hx19 hs19
          refine l_storeAll rfl rfl sz32 (by intro u hu; simp only [List.mem_cons, List.not_mem_nil, or_false] at hu; rcases hu with rfl | rfl | rfl | rfl | rfl <;> rfl) (Nat.zero_le _) hs19 Repl.here rfl ?_
          intro w20 hz20 hk20 hs20
          refine l_nil ?_
          refine s_seq ?_
          have hAn : Av ≠ none := by
            intro h0
            have := St.get (r := .row 0 48 15 _ xs.length _) hs20 (List.mem_cons_of_mem _ List.mem_cons_self)
            have := row_none_len this h0
            omega
          obtain ⟨gv, hgv⟩ : ∃ gv, Av = some ⟨gv, 0, none⟩ := by
            cases h0 : Av with
            | none => exact absurd h0 hAn
            | some p => obtain ⟨g, hg⟩ := hAv p h0; exact ⟨g, by rw [hg]⟩
          subst hgv
          refine s_quiet (by kernel_rfl) (by kernel_rfl) ?_
          refine qq_r (fun w' hw' => r_move rfl) rfl ?_
          refine qq_r (fun w' hw' => r_field rfl fo32_1) rfl ?_
          refine qq_r (fun w' hw' => r_load1p rfl (hs20.ext hw') Repl.here ag3 rfl) rfl ?_
          refine qq_call rfl rfl fk21 (fun w' _ => (at21_in (b := gv) (o := 0) (c := cv) (i : Int) w' hc11.1 hc11.2).mono (fun e w1 ⟨he, hw⟩ => ⟨he, hw ▸ Ext.refl _⟩)) rfl ?_
          refine qq_r (fun w' hw' => r_move rfl) rfl ?_
          refine qq_r (fun w' hw' => r_field rfl fo32_3) rfl ?_
          refine qq_r (fun w' hw' => r_load1p rfl (hs20.ext hw') Repl.here ag3 rfl) rfl ?_
          refine qq_call rfl rfl fk21 (fun w' _ => (at21_out (A := some ⟨gv, 0, none⟩) (c := cv) to w' hc12).mono (fun e w1 ⟨he, hw⟩ => ⟨he, hw ▸ Ext.refl _⟩)) rfl ?_
          refine qq_r (fun w' hw' => r_assign rfl) rfl ?_
          refine qq_r (fun w' hw' => r_assign rfl) rfl ?_
          refine qq_nil ?_
          intro w21 hx21
          have hs21 := hs20.ext hx21
          refine s_block ?_
          refine s_seq ?_
          refine s_region ?_
          refine l_r (r_move rfl) rfl ?_
          refine l_r (r_eqpnil rfl rfl Try.underlying59) rfl ?_
          refine l_r (r_move rfl) rfl ?_
          refine l_on (dj := 46) rfl rfl rfl ?_
          refine l_r (r_move rfl) rfl ?_
          refine l_on (dj := 46) rfl rfl rfl ?_
          refine l_r (r_eqpnil rfl rfl Try.underlying59) rfl ?_
          refine l_r (r_pick_f rfl rfl) rfl ?_
          refine l_r (r_assign rfl) rfl ?_
          refine l_nil ?_
          refine s_then rfl ?_
          refine s_skip ?_
          refine s_mark ?_
          refine s_mark ?_
          refine s_region ?_
          refine l_r (r_inc rfl (by omega)) rfl ?_
          refine l_r (r_move rfl) rfl ?_
          refine l_nil ?_
          refine s_again ?_
          exact ⟨_, [(5, .slice (some ⟨gv, 0, none⟩) ps.length cv), (25, .slice A5 cf.Channels.length c5), (26, .int .i64 (cf.Channels.length : Int)), (27, .int .i64 (((k + 1) : Nat) : Int))], by omega, (.cons rfl (.cons rfl (.cons rfl (.cons rfl .nil)))), ⟨(k + 1), xs, F, (some ⟨gv, 0, none⟩), rfl, rfl, ⟨by omega, by rw [fold_take hxk, step_none (.inr (by rw [fold_len]; exact hc12))]; exact hxs, hxl, hAv, hs21.tail⟩⟩⟩
      ·
        refine l_r (r_indexA rfl hA5 rfl (by omega) (by omega) el25) rfl ?_
        by_cases hc22 : 0 ≤ to ∧ to < (ps.length : Int)
        ·
          refine l_r (r_loadN rfl ag32 (hcx5.on hs9) sz32) rfl ?_
          obtain ⟨j, rfl⟩ := Int.eq_ofNat_of_zero_le hc22.1
          refine l_alloc zz32 rfl hs9 ?_
          intro w23 b9 hb9 hx23 hs23
          refine l_storeAll rfl rfl sz32 (by intro u hu; simp only [List.mem_cons, List.not_mem_nil, or_false] at hu; rcases hu with rfl | rfl | rfl | rfl | rfl <;> rfl) (Nat.zero_le _) hs23 Repl.here rfl ?_
          intro w24 hz24 hk24 hs24
          refine l_nil ?_
          refine s_seq ?_
          have hAn : Av ≠ none := by
            intro h0
            have := St.get (r := .row 0 48 15 _ xs.length _) hs24 (List.mem_cons_of_mem _ List.mem_cons_self)
            have := row_none_len this h0
            omega
          obtain ⟨gv, hgv⟩ : ∃ gv, Av = some ⟨gv, 0, none⟩ := by
            cases h0 : Av with
            | none => exact absurd h0 hAn
            | some p => obtain ⟨g, hg⟩ := hAv p h0; exact ⟨g, by rw [hg]⟩
          subst hgv
          refine s_quiet (by kernel_rfl) (by kernel_rfl) ?_
          refine qq_r (fun w' hw' => r_move rfl) rfl ?_
          refine qq_r (fun w' hw' => r_field rfl fo32_1) rfl ?_
          refine qq_r (fun w' hw' => r_load1p rfl (hs24.ext hw') Repl.here ag3 rfl) rfl ?_
          refine qq_call rfl rfl fk21 (fun w' _ => (at21_out (A := some ⟨gv, 0, none⟩) (c := cv) fr w' hc11).mono (fun e w1 ⟨he, hw⟩ => ⟨he, hw ▸ Ext.refl _⟩)) rfl ?_
          refine qq_r (fun w' hw' => r_move rfl) rfl ?_
          refine qq_r (fun w' hw' => r_field rfl fo32_3) rfl ?_
          refine qq_r (fun w' hw' => r_load1p rfl (hs24.ext hw') Repl.here ag3 rfl) rfl ?_
          refine qq_call rfl rfl fk21 (fun w' _ => (at21_in (b := gv) (o := 0) (c := cv) (j : Int) w' hc22.1 hc22.2).mono (fun e w1 ⟨he, hw⟩ => ⟨he, hw ▸ Ext.refl _⟩)) rfl ?_
          refine qq_r (fun w' hw' => r_assign rfl) rfl ?_
          refine qq_r (fun w' hw' => r_assign rfl) rfl ?_
          refine qq_nil ?_
          intro w25 hx25
          have hs25 := hs24.ext hx25
          refine s_block ?_
          refine s_seq ?_
          refine s_region ?_
          refine l_r (r_move rfl) rfl ?_
          refine l_r (r_eqpnil rfl rfl Try.underlying59) rfl ?_
          refine l_r (r_move rfl) rfl ?_
          refine l_off (dj := 46) (b := true) rfl rfl rfl rfl rfl ?_
          refine l_off (dj := 46) (b := true) rfl rfl rfl rfl rfl ?_
          refine l_r (r_pick_t rfl rfl) rfl ?_
          refine l_r (r_assign rfl) rfl ?_
          refine l_nil ?_
          refine s_then rfl ?_
          refine s_skip ?_
          refine s_mark ?_
          refine s_mark ?_
          refine s_region ?_
          refine l_r (r_inc rfl (by omega)) rfl ?_
          refine l_r (r_move rfl) rfl ?_
          refine l_nil ?_
          refine s_again ?_
          exact ⟨_, [(5, .slice (some ⟨gv, 0, none⟩) ps.length cv), (25, .slice A5 cf.Channels.length c5), (26, .int .i64 (cf.Channels.length : Int)), (27, .int .i64 (((k + 1) : Nat) : Int))], by omega, (.cons rfl (.cons rfl (.cons rfl (.cons rfl .nil)))), ⟨(k + 1), xs, F, (some ⟨gv, 0, none⟩), rfl, rfl, ⟨by omega, by rw [fold_take hxk, step_none (.inl (by rw [fold_len]; exact hc11))]; exact hxs, hxl, hAv, hs25.tail⟩⟩⟩
        ·
          refine l_r (r_loadN rfl ag32 (hcx5.on hs9) sz32) rfl ?_
          refine l_alloc zz32 rfl hs9 ?_
          intro w26 b9 hb9 hx26 hs26
          refine l_storeAll rfl rfl sz32 (by intro u hu; simp only [List.mem_cons, List.not_mem_nil, or_false] at hu; rcases hu with rfl | rfl | rfl | rfl | rfl <;> rfl) (Nat.zero_le _) hs26 Repl.here rfl ?_
          intro w27 hz27 hk27 hs27
          refine l_nil ?_
          refine s_seq ?_
          refine s_quiet (by kernel_rfl) (by kernel_rfl) ?_
          refine qq_r (fun w' hw' => r_move rfl) rfl ?_
          refine qq_r (fun w' hw' => r_field rfl fo32_1) rfl ?_
          refine qq_r (fun w' hw' => r_load1p rfl (hs27.ext hw') Repl.here ag3 rfl) rfl ?_
          refine qq_call rfl rfl fk21 (fun w' _ => (at21_out (A := Av) (c := cv) fr w' hc11).mono (fun e w1 ⟨he, hw⟩ => ⟨he, hw ▸ Ext.refl _⟩)) rfl ?_
          refine qq_r (fun w' hw' => r_move rfl) rfl ?_
          refine qq_r (fun w' hw' => r_field rfl fo32_3) rfl ?_
          refine qq_r (fun w' hw' => r_load1p rfl (hs27.ext hw') Repl.here ag3 rfl) rfl ?_
          refine qq_call rfl rfl fk21 (fun w' _ => (at21_out (A := Av) (c := cv) to w' hc22).mono (fun e w1 ⟨he, hw⟩ => ⟨he, hw ▸ Ext.refl _⟩)) rfl ?_
          refine qq_r (fun w' hw' => r_assign rfl) rfl ?_
          refine qq_r (fun w' hw' => r_assign rfl) rfl ?_
          refine qq_nil ?_
          intro w28 hx28
          have hs28 := hs27.ext hx28
          refine s_block ?_
          refine s_seq ?_
          refine s_region ?_
          refine l_r (r_move rfl) rfl ?_
          refine l_r (r_eqpnil rfl rfl Try.underlying59) rfl ?_
          refine l_r (r_move rfl) rfl ?_
          refine l_off (dj := 46) (b := true) rfl rfl rfl rfl rfl ?_
          refine l_off (dj := 46) (b := true) rfl rfl rfl rfl rfl ?_
          refine l_r (r_pick_t rfl rfl) rfl ?_
          refine l_r (r_assign rfl) rfl ?_
          refine l_nil ?_
          refine s_then rfl ?_
          refine s_skip ?_
          refine s_mark ?_
          refine s_mark ?_
          refine s_region ?_
          refine l_r (r_inc rfl (by omega)) rfl ?_
          refine l_r (r_move rfl) rfl ?_
          refine l_nil ?_
          refine s_again ?_
          exact ⟨_, [(5, .slice Av ps.length cv), (25, .slice A5 cf.Channels.length c5), (26, .int .i64 (cf.Channels.length : Int)), (27, .int .i64 (((k + 1) : Nat) : Int))], by omega, (.cons rfl (.cons rfl (.cons rfl (.cons rfl .nil)))), ⟨(k + 1), xs, F, Av, rfl, rfl, ⟨by omega, by rw [fold_take hxk, step_none (.inl (by rw [fold_len]; exact hc11))]; exact hxs, hxl, hAv, hs28.tail⟩⟩⟩
    ·
      refine l_r (r_cmp rfl rfl (b := false) (congrArg some (decide_eq_false hc10))) rfl ?_
      refine l_nil ?_
      refine s_seq ?_
      refine s_else rfl ?_
      refine s_exit rfl ?_
      refine s_seq ?_
      refine s_region ?_
      refine l_r (r_move rfl) rfl ?_
      refine l_r (r_assign rfl) rfl ?_
      refine l_nil ?_
      refine s_ret ?_
      exact q_done (.inr rfl) (.tmp rfl .nil) ⟨_, xs, F, rfl, hs9, by rw [hxs, show k = cf.Channels.length by omega, List.take_length]; rfl⟩

theorem move_valK {cf : TConfig} {pl : List Value} {ps : List TPart} {A : Option Addr} {c : Nat} {ok ok2 : Nat → Prop} (w : World) (hKl : Kd.config.K w ok cf pl) (hx : Sl Kd.part w ok2 A c ps) (hn : ps.length ≤ 100000000) (hsm : ∀ p, p ∈ ps → PartSmall p) (hQk : ∀ k, QB ((cf.Channels.take k).foldl stepL ps) 100000000) :
    Calls Try.prog 12 #[.agg pl.toArray, .slice A ps.length c] w (fun e w' => ∃ A' c', e = .returned (.slice A' (moveL cf ps).length c') ∧ Ext w w' ∧ Sl Kd.part w' (fun _ => True) A' c' (moveL cf ps)) := by
  obtain ⟨A2, c2, A3, c3, A4, c4, A5, c5, rfl, h2, h3, h4, h5⟩ := hKl
  refine (move_anyK w hx h5 hn hsm hQk).mono fun e w' ⟨v, xs, F, he, hs, hm⟩ => ?_
  obtain ⟨A', c', hv, hsl⟩ := ops_sl hs
  subst he
  rw [hm] at hv hsl
  exact ⟨A', c', by rw [hv], hs.toExt, hsl⟩

set_option maxRecDepth 100000 in
set_option maxHeartbeats 4000000 in
theorem channelMoves_any {cf : TConfig} {pl : List Value} {ps : List TPart} {A : Option Addr} {c : Nat} {part : Int} (w : World) {ok ok2 : Nat → Prop} (hKl : Kd.config.K w ok cf pl) (hx : Sl Kd.part w ok2 A c ps) (hsm : ∀ p, p ∈ ps → PartSmall p) :
    Calls Try.prog 3 #[.agg pl.toArray, .slice A ps.length c, .int .i64 part] w (fun e w' => e = .returned (.bool true) ∧ Ext w w') := by
  refine q_call (n := 82) (args := [.agg pl.toArray, .slice A ps.length c, .int .i64 part]) Try.func3 rfl rfl rfl ?_
  have hs0 := St.refl 0 w
  have hKl0 := hKl
  obtain ⟨Al_2, cl_2, Al_3, cl_3, Al_4, cl_4, Al_5, cl_5, rfl, hl_2, hl_3, hl_4, hl_5⟩ := hKl
  have hle2 := hl_2.len
  have hle3 := hl_3.len
  have hle4 := hl_4.len
  have hle5 := hl_5.len
  have hlx := hx.len
  refine s_seq ?_
  refine s_region ?_
  refine l_box rfl rfl rfl hs0 ?_
  intro w1 b3 hb3 hx1 hs1
  refine l_r (r_assign rfl) rfl ?_
  refine l_nil ?_
  refine s_seq ?_
  refine s_region ?_
  refine l_call rfl rfl fk9 rfl (awake_ok w1) ?_
  rintro _ w2 ⟨rfl, hx2⟩
  have hs2 := hs1.ext hx2
  refine ⟨_, rfl, ?_⟩
  refine l_r (r_assign rfl) rfl ?_
  refine l_nil ?_
  refine s_seq ?_
  refine s_region ?_
  refine l_r (r_loadNp rfl hs2 Repl.here ag27 sz27) rfl ?_
  refine l_r (r_move rfl) rfl ?_
  refine l_call rfl rfl fk10 rfl (few_any w2 (Kd.config.on hKl0 hs2) (hx.onk hs2) hsm) ?_
  rintro _ w3 ⟨bb3, rfl, hb3, hc3⟩
  have hs3 := hs2.call0 hc3
  refine ⟨_, rfl, ?_⟩
  refine l_r (r_assign rfl) rfl ?_
  refine l_nil ?_
  refine s_seq ?_
  refine s_seq ?_
  refine s_region ?_
  refine l_r (r_move rfl) rfl ?_
  refine l_r (r_not rfl) rfl ?_
  refine l_r (r_move rfl) rfl ?_
  refine l_on (dj := 20) rfl rfl rfl ?_
  refine l_r (r_move rfl) rfl ?_
  refine l_on (dj := 20) rfl rfl rfl ?_
  refine l_r (r_not rfl) rfl ?_
  refine l_r (r_pick_f rfl rfl) rfl ?_
  refine l_nil ?_
  refine s_part (dj := 23) rfl (fun hc4 => ?_) (fun hc4 => ?_)
  ·
    have hc4n := Bool.not_eq_true' _ |>.mp hc4
    refine s_then rfl ?_
    refine s_seq ?_
    refine s_region ?_
    refine l_r (r_move rfl) rfl ?_
    refine l_r (r_assign rfl) rfl ?_
    refine l_nil ?_
    refine s_ret ?_
    exact q_done (.inr rfl) (.tmp rfl .nil) ⟨rfl, hs3.toExt⟩
  ·
    have hc4n := Bool.not_eq_false' _ |>.mp hc4
    refine s_else rfl ?_
    refine s_skip ?_
    refine s_seq ?_
    refine s_seq ?_
    obtain ⟨hfc, hn8, hq20⟩ := hb3 hc4n
    have hml := moveL_len cf ps
    have hpow : 20 * 2 ^ cf.Channels.length ≤ 100000000 := Nat.le_trans (Nat.mul_le_mul_left _ (Nat.pow_le_pow_right (by decide) hfc.2.2.2.1)) (by decide)
    have hp2 : cf.Parts.length ≤ 2000000 := Nat.le_trans hfc.2.1 (by decide)
    refine s_region ?_
    refine l_r (r_assign rfl) rfl ?_
    refine l_nil ?_
    refine s_block ?_
    refine s_loop (fun m L wl => ∃ (k : Nat), L = [(9, .int .i64 ((k : Nat) : Int)), (1, .slice A ps.length c), (2, .int .i64 part), (3, .pointer (some ⟨b3, 0, none⟩))] ∧ m = cf.Channels.length - k ∧ k ≤ cf.Channels.length ∧ St 0 w wl [.pt b3 [.int .i64 cf.Frame, .int .i64 cf.Switch, .slice Al_2 cf.Lines.length cl_2, .slice Al_3 cf.Parts.length cl_3, .slice Al_4 cf.Windows.length cl_4, .slice Al_5 cf.Channels.length cl_5] 27]) _ [(9, .int .i64 ((0 : Nat) : Int)), (1, .slice A ps.length c), (2, .int .i64 part), (3, .pointer (some ⟨b3, 0, none⟩))] (.cons rfl (.cons rfl (.cons rfl (.cons rfl .nil)))) ⟨0, rfl, rfl, Nat.zero_le _, hs3⟩ ?_
    rintro _ _ w5 ⟨k, rfl, rfl, hkk, hs5⟩
    refine s_seq ?_
    refine s_seq ?_
    refine s_region ?_
    refine l_r (r_move rfl) rfl ?_
    refine l_r (r_field rfl fo27_5) rfl ?_
    refine l_r (r_load1p rfl hs5 Repl.here ag25 rfl) rfl ?_
    refine l_r (r_len rfl el25) rfl ?_
    refine l_r (r_cmp rfl rfl rfl) rfl ?_
    refine l_nil ?_
    refine s_part (dj := 29) rfl (fun hc6 => ?_) (fun hc6 => ?_)
    ·
      have hc6p := of_decide_eq_true hc6
      refine s_then rfl ?_
      refine s_skip ?_
      refine s_seq ?_
      refine s_block ?_
      refine s_seq ?_
      refine s_quiet (by kernel_rfl) (by kernel_rfl) ?_
      refine qq_r (fun w' hw' => r_field rfl fo27_5) rfl ?_
      refine qq_r (fun w' hw' => r_load1p rfl (hs5.ext hw') Repl.here ag25 rfl) rfl ?_
      refine qq_r (fun w' hw' => r_move rfl) rfl ?_
      obtain ⟨e7x, e7h, e7b, e7o, e7cs, e7A, _, e7K, e7c⟩ := hl_5.get_ (i := k) (by omega)
      obtain rfl : e7cs = [.bool e7x.Queuing, .int .i64 e7x.From, .int .i64 e7x.A, .int .i64 e7x.To, .int .i64 e7x.B] := e7K
      refine qq_r (fun w' hw' => r_indexA rfl e7A rfl (by omega) (by omega) el25) rfl ?_
      refine qq_r (fun w' hw' => r_field rfl fo32_1) rfl ?_
      refine qq_r (fun w' hw' => r_load1 rfl ag3 ((e7c.on (hs5.ext hw')).get (j := 1) rfl)) rfl ?_
      refine qq_r (fun w' hw' => r_field rfl fo27_5) rfl ?_
      refine qq_r (fun w' hw' => r_load1p rfl (hs5.ext hw') Repl.here ag25 rfl) rfl ?_
      refine qq_r (fun w' hw' => r_move rfl) rfl ?_
      refine qq_r (fun w' hw' => r_indexA rfl e7A rfl (by omega) (by omega) el25) rfl ?_
      refine qq_r (fun w' hw' => r_field rfl fo32_3) rfl ?_
      refine qq_r (fun w' hw' => r_load1 rfl ag3 ((e7c.on (hs5.ext hw')).get (j := 3) rfl)) rfl ?_
      refine qq_r (fun w' hw' => r_cmp rfl rfl rfl) rfl ?_
      refine qq_nil ?_
      intro w8 hx8
      have hs8 := hs5.ext hx8
      refine s_part (dj := 44) rfl (fun hc9 => ?_) (fun hc9 => ?_)
      ·
        have hc9p := beq_iff_eq.1 hc9
        refine s_then rfl ?_
        refine s_seq ?_
        refine s_region ?_
        refine l_r (r_assign rfl) rfl ?_
        refine l_nil ?_
        refine s_ret ?_
        exact q_done (.inr rfl) (.tmp rfl .nil) ⟨rfl, hs8.toExt⟩
      ·
        have hc9p := beq_eq_false_iff_ne.1 hc9
        refine s_else rfl ?_
        refine s_skip ?_
        refine s_mark ?_
        refine s_region ?_
        refine l_r (r_move rfl) rfl ?_
        refine l_r (r_inc rfl (by omega)) rfl ?_
        refine l_r (r_assign rfl) rfl ?_
        refine l_nil ?_
        refine s_again ?_
        exact ⟨_, [(9, .int .i64 (((k + 1) : Nat) : Int)), (1, .slice A ps.length c), (2, .int .i64 part), (3, .pointer (some ⟨b3, 0, none⟩))], by omega, (.cons rfl (.cons rfl (.cons rfl (.cons rfl .nil)))), ⟨(k + 1), rfl, rfl, by omega, hs8⟩⟩
    ·
      have hc6p := of_decide_eq_false hc6
      refine s_else rfl ?_
      refine s_exit rfl ?_
      refine s_seq ?_
      have hcb3 : Cells w5 b3 0 [.int .i64 cf.Frame, .int .i64 cf.Switch, .slice Al_2 cf.Lines.length cl_2, .slice Al_3 cf.Parts.length cl_3, .slice Al_4 cf.Windows.length cl_4, .slice Al_5 cf.Channels.length cl_5] := heap_all (hs5.get (r := .pt b3 _ _) List.mem_cons_self)
      have hx := (hx.onk hs5).all_ (by decide)
      have hl_2 := (hl_2.onk hs5).all_ (by decide)
      have hl_3 := (hl_3.onk hs5).all_ (by decide)
      have hl_4 := (hl_4.onk hs5).all_ (by decide)
      have hl_5 := (hl_5.onk hs5).all_ (by decide)
      have hKl0 := Kd.config.on hKl0 hs5
      have hxb := hs5.toExt
      have hs10 := St.refl w5.heap.size w5
      refine s_any (by kernel_rfl) (fun w' => Ext w5 w') (fun L' w' => Sub [(10, .bool true), (1, .slice A ps.length c), (2, .int .i64 part), (3, .pointer (some ⟨b3, 0 + 0, none⟩))] L' ∧ Ext w5 w') ?_ ?_
      ·
        intro w11 hx11 hh11
        have hs11 := hs10.ext hx11
        refine wa_take 0 rfl (by kernel_rfl) (fun w' hw' => r_loadN rfl ag27 (hcb3.on ((St.refl w5.heap.size w5).ext hw')) sz27) (hs11.toExt) rfl ?_
        refine wa_take 1 rfl (by kernel_rfl) (fun w' hw' => r_move rfl) (hs11.toExt) rfl ?_
        refine wa_take 3 rfl (by kernel_rfl) (fun w' hw' => r_loadN rfl ag27 (hcb3.on ((St.refl w5.heap.size w5).ext hw')) sz27) (hs11.toExt) rfl ?_
        refine wa_take 4 rfl (by kernel_rfl) (fun w' hw' => r_move rfl) (hs11.toExt) rfl ?_
        refine wa_one [2] (by kernel_rfl) rfl ?_
        intro i hi
        simp only [List.mem_cons, List.not_mem_nil, or_false] at hi
        subst hi
        refine ⟨_, rfl, ?_⟩
        refine l_call rfl rfl fk12 rfl (move_val w11 (Kd.config.on hKl0 hs11) (hx.onk hs11) (by omega) hsm hq20 hpow) ?_
        rintro _ w12 ⟨Am1, cm1, rfl, hx12, hm1⟩
        have hs12 := hs11.ext hx12
        refine ⟨_, rfl, ?_⟩
        refine l_nil ⟨hs12.toExt, ?_⟩
        refine wa_one [5] (by kernel_rfl) rfl ?_
        intro i hi
        simp only [List.mem_cons, List.not_mem_nil, or_false] at hi
        subst hi
        refine ⟨_, rfl, ?_⟩
        refine l_call rfl rfl fk13 rfl (refmove_val w12 (Kd.config.on hKl0 hs12) (hx.onk hs12) (by omega) hsm hq20 hpow) ?_
        rintro _ w13 ⟨Am2, cm2, rfl, hx13, hm2⟩
        have hs13 := hs12.ext hx13
        refine ⟨_, rfl, ?_⟩
        refine l_nil ⟨hs13.toExt, ?_⟩
        refine wa_one [6] (by kernel_rfl) rfl ?_
        intro i hi
        simp only [List.mem_cons, List.not_mem_nil, or_false] at hi
        subst hi
        refine ⟨_, rfl, ?_⟩
        refine l_call rfl rfl fk11 rfl (same_parts w13 (hm1.onk ((St.refl 0 _).ext hx13)) hm2) ?_
        rintro _ w14 ⟨rfl, hc14⟩
        have hs14 := hs13.call0 hc14
        refine ⟨_, rfl, ?_⟩
        refine l_nil ⟨hs14.toExt, ?_⟩
        refine wa_take 7 rfl (by kernel_rfl) (fun w' hw' => r_assign rfl) (hs14.toExt) rfl ?_
        exact wa_done (by kernel_rfl) ⟨(.cons rfl (.cons rfl (.cons rfl (.cons rfl .nil)))), hs14.toExt⟩
      rintro _ w15 ⟨hsub, hxr⟩
      refine s_sub [(10, .bool true), (1, .slice A ps.length c), (2, .int .i64 part), (3, .pointer (some ⟨b3, 0 + 0, none⟩))] hsub ?_
      have hsr := (St.refl w5.heap.size w5).ext hxr
      have hx := (hx.onk hsr).all_ (by decide)
      have hcb3 := hcb3.on hsr
      have hl_2 := (hl_2.onk hsr).all_ (by decide)
      have hl_3 := (hl_3.onk hsr).all_ (by decide)
      have hl_4 := (hl_4.onk hsr).all_ (by decide)
      have hl_5 := (hl_5.onk hsr).all_ (by decide)
      have hKl0 := Kd.config.on hKl0 hsr
      have hxb := hxb.trans hsr.toExt
      have hs16 := St.refl w15.heap.size w15
      refine s_seq ?_
      refine s_region ?_
      refine l_r (r_loadN rfl ag27 (hcb3.on hs16) sz27) rfl ?_
      refine l_r (r_move rfl) rfl ?_
      have hcall := reach_val (part := part) w15 (Kd.config.on hKl0 hs16) hp2
      refine l_call rfl rfl fk14 rfl hcall ?_
      rintro _ w17 ⟨Ara, cra, rfl, hx17, hra⟩
      have hs17 := hs16.ext hx17
      refine ⟨_, rfl, ?_⟩
      have hx := (hx.onk hs17).all_ (by decide)
      have hcb3 := hcb3.on hs17
      have hl_2 := (hl_2.onk hs17).all_ (by decide)
      have hl_3 := (hl_3.onk hs17).all_ (by decide)
      have hl_4 := (hl_4.onk hs17).all_ (by decide)
      have hl_5 := (hl_5.onk hs17).all_ (by decide)
      have hKl0 := Kd.config.on hKl0 hs17
      have hxb := hxb.trans hs17.toExt
      have hs18 := St.refl w17.heap.size w17
      have hlra := hra.len
      refine l_r (r_assign rfl) rfl ?_
      refine l_nil ?_
      refine s_seq ?_
      refine s_region ?_
      refine l_r (r_loadN rfl ag27 (hcb3.on hs18) sz27) rfl ?_
      refine l_r (r_move rfl) rfl ?_
      have hcall := refreach_val (part := part) w17 (Kd.config.on hKl0 hs18) hp2
      refine l_call rfl rfl fk15 rfl hcall ?_
      rintro _ w19 ⟨Arb, crb, rfl, hx19, hrb⟩
      have hs19 := hs18.ext hx19
      refine ⟨_, rfl, ?_⟩
      have hx := (hx.onk hs19).all_ (by decide)
      have hcb3 := hcb3.on hs19
      have hl_2 := (hl_2.onk hs19).all_ (by decide)
      have hl_3 := (hl_3.onk hs19).all_ (by decide)
      have hl_4 := (hl_4.onk hs19).all_ (by decide)
      have hl_5 := (hl_5.onk hs19).all_ (by decide)
      have hra := (hra.onk hs19).all_ (by decide)
      have hKl0 := Kd.config.on hKl0 hs19
      have hxb := hxb.trans hs19.toExt
      have hs20 := St.refl w19.heap.size w19
      have hlrb := hrb.len
      refine l_r (r_assign rfl) rfl ?_
      refine l_nil ?_
      refine s_seq ?_
      refine s_seq ?_
      refine s_region ?_
      refine l_r (r_move rfl) rfl ?_
      refine l_r (r_not rfl) rfl ?_
      refine l_r (r_move rfl) rfl ?_
      refine l_on (dj := 60) rfl rfl rfl ?_
      refine l_r (r_move rfl) rfl ?_
      refine l_on (dj := 60) rfl rfl rfl ?_
      refine l_r (r_len rfl el35) rfl ?_
      refine l_on (dj := 60) rfl rfl rfl ?_
      refine l_r (r_move rfl) rfl ?_
      refine l_on (dj := 60) rfl rfl rfl ?_
      refine l_r (r_len rfl el35) rfl ?_
      refine l_on (dj := 60) rfl rfl rfl ?_
      refine l_r (r_cmp rfl rfl (b := false) (by simp)) rfl ?_
      refine l_r (r_pick_f rfl rfl) rfl ?_
      refine l_nil ?_
      refine s_else rfl ?_
      refine s_skip ?_
      refine s_seq ?_
      refine s_seq ?_
      refine s_region ?_
      refine l_r (r_assign rfl) rfl ?_
      refine l_nil ?_
      refine s_block ?_
      refine s_loop (fun m L wl => ∃ (k2 : Nat), L = [(13, .int .i64 ((k2 : Nat) : Int)), (11, .slice Ara ((reachV cf part)).length cra), (12, .slice Arb ((reachV cf part)).length crb)] ∧ m = (reachV cf part).length - k2 ∧ k2 ≤ (reachV cf part).length ∧ St w19.heap.size w19 wl []) _ [(13, .int .i64 ((0 : Nat) : Int)), (11, .slice Ara ((reachV cf part)).length cra), (12, .slice Arb ((reachV cf part)).length crb)] (.cons rfl (.cons rfl (.cons rfl .nil))) ⟨0, rfl, rfl, Nat.zero_le _, hs20⟩ ?_
      rintro _ _ w21 ⟨k2, rfl, rfl, hkk2, hs21⟩
      refine s_seq ?_
      refine s_seq ?_
      refine s_region ?_
      refine l_r (r_move rfl) rfl ?_
      refine l_r (r_move rfl) rfl ?_
      refine l_r (r_len rfl el35) rfl ?_
      refine l_r (r_cmp rfl rfl rfl) rfl ?_
      refine l_nil ?_
      refine s_part (dj := 70) rfl (fun hc22 => ?_) (fun hc22 => ?_)
      ·
        have hc22p := of_decide_eq_true hc22
        refine s_then rfl ?_
        refine s_skip ?_
        refine s_seq ?_
        refine s_block ?_
        refine s_seq ?_
        refine s_quiet (by kernel_rfl) (by kernel_rfl) ?_
        refine qq_r (fun w' hw' => r_move rfl) rfl ?_
        refine qq_r (fun w' hw' => r_move rfl) rfl ?_
        obtain ⟨e23x, e23h, e23b, e23o, e23cs, e23A, _, e23K, e23c⟩ := hra.get_ (i := k2) (by omega)
        obtain rfl : e23cs = [.bool e23x] := e23K
        refine qq_r (fun w' hw' => r_indexA rfl e23A rfl (by omega) (by omega) el35) rfl ?_
        refine qq_r (fun w' hw' => r_load1 rfl ag4 ((e23c.on (hs21.ext hw')).get (j := 0) rfl)) rfl ?_
        refine qq_r (fun w' hw' => r_move rfl) rfl ?_
        refine qq_r (fun w' hw' => r_move rfl) rfl ?_
        obtain ⟨e24b, e24o, e24cs, e24A, _, e24K, e24c⟩ := hrb.2.2 _ _ e23h
        obtain rfl : e24cs = [.bool e23x] := e24K
        refine qq_r (fun w' hw' => r_indexA rfl e24A rfl (by omega) (by omega) el35) rfl ?_
        refine qq_r (fun w' hw' => r_load1 rfl ag4 ((e24c.on (hs21.ext hw')).get (j := 0) rfl)) rfl ?_
        refine qq_r (fun w' hw' => r_neb_same rfl rfl Try.underlying4) rfl ?_
        refine qq_nil ?_
        intro w25 hx25
        have hs25 := hs21.ext hx25
        refine s_else rfl ?_
        refine s_skip ?_
        refine s_mark ?_
        refine s_region ?_
        refine l_r (r_move rfl) rfl ?_
        refine l_r (r_inc rfl (by omega)) rfl ?_
        refine l_r (r_assign rfl) rfl ?_
        refine l_nil ?_
        refine s_again ?_
        exact ⟨_, [(13, .int .i64 (((k2 + 1) : Nat) : Int)), (11, .slice Ara ((reachV cf part)).length cra), (12, .slice Arb ((reachV cf part)).length crb)], by omega, (.cons rfl (.cons rfl (.cons rfl .nil))), ⟨(k2 + 1), rfl, rfl, by omega, hs25⟩⟩
      ·
        have hc22p := of_decide_eq_false hc22
        refine s_else rfl ?_
        refine s_exit rfl ?_
        refine s_seq ?_
        refine s_region ?_
        refine l_r (r_assign rfl) rfl ?_
        refine l_nil ?_
        refine s_ret ?_
        exact q_done (.inr rfl) (.tmp rfl .nil) ⟨rfl, hxb.trans hs21.toExt⟩

end Go.Proofs.Ytfhghnhgcdiknaa
