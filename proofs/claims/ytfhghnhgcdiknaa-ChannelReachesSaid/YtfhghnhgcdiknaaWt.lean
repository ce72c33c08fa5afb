/- Who reaches whom, as the program reckons it. -/
import Derived.Test.YtfhghnhgcdiknaaWs
set_option linter.unusedVariables false
namespace Go.Proofs.Ytfhghnhgcdiknaa
open Go.RowKit
abbrev kvI : Int → Value := fun a => .int .i64 a

set_option maxRecDepth 100000 in
theorem reach_in {cf : TConfig} {pl : List Value} {part : Int} (w : World) {ok : Nat → Prop} (hKl : Kd.config.K w ok cf pl) (hin : 0 ≤ part ∧ part < (cf.Parts.length : Int)) (hn : cf.Parts.length ≤ 2000000) :
    Calls Try.prog 14 #[.agg pl.toArray, .int .i64 part] w (fun e w' => ∃ b, e = .returned (.slice (some ⟨b, 0, none⟩) cf.Parts.length cf.Parts.length) ∧ St 0 w w' [.pt b ((reachL cf part).map Value.bool) 4]) := by
  refine q_call (n := 82) (args := [.agg pl.toArray, .int .i64 part]) Try.func14 rfl rfl rfl ?_
  have hs0 := St.refl 0 w
  have hKl0 := hKl
  obtain ⟨Al_2, cl_2, Al_3, cl_3, Al_4, cl_4, Al_5, cl_5, rfl, hl_2, hl_3, hl_4, hl_5⟩ := hKl
  have hle2 := hl_2.len
  have hle3 := hl_3.len
  have hle4 := hl_4.len
  have hle5 := hl_5.len
  obtain ⟨pb, po, hpA, _⟩ := hl_3.some_ (by omega)
  subst hpA
  refine s_seq ?_
  refine s_region ?_
  refine l_box rfl rfl rfl hs0 ?_
  intro w1 b2 hb2 hx1 hs1
  refine l_r (r_assign rfl) rfl ?_
  refine l_nil ?_
  refine s_seq ?_
  refine s_seq ?_
  refine s_region ?_
  refine l_r (r_field rfl fo27_3) rfl ?_
  refine l_r (r_load1p rfl hs1 Repl.here ag23 rfl) rfl ?_
  refine l_r (r_move rfl) rfl ?_
  refine l_call rfl rfl fk29 rfl (at29_in (b := pb) (o := po) (c := cl_3) part w1 hin.1 hin.2) ?_
  rintro _ _ ⟨rfl, rfl⟩
  refine ⟨_, rfl, ?_⟩
  refine l_r (r_eqpnil rfl rfl Try.underlying68) rfl ?_
  refine l_nil ?_
  refine s_else rfl ?_
  refine s_skip ?_
  refine s_seq ?_
  refine s_region ?_
  refine l_makeMap rfl hs1 kvI ?_
  intro w2 kb hkb hx2 hs2
  refine l_r (r_move rfl) rfl ?_
  refine l_insert (a := part) rfl rfl rfl (key_int Try.underlying3) Try.underlying76 (Nat.zero_le _) hs2 Repl.here ?_
  intro w3 hz3 hs3
  refine l_r (r_move rfl) rfl ?_
  refine l_r (r_assign rfl) rfl ?_
  refine l_nil ?_
  refine s_seq ?_
  refine s_seq ?_
  refine s_region ?_
  refine l_r (r_assign rfl) rfl ?_
  refine l_nil ?_
  refine s_block ?_
  refine s_loop (fun m L wl => ∃ (KL : List (Int × Nat)) (kc : Nat) (b : Bool), L = [(6, .bool b), (2, .pointer (some ⟨b2, 0, none⟩)), (4, .slice none 0 0), (5, .map (some kb))] ∧ m = 2 * (cf.Parts.length - KL.length) + (if b then 1 else 0) ∧ KInv cf part KL kc ∧ (b = false → Closed cf (keys KL)) ∧ St 0 w wl [mapR kvI kb (KL) (kc), .pt b2 [.int .i64 cf.Frame, .int .i64 cf.Switch, .slice Al_2 cf.Lines.length cl_2, .slice ((some ⟨pb, po, none⟩)) cf.Parts.length cl_3, .slice Al_4 cf.Windows.length cl_4, .slice Al_5 cf.Channels.length cl_5] 27]) _ [(6, .bool true), (2, .pointer (some ⟨b2, 0, none⟩)), (4, .slice none 0 0), (5, .map (some kb))] (.cons rfl (.cons rfl (.cons rfl (.cons rfl .nil)))) ⟨(addL [] 0 part), (addC [] 0 part), true, rfl, rfl, KInv.first hin, fun h => (by cases h), hs3⟩ ?_
  rintro _ _ w4 ⟨KL, kc, b, rfl, rfl, hI, hcl, hs4⟩
  refine s_seq ?_
  refine s_seq ?_
  refine s_region ?_
  refine l_r (r_move rfl) rfl ?_
  refine l_nil ?_
  refine s_part (dj := 21) rfl (fun hgr => ?_) (fun hgr => ?_)
  ·
    subst hgr
    refine s_then rfl ?_
    refine s_skip ?_
    refine s_block ?_
    refine s_seq ?_
    refine s_region ?_
    refine l_makeMap rfl hs4 kvI ?_
    intro w6 mb hmb hx6 hs6
    refine l_r (r_assign rfl) rfl ?_
    refine l_nil ?_
    refine s_seq ?_
    refine s_seq ?_
    refine s_region ?_
    refine l_r (r_field rfl fo27_5) rfl ?_
    refine l_r (r_load1p rfl hs6 (Repl.there (Repl.there Repl.here)) ag25 rfl) rfl ?_
    refine l_r (r_len rfl el25) rfl ?_
    refine l_r (r_move rfl) rfl ?_
    refine l_nil ?_
    refine s_block ?_
    refine s_loop (fun m L wl => ∃ (k : Nat) (ML : List (Int × Nat)) (mc : Nat), L = [(26, .int .i64 ((k : Nat) : Int)), (2, .pointer (some ⟨b2, 0, none⟩)), (4, .slice none 0 0), (5, .map (some kb)), (7, .map (some mb)), (24, .slice Al_5 cf.Channels.length cl_5), (25, .int .i64 ((cf.Channels.length : Int)))] ∧ m = cf.Channels.length - k ∧ k ≤ cf.Channels.length ∧ Good ML mc ∧ M1 cf (keys KL) k (keys ML) ∧ St 0 w wl [mapR kvI mb (ML) (mc), mapR kvI kb (KL) (kc), .pt b2 [.int .i64 cf.Frame, .int .i64 cf.Switch, .slice Al_2 cf.Lines.length cl_2, .slice ((some ⟨pb, po, none⟩)) cf.Parts.length cl_3, .slice Al_4 cf.Windows.length cl_4, .slice Al_5 cf.Channels.length cl_5] 27]) _ [(26, .int .i64 ((0 : Nat) : Int)), (2, .pointer (some ⟨b2, 0, none⟩)), (4, .slice none 0 0), (5, .map (some kb)), (7, .map (some mb)), (24, .slice Al_5 cf.Channels.length cl_5), (25, .int .i64 ((cf.Channels.length : Int)))] (.cons rfl (.cons rfl (.cons rfl (.cons rfl (.cons rfl (.cons rfl (.cons rfl .nil))))))) ⟨0, [], 0, rfl, rfl, Nat.zero_le _, Good.nil, M1.nil _ _, hs6⟩ ?_
    rintro _ _ w7 ⟨k, ML, mc, rfl, rfl, hkk, hG, hM, hs7⟩
    refine s_seq ?_
    refine s_region ?_
    refine l_r (r_cmp rfl rfl rfl) rfl ?_
    refine l_nil ?_
    refine s_seq ?_
    refine s_part (dj := 27) rfl (fun hc8 => ?_) (fun hc8 => ?_)
    ·
      have hc8p := of_decide_eq_true hc8
      refine s_then rfl ?_
      refine s_skip ?_
      refine s_seq ?_
      refine s_block ?_
      refine s_seq ?_
      refine s_region ?_
      obtain ⟨e9x, e9h, e9b, e9o, e9cs, e9A, _, e9K, e9c⟩ := hl_5.get_ (i := k) (by omega)
      obtain rfl : e9cs = [.bool e9x.Queuing, .int .i64 e9x.From, .int .i64 e9x.A, .int .i64 e9x.To, .int .i64 e9x.B] := e9K
      refine l_r (r_indexA rfl e9A rfl (by omega) (by omega) el25) rfl ?_
      refine l_r (r_loadN rfl ag32 (e9c.on hs7) sz32) rfl ?_
      refine l_alloc zz32 rfl hs7 ?_
      intro w10 b9 hb9 hx10 hs10
      refine l_storeAll rfl rfl sz32 (one_all rfl) (Nat.zero_le _) hs10 Repl.here rfl ?_
      intro w11 hz11 hk11 hs11
      refine l_nil ?_
      refine s_seq ?_
      refine s_seq ?_
      refine s_region ?_
      refine l_r (r_move rfl) rfl ?_
      refine l_r (r_field rfl fo32_3) rfl ?_
      refine l_r (r_load1p rfl hs11 Repl.here ag3 rfl) rfl ?_
      refine l_r (r_look (a := e9x.To) rfl rfl (key_int Try.underlying3) Try.underlying76 zz4 (by kernel_rfl) hs11 (Repl.there (Repl.there Repl.here))) rfl ?_
      refine l_nil ?_
      refine s_part (dj := 33) rfl (fun hto => ?_) (fun hto => ?_)
      ·
        have htop := of_decide_eq_true hto
        refine s_then rfl ?_
        refine s_region ?_
        refine l_r (r_move rfl) rfl ?_
        refine l_r (r_field rfl fo32_1) rfl ?_
        refine l_r (r_load1p rfl hs11 Repl.here ag3 rfl) rfl ?_
        refine l_put (a := e9x.From) rfl rfl rfl (key_int Try.underlying3) Try.underlying76 (Nat.zero_le _) hs11 (Repl.there Repl.here) ?_
        intro w13 hz13 hs13
        refine l_nil ?_
        refine s_seq ?_
        refine s_region ?_
        refine l_r (r_field rfl fo32_0) rfl ?_
        refine l_r (r_load1p rfl hs13 Repl.here ag4 rfl) rfl ?_
        refine l_r (r_move rfl) rfl ?_
        refine l_part (dj := 39) rfl (fun hqu => ?_) (fun hqu => ?_)
        ·
          refine l_on (dj := 39) rfl rfl rfl ?_
          refine l_r (r_move rfl) rfl ?_
          refine l_on (dj := 39) rfl rfl rfl ?_
          refine l_r (r_field rfl fo32_1) rfl ?_
          refine l_on (dj := 39) rfl rfl rfl ?_
          refine l_r (r_load1p rfl hs13 Repl.here ag3 rfl) rfl ?_
          refine l_on (dj := 39) rfl rfl rfl ?_
          refine l_r (r_look (a := e9x.From) rfl rfl (key_int Try.underlying3) Try.underlying76 zz4 (by kernel_rfl) hs13 (Repl.there (Repl.there Repl.here))) rfl ?_
          refine l_r (r_pick_t rfl rfl) rfl ?_
          refine l_nil ?_
          refine s_part (dj := 44) rfl (fun hfr => ?_) (fun hfr => ?_)
          ·
            have hfrp := of_decide_eq_true hfr
            refine s_then rfl ?_
            refine s_region ?_
            refine l_r (r_move rfl) rfl ?_
            refine l_r (r_field rfl fo32_3) rfl ?_
            refine l_r (r_load1p rfl hs13 Repl.here ag3 rfl) rfl ?_
            refine l_put (a := e9x.To) rfl rfl rfl (key_int Try.underlying3) Try.underlying76 (Nat.zero_le _) hs13 (Repl.there Repl.here) ?_
            intro w16 hz16 hs16
            refine l_nil ?_
            refine s_mark ?_
            refine s_region ?_
            refine l_r (r_inc rfl (by omega)) rfl ?_
            refine l_r (r_move rfl) rfl ?_
            refine l_nil ?_
            refine s_again ?_
            exact ⟨_, [(26, .int .i64 (((k + 1) : Nat) : Int)), (2, .pointer (some ⟨b2, 0, none⟩)), (4, .slice none 0 0), (5, .map (some kb)), (7, .map (some mb)), (24, .slice Al_5 cf.Channels.length cl_5), (25, .int .i64 ((cf.Channels.length : Int)))], by omega, (.cons rfl (.cons rfl (.cons rfl (.cons rfl (.cons rfl (.cons rfl (.cons rfl .nil))))))), ⟨(k + 1), (addL (addL (ML) (mc) e9x.From) (addC (ML) (mc) e9x.From) e9x.To), (addC (addL (ML) (mc) e9x.From) (addC (ML) (mc) e9x.From) e9x.To), rfl, rfl, by omega, ((hG.add _).add _), hM.add3 e9h htop hqu hfrp, hs16.tail⟩⟩
          ·
            have hfrp := of_decide_eq_false hfr
            refine s_else rfl ?_
            refine s_skip ?_
            refine s_mark ?_
            refine s_region ?_
            refine l_r (r_inc rfl (by omega)) rfl ?_
            refine l_r (r_move rfl) rfl ?_
            refine l_nil ?_
            refine s_again ?_
            exact ⟨_, [(26, .int .i64 (((k + 1) : Nat) : Int)), (2, .pointer (some ⟨b2, 0, none⟩)), (4, .slice none 0 0), (5, .map (some kb)), (7, .map (some mb)), (24, .slice Al_5 cf.Channels.length cl_5), (25, .int .i64 ((cf.Channels.length : Int)))], by omega, (.cons rfl (.cons rfl (.cons rfl (.cons rfl (.cons rfl (.cons rfl (.cons rfl .nil))))))), ⟨(k + 1), (addL (ML) (mc) e9x.From), (addC (ML) (mc) e9x.From), rfl, rfl, by omega, (hG.add _), hM.add1 e9h htop (fun h => hfrp h.2), hs13.tail⟩⟩
        ·
          refine l_off (dj := 39) (b := false) rfl rfl rfl rfl rfl ?_
          refine l_off (dj := 39) (b := false) rfl rfl rfl rfl rfl ?_
          refine l_off (dj := 39) (b := false) rfl rfl rfl rfl rfl ?_
          refine l_off (dj := 39) (b := false) rfl rfl rfl rfl rfl ?_
          refine l_r (r_pick_f rfl rfl) rfl ?_
          refine l_nil ?_
          refine s_else rfl ?_
          refine s_skip ?_
          refine s_mark ?_
          refine s_region ?_
          refine l_r (r_inc rfl (by omega)) rfl ?_
          refine l_r (r_move rfl) rfl ?_
          refine l_nil ?_
          refine s_again ?_
          exact ⟨_, [(26, .int .i64 (((k + 1) : Nat) : Int)), (2, .pointer (some ⟨b2, 0, none⟩)), (4, .slice none 0 0), (5, .map (some kb)), (7, .map (some mb)), (24, .slice Al_5 cf.Channels.length cl_5), (25, .int .i64 ((cf.Channels.length : Int)))], by omega, (.cons rfl (.cons rfl (.cons rfl (.cons rfl (.cons rfl (.cons rfl (.cons rfl .nil))))))), ⟨(k + 1), (addL (ML) (mc) e9x.From), (addC (ML) (mc) e9x.From), rfl, rfl, by omega, (hG.add _), hM.add1 e9h htop (fun h => by rw [hqu] at h; cases h.1), hs13.tail⟩⟩
      ·
        have htop := of_decide_eq_false hto
        refine s_else rfl ?_
        refine s_skip ?_
        refine s_seq ?_
        refine s_region ?_
        refine l_r (r_field rfl fo32_0) rfl ?_
        refine l_r (r_load1p rfl hs11 Repl.here ag4 rfl) rfl ?_
        refine l_r (r_move rfl) rfl ?_
        refine l_part (dj := 39) rfl (fun hqu => ?_) (fun hqu => ?_)
        ·
          refine l_on (dj := 39) rfl rfl rfl ?_
          refine l_r (r_move rfl) rfl ?_
          refine l_on (dj := 39) rfl rfl rfl ?_
          refine l_r (r_field rfl fo32_1) rfl ?_
          refine l_on (dj := 39) rfl rfl rfl ?_
          refine l_r (r_load1p rfl hs11 Repl.here ag3 rfl) rfl ?_
          refine l_on (dj := 39) rfl rfl rfl ?_
          refine l_r (r_look (a := e9x.From) rfl rfl (key_int Try.underlying3) Try.underlying76 zz4 (by kernel_rfl) hs11 (Repl.there (Repl.there Repl.here))) rfl ?_
          refine l_r (r_pick_t rfl rfl) rfl ?_
          refine l_nil ?_
          refine s_part (dj := 44) rfl (fun hfr => ?_) (fun hfr => ?_)
          ·
            have hfrp := of_decide_eq_true hfr
            refine s_then rfl ?_
            refine s_region ?_
            refine l_r (r_move rfl) rfl ?_
            refine l_r (r_field rfl fo32_3) rfl ?_
            refine l_r (r_load1p rfl hs11 Repl.here ag3 rfl) rfl ?_
            refine l_put (a := e9x.To) rfl rfl rfl (key_int Try.underlying3) Try.underlying76 (Nat.zero_le _) hs11 (Repl.there Repl.here) ?_
            intro w19 hz19 hs19
            refine l_nil ?_
            refine s_mark ?_
            refine s_region ?_
            refine l_r (r_inc rfl (by omega)) rfl ?_
            refine l_r (r_move rfl) rfl ?_
            refine l_nil ?_
            refine s_again ?_
            exact ⟨_, [(26, .int .i64 (((k + 1) : Nat) : Int)), (2, .pointer (some ⟨b2, 0, none⟩)), (4, .slice none 0 0), (5, .map (some kb)), (7, .map (some mb)), (24, .slice Al_5 cf.Channels.length cl_5), (25, .int .i64 ((cf.Channels.length : Int)))], by omega, (.cons rfl (.cons rfl (.cons rfl (.cons rfl (.cons rfl (.cons rfl (.cons rfl .nil))))))), ⟨(k + 1), (addL (ML) (mc) e9x.To), (addC (ML) (mc) e9x.To), rfl, rfl, by omega, (hG.add _), hM.add2 e9h htop hqu hfrp, hs19.tail⟩⟩
          ·
            have hfrp := of_decide_eq_false hfr
            refine s_else rfl ?_
            refine s_skip ?_
            refine s_mark ?_
            refine s_region ?_
            refine l_r (r_inc rfl (by omega)) rfl ?_
            refine l_r (r_move rfl) rfl ?_
            refine l_nil ?_
            refine s_again ?_
            exact ⟨_, [(26, .int .i64 (((k + 1) : Nat) : Int)), (2, .pointer (some ⟨b2, 0, none⟩)), (4, .slice none 0 0), (5, .map (some kb)), (7, .map (some mb)), (24, .slice Al_5 cf.Channels.length cl_5), (25, .int .i64 ((cf.Channels.length : Int)))], by omega, (.cons rfl (.cons rfl (.cons rfl (.cons rfl (.cons rfl (.cons rfl (.cons rfl .nil))))))), ⟨(k + 1), (ML), (mc), rfl, rfl, by omega, hG, hM.same e9h htop (fun h => hfrp h.2), hs11.tail⟩⟩
        ·
          refine l_off (dj := 39) (b := false) rfl rfl rfl rfl rfl ?_
          refine l_off (dj := 39) (b := false) rfl rfl rfl rfl rfl ?_
          refine l_off (dj := 39) (b := false) rfl rfl rfl rfl rfl ?_
          refine l_off (dj := 39) (b := false) rfl rfl rfl rfl rfl ?_
          refine l_r (r_pick_f rfl rfl) rfl ?_
          refine l_nil ?_
          refine s_else rfl ?_
          refine s_skip ?_
          refine s_mark ?_
          refine s_region ?_
          refine l_r (r_inc rfl (by omega)) rfl ?_
          refine l_r (r_move rfl) rfl ?_
          refine l_nil ?_
          refine s_again ?_
          exact ⟨_, [(26, .int .i64 (((k + 1) : Nat) : Int)), (2, .pointer (some ⟨b2, 0, none⟩)), (4, .slice none 0 0), (5, .map (some kb)), (7, .map (some mb)), (24, .slice Al_5 cf.Channels.length cl_5), (25, .int .i64 ((cf.Channels.length : Int)))], by omega, (.cons rfl (.cons rfl (.cons rfl (.cons rfl (.cons rfl (.cons rfl (.cons rfl .nil))))))), ⟨(k + 1), (ML), (mc), rfl, rfl, by omega, hG, hM.same e9h htop (fun h => by rw [hqu] at h; cases h.1), hs11.tail⟩⟩
    ·
      have hc8p := of_decide_eq_false hc8
      refine s_else rfl ?_
      refine s_exit rfl ?_
      refine s_seq ?_
      obtain rfl : k = cf.Channels.length := by omega
      refine s_region ?_
      refine l_r (r_assign rfl) rfl ?_
      refine l_nil ?_
      refine s_seq ?_
      refine s_region ?_
      refine l_r (r_move rfl) rfl ?_
      refine l_range (kv := kvI) rfl Try.underlying76 rfl hs7 Repl.here ?_
      intro w20 r hr hs20
      refine l_nil ?_
      refine s_block ?_
      refine s_loop (fun m L wl => ∃ (KL2 : List (Int × Nat)) (kc2 : Nat) (seen : Array Nat) (g : Bool), L = [(6, .bool g), (2, .pointer (some ⟨b2, 0, none⟩)), (4, .slice none 0 0), (5, .map (some kb)), (50, .pointer (some ⟨r, 0, none⟩))] ∧ m = leftN ML seen ∧ L2 cf part KL ML KL2 kc2 seen g ∧ St 0 w wl [iterR mb r (mc) (mc) (seen), mapR kvI mb (ML) (mc), mapR kvI kb (KL2) (kc2), .pt b2 [.int .i64 cf.Frame, .int .i64 cf.Switch, .slice Al_2 cf.Lines.length cl_2, .slice ((some ⟨pb, po, none⟩)) cf.Parts.length cl_3, .slice Al_4 cf.Windows.length cl_4, .slice Al_5 cf.Channels.length cl_5] 27]) _ [(6, .bool false), (2, .pointer (some ⟨b2, 0, none⟩)), (4, .slice none 0 0), (5, .map (some kb)), (50, .pointer (some ⟨r, 0, none⟩))] (.cons rfl (.cons rfl (.cons rfl (.cons rfl (.cons rfl .nil))))) ⟨KL, kc, #[], false, rfl, rfl, L2.first hI, hs20⟩ ?_
      rintro _ _ w21 ⟨KL2, kc2, seen, g, rfl, rfl, hL, hs21⟩
      refine s_seq ?_
      refine s_region ?_
      refine l_next (kv := kvI) rfl rfl (Nat.zero_le _) hs21 (Repl.there Repl.here) Repl.here (fun p => Repl.here) hG ?_ ?_
      ·
        intro hall
        refine l_r (r_extract rfl rfl) rfl ?_
        refine l_nil ?_
        refine s_seq ?_
        refine s_else rfl ?_
        refine s_exit rfl ?_
        refine s_mark ?_
        refine s_again ?_
        exact ⟨_, [(6, .bool g), (2, .pointer (some ⟨b2, 0, none⟩)), (4, .slice none 0 0), (5, .map (some kb))], by
              have hle := hL.inv.le
              cases g with
              | false => (have := hL.same rfl; subst this; simp)
              | true => (have := hL.more rfl; simp; omega), (.cons rfl (.cons rfl (.cons rfl (.cons rfl .nil)))), ⟨KL2, kc2, g, rfl, rfl, hL.inv, fun e => (by subst e; exact hL.closed hM hall), hs21.tail.tail⟩⟩
      ·
        intro p w22 hp hns hs22
        refine l_r (r_extract rfl rfl) rfl ?_
        refine l_nil ?_
        refine s_seq ?_
        refine s_then rfl ?_
        refine s_skip ?_
        refine s_block ?_
        refine s_seq ?_
        refine s_region ?_
        refine l_r (r_entry (kv := kvI) rfl hs22 (Repl.there Repl.here) Repl.here hG hp) rfl ?_
        refine l_r (r_extract rfl rfl) rfl ?_
        refine l_r (r_assign rfl) rfl ?_
        refine l_nil ?_
        refine s_seq ?_
        refine s_region ?_
        refine l_r (r_field rfl fo27_3) rfl ?_
        refine l_r (r_load1p rfl hs22 (Repl.there (Repl.there (Repl.there Repl.here))) ag23 rfl) rfl ?_
        refine l_r (r_move rfl) rfl ?_
        by_cases hip : 0 ≤ p.1 ∧ p.1 < (cf.Parts.length : Int)
        ·
          refine l_call rfl rfl fk29 rfl (at29_in (b := pb) (o := po) (c := cl_3) p.1 w22 hip.1 hip.2) ?_
          rintro _ _ ⟨rfl, rfl⟩
          refine ⟨_, rfl, ?_⟩
          refine l_r (r_nepnil rfl rfl Try.underlying68) rfl ?_
          refine l_r (r_move rfl) rfl ?_
          refine l_on (dj := 60) rfl rfl rfl ?_
          refine l_r (r_move rfl) rfl ?_
          refine l_on (dj := 60) rfl rfl rfl ?_
          refine l_r (r_move rfl) rfl ?_
          refine l_on (dj := 60) rfl rfl rfl ?_
          refine l_r (r_look (a := p.1) rfl rfl (key_int Try.underlying3) Try.underlying76 zz4 (by kernel_rfl) hs22 (Repl.there (Repl.there Repl.here))) rfl ?_
          refine l_on (dj := 60) rfl rfl rfl ?_
          refine l_r (r_not rfl) rfl ?_
          refine l_r (r_pick_t rfl rfl) rfl ?_
          refine l_nil ?_
          refine s_part (dj := 65) rfl (fun hnk => ?_) (fun hnk => ?_)
          ·
            have hnkn := Bool.not_eq_true' _ |>.mp hnk
            have hnknp := of_decide_eq_false hnkn
            refine s_then rfl ?_
            refine s_region ?_
            refine l_r (r_move rfl) rfl ?_
            refine l_r (r_move rfl) rfl ?_
            refine l_put (a := p.1) rfl rfl rfl (key_int Try.underlying3) Try.underlying76 (Nat.zero_le _) hs22 (Repl.there (Repl.there Repl.here)) ?_
            intro w24 hz24 hs24
            refine l_r (r_assign rfl) rfl ?_
            refine l_nil ?_
            refine s_mark ?_
            refine s_again ?_
            exact ⟨_, [(6, .bool true), (2, .pointer (some ⟨b2, 0, none⟩)), (4, .slice none 0 0), (5, .map (some kb)), (50, .pointer (some ⟨r, 0, none⟩))], leftN_push hp hns, (.cons rfl (.cons rfl (.cons rfl (.cons rfl (.cons rfl .nil))))), ⟨(addL KL2 kc2 p.1), (addC KL2 kc2 p.1), (seen.push p.2), true, rfl, rfl, hL.take hG hp hip hnknp (hM.1 p.1 (List.mem_map.2 ⟨p, hp, rfl⟩)) (fun q hq => (hI.all q hq).2), hs24⟩⟩
          ·
            have hnkn := Bool.not_eq_false' _ |>.mp hnk
            have hnknp := of_decide_eq_true hnkn
            refine s_else rfl ?_
            refine s_skip ?_
            refine s_mark ?_
            refine s_again ?_
            exact ⟨_, [(6, .bool g), (2, .pointer (some ⟨b2, 0, none⟩)), (4, .slice none 0 0), (5, .map (some kb)), (50, .pointer (some ⟨r, 0, none⟩))], leftN_push hp hns, (.cons rfl (.cons rfl (.cons rfl (.cons rfl (.cons rfl .nil))))), ⟨KL2, kc2, (seen.push p.2), g, rfl, rfl, hL.skip hG hp (fun _ => hnknp), hs22⟩⟩
        ·
          refine l_call rfl rfl fk29 rfl (at29_out (A := (some ⟨pb, po, none⟩)) (c := cl_3) p.1 w22 hip) ?_
          rintro _ _ ⟨rfl, rfl⟩
          refine ⟨_, rfl, ?_⟩
          refine l_r (r_nepnil rfl rfl Try.underlying68) rfl ?_
          refine l_r (r_move rfl) rfl ?_
          refine l_off (dj := 60) (b := false) rfl rfl rfl rfl rfl ?_
          refine l_off (dj := 60) (b := false) rfl rfl rfl rfl rfl ?_
          refine l_off (dj := 60) (b := false) rfl rfl rfl rfl rfl ?_
          refine l_off (dj := 60) (b := false) rfl rfl rfl rfl rfl ?_
          refine l_r (r_pick_f rfl rfl) rfl ?_
          refine l_nil ?_
          refine s_else rfl ?_
          refine s_skip ?_
          refine s_mark ?_
          refine s_again ?_
          exact ⟨_, [(6, .bool g), (2, .pointer (some ⟨b2, 0, none⟩)), (4, .slice none 0 0), (5, .map (some kb)), (50, .pointer (some ⟨r, 0, none⟩))], leftN_push hp hns, (.cons rfl (.cons rfl (.cons rfl (.cons rfl (.cons rfl .nil))))), ⟨KL2, kc2, (seen.push p.2), g, rfl, rfl, hL.skip hG hp (fun hr => absurd hr hip), hs22⟩⟩
  ·
    subst hgr
    refine s_else rfl ?_
    refine s_exit rfl ?_
    refine s_seq ?_
    refine s_region ?_
    refine l_r (r_field rfl fo27_3) rfl ?_
    refine l_r (r_load1p rfl hs4 (Repl.there Repl.here) ag23 rfl) rfl ?_
    refine l_r (r_len rfl el23) rfl ?_
    refine l_make rfl rfl Try.underlying35 rw4 rfl (by omega) (by omega) rfl hs4 ?_
    intro w25 bl hbl hx25 hs25
    rw [show List.replicate cf.Parts.length (Value.bool false) = (List.replicate cf.Parts.length false).map Value.bool from List.map_replicate.symm] at hs25
    refine l_r (r_assign rfl) rfl ?_
    refine l_nil ?_
    refine s_seq ?_
    refine s_seq ?_
    refine s_region ?_
    refine l_r (r_move rfl) rfl ?_
    refine l_range (kv := kvI) rfl Try.underlying76 rfl hs25 (Repl.there Repl.here) ?_
    intro w26 r2 hr2 hs26
    refine l_nil ?_
    refine s_block ?_
    refine s_loop (fun m L wl => ∃ (seen : Array Nat) (bs : List Bool), L = [(4, .slice none 0 0), (11, .slice (some ⟨bl, 0, none⟩) cf.Parts.length cf.Parts.length), (73, .pointer (some ⟨r2, 0, none⟩))] ∧ m = leftN KL seen ∧ Fill KL seen cf.Parts.length bs ∧ St 0 w wl [iterR kb r2 (kc) (kc) (seen), .pt bl (bs.map Value.bool) 4, mapR kvI kb (KL) (kc), .pt b2 [.int .i64 cf.Frame, .int .i64 cf.Switch, .slice Al_2 cf.Lines.length cl_2, .slice ((some ⟨pb, po, none⟩)) cf.Parts.length cl_3, .slice Al_4 cf.Windows.length cl_4, .slice Al_5 cf.Channels.length cl_5] 27]) _ [(4, .slice none 0 0), (11, .slice (some ⟨bl, 0, none⟩) cf.Parts.length cf.Parts.length), (73, .pointer (some ⟨r2, 0, none⟩))] (.cons rfl (.cons rfl (.cons rfl .nil))) ⟨#[], (List.replicate cf.Parts.length false), rfl, rfl, Fill.nil _ _, hs26⟩ ?_
    rintro _ _ w27 ⟨seen, bs, rfl, rfl, hF, hs27⟩
    refine s_seq ?_
    refine s_region ?_
    refine l_next (kv := kvI) rfl rfl (Nat.zero_le _) hs27 (Repl.there (Repl.there Repl.here)) Repl.here (fun p => Repl.here) hI.good ?_ ?_
    ·
      intro hall
      refine l_r (r_extract rfl rfl) rfl ?_
      refine l_nil ?_
      refine s_seq ?_
      refine s_else rfl ?_
      refine s_exit rfl ?_
      refine s_seq ?_
      refine s_region ?_
      refine l_r (r_move rfl) rfl ?_
      refine l_r (r_assign rfl) rfl ?_
      refine l_nil ?_
      refine s_ret ?_
      have hbs := hF.reach hI (hcl rfl) hall
      subst hbs
      exact q_done (.inr rfl) (.tmp rfl .nil) ⟨bl, rfl, (hs27.toFront 1 rfl).one⟩
    ·
      intro p w28 hp hns hs28
      refine l_r (r_extract rfl rfl) rfl ?_
      refine l_nil ?_
      refine s_seq ?_
      refine s_then rfl ?_
      refine s_skip ?_
      refine s_block ?_
      refine s_seq ?_
      refine s_region ?_
      refine l_r (r_entry (kv := kvI) rfl hs28 (Repl.there (Repl.there Repl.here)) Repl.here hI.good hp) rfl ?_
      refine l_r (r_extract rfl rfl) rfl ?_
      refine l_r (r_assign rfl) rfl ?_
      refine l_nil ?_
      have hpr := (hI.all p.1 (List.mem_map.2 ⟨p, hp, rfl⟩)).1
      have hp0 : 0 ≤ p.1 := hpr.1
      have hp1 : p.1 < (cf.Parts.length : Int) := hpr.2
      refine s_region ?_
      refine l_r (r_move rfl) rfl ?_
      refine l_r (r_move rfl) rfl ?_
      refine l_r (r_index rfl rfl hp0 hp1 el35) rfl ?_
      refine l_store1s rfl rfl rfl sz4 (Nat.zero_le _) hs28 (Repl.there Repl.here) (by rw [List.length_map, hF.1]; omega) ?_
      intro w29 hz29 hk29 hs29
      rw [show (bs.map Value.bool).set (0 + p.1.toNat * 1) (.bool true) = (bs.set p.1.toNat true).map Value.bool by rw [Nat.zero_add, Nat.mul_one, List.map_set]] at hs29
      refine l_nil ?_
      refine s_mark ?_
      refine s_again ?_
      exact ⟨_, [(4, .slice none 0 0), (11, .slice (some ⟨bl, 0, none⟩) cf.Parts.length cf.Parts.length), (73, .pointer (some ⟨r2, 0, none⟩))], leftN_push hp hns, (.cons rfl (.cons rfl (.cons rfl .nil))), ⟨(seen.push p.2), (bs.set p.1.toNat true), rfl, rfl, hF.step hI.good hp hp0, hs29⟩⟩

set_option maxRecDepth 100000 in
theorem reach_out {cf : TConfig} {pl : List Value} {part : Int} (w : World) {ok : Nat → Prop} (hKl : Kd.config.K w ok cf pl) (hin : ¬ (0 ≤ part ∧ part < (cf.Parts.length : Int))) :
    Calls Try.prog 14 #[.agg pl.toArray, .int .i64 part] w (fun e w' => e = .returned (.slice none 0 0) ∧ St 0 w w' []) := by
  refine q_call (n := 82) (args := [.agg pl.toArray, .int .i64 part]) Try.func14 rfl rfl rfl ?_
  have hs0 := St.refl 0 w
  have hKl0 := hKl
  obtain ⟨Al_2, cl_2, Al_3, cl_3, Al_4, cl_4, Al_5, cl_5, rfl, hl_2, hl_3, hl_4, hl_5⟩ := hKl
  have hle2 := hl_2.len
  have hle3 := hl_3.len
  have hle4 := hl_4.len
  have hle5 := hl_5.len
  refine s_seq ?_
  refine s_region ?_
  refine l_box rfl rfl rfl hs0 ?_
  intro w1 b2 hb2 hx1 hs1
  refine l_r (r_assign rfl) rfl ?_
  refine l_nil ?_
  refine s_seq ?_
  refine s_seq ?_
  refine s_region ?_
  refine l_r (r_field rfl fo27_3) rfl ?_
  refine l_r (r_load1p rfl hs1 Repl.here ag23 rfl) rfl ?_
  refine l_r (r_move rfl) rfl ?_
  refine l_call rfl rfl fk29 rfl (at29_out (A := Al_3) (c := cl_3) part w1 hin) ?_
  rintro _ _ ⟨rfl, rfl⟩
  refine ⟨_, rfl, ?_⟩
  refine l_r (r_eqpnil rfl rfl Try.underlying68) rfl ?_
  refine l_nil ?_
  refine s_then rfl ?_
  refine s_seq ?_
  refine s_region ?_
  refine l_r (r_assign rfl) rfl ?_
  refine l_nil ?_
  refine s_ret ?_
  exact q_done (.inr rfl) (.tmp rfl .nil) ⟨rfl, hs1.nil⟩

end Go.Proofs.Ytfhghnhgcdiknaa
