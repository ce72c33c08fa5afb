/- Whether a configuration may be. -/
import Derived.Test.YtfhghnhgcdiknaaWzo
set_option linter.unusedVariables false
set_option linter.unusedSimpArgs false
namespace Go.Proofs.Ytfhghnhgcdiknaa
open Go.RowKit
theorem chan_fn {cf : TConfig} {Al_2 Al_3 Al_4 Al_5 : Option Addr} {cl_2 cl_3 cl_4 cl_5 : Nat} {w0 : World} {bc bm m : Nat} {ok : Nat → Prop} (hcb : Cells w0 bc 0 [.int .i64 cf.Frame, .int .i64 cf.Switch, .slice Al_2 cf.Lines.length cl_2, .slice Al_3 cf.Parts.length cl_3, .slice Al_4 cf.Windows.length cl_4, .slice Al_5 cf.Channels.length cl_5]) (hKb : Kd.config.K w0 (fun _ => True) cf [.int .i64 cf.Frame, .int .i64 cf.Switch, .slice Al_2 cf.Lines.length cl_2, .slice Al_3 cf.Parts.length cl_3, .slice Al_4 cf.Windows.length cl_4, .slice Al_5 cf.Channels.length cl_5]) :
    FnOk Try.prog 65 [.pointer (some ⟨bc, 0, none⟩), .pointer (some ⟨bm, 0, none⟩)] Kd.channel mkA false true w0 ok (fun _ : PSet => True) (fun _ => True) (fun L => [.pt bm [.map (some m)] 130, mapR kvP m L.1 L.2]) (chanStep cf) :=
  fun w H s x cs _ _ hK hs => (chan_ok (H := H) hcb hKb hK hs).mono (fun e w' h => h.imp (fun ⟨s', h1, h2, h3⟩ => ⟨s', h1, h2, trivial, h3⟩) id)

set_option maxRecDepth 100000 in
theorem channels_ok {cf : TConfig} {pl : List Value} (w : World) {ok : Nat → Prop} (hKl : Kd.config.K w ok cf pl) :
    Calls Try.prog 38 #[.agg pl.toArray] w (fun e w' => e = .returned (.bool (channelsB cf)) ∧ St 0 w w' []) := by
  refine q_call (n := 9) (args := [.agg pl.toArray]) Try.func38 rfl rfl rfl ?_
  have hs0 := St.refl 0 w
  have hKl0 := hKl
  obtain ⟨Al_2, cl_2, Al_3, cl_3, Al_4, cl_4, Al_5, cl_5, rfl, hl_2, hl_3, hl_4, hl_5⟩ := hKl
  have hle2 := hl_2.len
  have hle3 := hl_3.len
  have hle4 := hl_4.len
  have hle5 := hl_5.len
  refine s_seq ?_
  refine s_region ?_
  refine l_box rfl rfl rfl hs0 ?_
  intro w1 b1 hb1 hx1 hs1
  refine l_r (r_assign rfl) rfl ?_
  refine l_nil ?_
  refine s_seq ?_
  have hcb : Cells w1 b1 0 [.int .i64 cf.Frame, .int .i64 cf.Switch, .slice Al_2 cf.Lines.length cl_2, .slice Al_3 cf.Parts.length cl_3, .slice Al_4 cf.Windows.length cl_4, .slice Al_5 cf.Channels.length cl_5] := heap_all (hs1.get (r := .pt b1 _ _) List.mem_cons_self)
  have hKb := (Kd.config.on hKl0 hs1)
  have hKb := Kd.config.mono (ok' := fun _ => True) (fun _ _ _ => trivial) hKb
  have hl_2 := hl_2.onk hs1
  have hl_3 := hl_3.onk hs1
  have hl_4 := hl_4.onk hs1
  have hl_5 := hl_5.onk hs1
  have hsA := hs1.nil
  have hsB := St.refl 0 w1
  skip
  refine s_region ?_
  refine l_makeMap rfl hsB kvP ?_
  intro w2 b4 hb4 hx2 hs2
  refine l_alloc zz130 rfl hs2 ?_
  intro w3 b3 hb3 hx3 hs3
  refine l_store1 rfl rfl rfl sz130 (Nat.zero_le _) hs3 Repl.here rfl ?_
  intro w4 hz4 hk4 hs4
  refine l_nil ?_
  refine s_seq ?_
  refine s_region ?_
  refine l_r (r_field rfl fo27_5) rfl ?_
  refine l_r (r_load1 rfl ag25 ((hcb.on hs4).get (j := 5) rfl)) rfl ?_
  refine l_r (r_makefunc rfl rfl) rfl ?_
  refine l_call rfl rfl fk64 rfl (al64 (σ := PSet) (Inv := fun L => [.pt b3 [.map (some b4)] 130, mapR kvP b4 L.1 L.2]) (H := []) (s0 := ([], 0)) (n := 8) hs4 hl_5 fk65 trivial (fun _ _ => trivial) (chan_fn hcb hKb)) ?_
  rintro _ w5 (⟨s1, rfl, hn, hfs, _, hs5⟩ | ⟨rfl, hn, hs5⟩)
  ·
    refine ⟨_, rfl, ?_⟩
    refine l_r (r_assign rfl) rfl ?_
    refine l_nil ?_
    refine s_ret ?_
    exact q_done (.inr rfl) (.tmp rfl .nil) ⟨congrArg Ending.returned (congrArg Value.bool (by rw [channelsB, hfs, decide_eq_true hn]; rfl)), hsA.call0 hs5.nil⟩
  ·
    refine ⟨_, rfl, ?_⟩
    refine l_r (r_assign rfl) rfl ?_
    refine l_nil ?_
    refine s_ret ?_
    exact q_done (.inr rfl) (.tmp rfl .nil) ⟨congrArg Ending.returned (congrArg Value.bool (by
        rw [channelsB]
        rcases hn with hn | hn
        · rw [decide_eq_false (p := (cf.Channels.length : Int) ≤ 8) (by omega), Bool.false_and]
        · rw [hn]; simp)), hsA.call0 hs5.nil⟩

def mayB (c : TConfig) : Bool := inr c.Frame 1 4096 && (inr c.Switch 0 c.Frame && ((decide ((c.Lines.length : Int) ≤ 8) && c.Lines.all (lineB c)) && (decide ((c.Parts.length : Int) > 0) && ((decide ((c.Parts.length : Int) ≤ 4) && c.Parts.all partB) && (windowsB c && channelsB c)))))

set_option maxRecDepth 100000 in
theorem may_ok {cf : TConfig} {pl : List Value} (w : World) {ok : Nat → Prop} (hKl : Kd.config.K w ok cf pl) :
    Calls Try.prog 17 #[.agg pl.toArray] w (fun e w' => e = .returned (.bool (mayB cf)) ∧ St 0 w w' []) := by
  refine q_call (n := 42) (args := [.agg pl.toArray]) Try.func17 rfl rfl rfl ?_
  have hs0 := St.refl 0 w
  have hKl0 := hKl
  obtain ⟨Al_2, cl_2, Al_3, cl_3, Al_4, cl_4, Al_5, cl_5, rfl, hl_2, hl_3, hl_4, hl_5⟩ := hKl
  have hle2 := hl_2.len
  have hle3 := hl_3.len
  have hle4 := hl_4.len
  have hle5 := hl_5.len
  refine s_seq ?_
  refine s_region ?_
  refine l_box rfl rfl rfl hs0 ?_
  intro w1 b1 hb1 hx1 hs1
  refine l_r (r_assign rfl) rfl ?_
  refine l_nil ?_
  refine s_seq ?_
  have hcb : Cells w1 b1 0 [.int .i64 cf.Frame, .int .i64 cf.Switch, .slice Al_2 cf.Lines.length cl_2, .slice Al_3 cf.Parts.length cl_3, .slice Al_4 cf.Windows.length cl_4, .slice Al_5 cf.Channels.length cl_5] := heap_all (hs1.get (r := .pt b1 _ _) List.mem_cons_self)
  have hKb := (Kd.config.on hKl0 hs1)
  have hKb := Kd.config.mono (ok' := fun _ => True) (fun _ _ _ => trivial) hKb
  have hl_2 := hl_2.onk hs1
  have hl_3 := hl_3.onk hs1
  have hl_4 := hl_4.onk hs1
  have hl_5 := hl_5.onk hs1
  have hsA := hs1.nil
  have hsB := St.refl 0 w1
  skip
  refine s_region ?_
  refine l_r (r_makefunc rfl rfl) rfl ?_
  refine l_r (r_assign rfl) rfl ?_
  refine l_nil ?_
  refine s_seq ?_
  refine s_region ?_
  refine l_r (r_field rfl fo27_0) rfl ?_
  refine l_r (r_load1 rfl ag3 ((hcb.on hsB).get (j := 0) rfl)) rfl ?_
  refine l_call rfl rfl fk33 rfl (between_ok w1 cf.Frame 1 4096) ?_
  rintro _ w2 ⟨rfl, hc2⟩
  have hs2 := hsB.call0 hc2
  refine ⟨_, rfl, ?_⟩
  refine l_r (r_move rfl) rfl ?_
  refine l_part (dj := 9) rfl (fun hFr => ?_) (fun hFr => ?_)
  ·
    refine l_on (dj := 9) rfl rfl rfl ?_
    refine l_r (r_field rfl fo27_1) rfl ?_
    refine l_on (dj := 9) rfl rfl rfl ?_
    refine l_r (r_load1 rfl ag3 ((hcb.on hs2).get (j := 1) rfl)) rfl ?_
    refine l_on (dj := 9) rfl rfl rfl ?_
    refine l_r (r_field rfl fo27_0) rfl ?_
    refine l_on (dj := 9) rfl rfl rfl ?_
    refine l_r (r_load1 rfl ag3 ((hcb.on hs2).get (j := 0) rfl)) rfl ?_
    refine l_on (dj := 9) rfl rfl rfl ?_
    refine l_call rfl rfl fk33 rfl (between_ok w2 cf.Switch 0 cf.Frame) ?_
    rintro _ w4 ⟨rfl, hc4⟩
    have hs4 := hs2.call0 hc4
    refine ⟨_, rfl, ?_⟩
    refine l_r (r_pick_t rfl rfl) rfl ?_
    refine l_r (r_move rfl) rfl ?_
    refine l_part (dj := 16) rfl (fun hc5 => ?_) (fun hc5 => ?_)
    ·
      refine l_on (dj := 16) rfl rfl rfl ?_
      refine l_r (r_field rfl fo27_2) rfl ?_
      refine l_on (dj := 16) rfl rfl rfl ?_
      refine l_r (r_load1 rfl ag22 ((hcb.on hs4).get (j := 2) rfl)) rfl ?_
      refine l_on (dj := 16) rfl rfl rfl ?_
      refine l_r (r_move rfl) rfl ?_
      refine l_on (dj := 16) rfl rfl rfl ?_
      refine l_call rfl rfl fk34 rfl (alp34 (cap := [.pointer (some ⟨b1, 0, none⟩)]) (p := lineB cf) w4 (hl_2.onk hs4) fk32 (fun w1 hx ok x cs hK => line_ok hle3 (hcb.on hs4) w1 hx ok x cs hK)) ?_
      rintro _ w6 ⟨rfl, hc6⟩
      have hs6 := hs4.call0 hc6
      refine ⟨_, rfl, ?_⟩
      refine l_r (r_pick_t rfl rfl) rfl ?_
      refine l_r (r_assign rfl) rfl ?_
      refine l_nil ?_
      refine s_seq ?_
      refine s_region ?_
      refine l_r (r_move rfl) rfl ?_
      refine l_r (r_move rfl) rfl ?_
      refine l_part (dj := 23) rfl (fun hc7 => ?_) (fun hc7 => ?_)
      ·
        refine l_on (dj := 23) rfl rfl rfl ?_
        refine l_r (r_field rfl fo27_3) rfl ?_
        refine l_on (dj := 23) rfl rfl rfl ?_
        refine l_r (r_load1 rfl ag23 ((hcb.on hs6).get (j := 3) rfl)) rfl ?_
        refine l_on (dj := 23) rfl rfl rfl ?_
        refine l_r (r_len rfl el23) rfl ?_
        refine l_on (dj := 23) rfl rfl rfl ?_
        refine l_r (r_cmp rfl rfl rfl) rfl ?_
        refine l_r (r_pick_t rfl rfl) rfl ?_
        refine l_r (r_move rfl) rfl ?_
        refine l_part (dj := 29) rfl (fun hc8 => ?_) (fun hc8 => ?_)
        ·
          have hc8p := of_decide_eq_true hc8
          refine l_on (dj := 29) rfl rfl rfl ?_
          refine l_r (r_field rfl fo27_3) rfl ?_
          refine l_on (dj := 29) rfl rfl rfl ?_
          refine l_r (r_load1 rfl ag23 ((hcb.on hs6).get (j := 3) rfl)) rfl ?_
          refine l_on (dj := 29) rfl rfl rfl ?_
          refine l_call rfl rfl fk35 rfl (alp35 w6 (p := partB) (hl_3.onk hs6) fk36 (fun w1 _ => cl36 w1)) ?_
          rintro _ w9 ⟨rfl, hc9⟩
          have hs9 := hs6.call0 hc9
          refine ⟨_, rfl, ?_⟩
          refine l_r (r_pick_t rfl rfl) rfl ?_
          refine l_r (r_move rfl) rfl ?_
          refine l_part (dj := 34) rfl (fun hc10 => ?_) (fun hc10 => ?_)
          ·
            refine l_on (dj := 34) rfl rfl rfl ?_
            refine l_r (r_loadN rfl ag27 (hcb.on hs9) sz27) rfl ?_
            refine l_on (dj := 34) rfl rfl rfl ?_
            refine l_call rfl rfl fk37 rfl (windows_ok w9 (Kd.config.on hKb hs9) (inr_iff.1 hFr)) ?_
            rintro _ w11 ⟨rfl, hc11⟩
            have hs11 := hs9.call0 hc11
            refine ⟨_, rfl, ?_⟩
            refine l_r (r_pick_t rfl rfl) rfl ?_
            refine l_r (r_move rfl) rfl ?_
            refine l_part (dj := 38) rfl (fun hc12 => ?_) (fun hc12 => ?_)
            ·
              refine l_on (dj := 38) rfl rfl rfl ?_
              refine l_r (r_loadN rfl ag27 (hcb.on hs11) sz27) rfl ?_
              refine l_on (dj := 38) rfl rfl rfl ?_
              refine l_call rfl rfl fk38 rfl (channels_ok w11 (Kd.config.on hKb hs11)) ?_
              rintro _ w13 ⟨rfl, hc13⟩
              have hs13 := hs11.call0 hc13
              refine ⟨_, rfl, ?_⟩
              refine l_r (r_pick_t rfl rfl) rfl ?_
              refine l_r (r_assign rfl) rfl ?_
              refine l_nil ?_
              refine s_ret ?_
              exact q_done (.inr rfl) (.tmp rfl .nil) ⟨congrArg Ending.returned (congrArg Value.bool (by simp only [mayB, hFr, hc5, hc7, hc8, hc10, hc12, Bool.not_true, Bool.not_false, Bool.true_and, Bool.false_and, Bool.and_true, Bool.and_false])), hsA.call0 hs13.nil⟩
            ·
              refine l_off (dj := 38) (b := false) rfl rfl rfl rfl rfl ?_
              refine l_off (dj := 38) (b := false) rfl rfl rfl rfl rfl ?_
              refine l_r (r_pick_f rfl rfl) rfl ?_
              refine l_r (r_assign rfl) rfl ?_
              refine l_nil ?_
              refine s_ret ?_
              exact q_done (.inr rfl) (.tmp rfl .nil) ⟨congrArg Ending.returned (congrArg Value.bool (by simp only [mayB, hFr, hc5, hc7, hc8, hc10, hc12, Bool.not_true, Bool.not_false, Bool.true_and, Bool.false_and, Bool.and_true, Bool.and_false])), hsA.call0 hs11.nil⟩
          ·
            refine l_off (dj := 34) (b := false) rfl rfl rfl rfl rfl ?_
            refine l_off (dj := 34) (b := false) rfl rfl rfl rfl rfl ?_
            refine l_r (r_pick_f rfl rfl) rfl ?_
            refine l_r (r_move rfl) rfl ?_
            refine l_off (dj := 38) (b := false) rfl rfl rfl rfl rfl ?_
            refine l_off (dj := 38) (b := false) rfl rfl rfl rfl rfl ?_
            refine l_r (r_pick_f rfl rfl) rfl ?_
            refine l_r (r_assign rfl) rfl ?_
            refine l_nil ?_
            refine s_ret ?_
            exact q_done (.inr rfl) (.tmp rfl .nil) ⟨congrArg Ending.returned (congrArg Value.bool (by simp only [mayB, hFr, hc5, hc7, hc8, hc10, Bool.not_true, Bool.not_false, Bool.true_and, Bool.false_and, Bool.and_true, Bool.and_false])), hsA.call0 hs9.nil⟩
        ·
          have hc8p := of_decide_eq_false hc8
          refine l_off (dj := 29) (b := false) rfl rfl rfl rfl rfl ?_
          refine l_off (dj := 29) (b := false) rfl rfl rfl rfl rfl ?_
          refine l_off (dj := 29) (b := false) rfl rfl rfl rfl rfl ?_
          refine l_r (r_pick_f rfl rfl) rfl ?_
          refine l_r (r_move rfl) rfl ?_
          refine l_off (dj := 34) (b := false) rfl rfl rfl rfl rfl ?_
          refine l_off (dj := 34) (b := false) rfl rfl rfl rfl rfl ?_
          refine l_r (r_pick_f rfl rfl) rfl ?_
          refine l_r (r_move rfl) rfl ?_
          refine l_off (dj := 38) (b := false) rfl rfl rfl rfl rfl ?_
          refine l_off (dj := 38) (b := false) rfl rfl rfl rfl rfl ?_
          refine l_r (r_pick_f rfl rfl) rfl ?_
          refine l_r (r_assign rfl) rfl ?_
          refine l_nil ?_
          refine s_ret ?_
          exact q_done (.inr rfl) (.tmp rfl .nil) ⟨congrArg Ending.returned (congrArg Value.bool (by simp only [mayB, hFr, hc5, hc7, hc8, Bool.not_true, Bool.not_false, Bool.true_and, Bool.false_and, Bool.and_true, Bool.and_false])), hsA.call0 hs6.nil⟩
      ·
        refine l_off (dj := 23) (b := false) rfl rfl rfl rfl rfl ?_
        refine l_off (dj := 23) (b := false) rfl rfl rfl rfl rfl ?_
        refine l_off (dj := 23) (b := false) rfl rfl rfl rfl rfl ?_
        refine l_off (dj := 23) (b := false) rfl rfl rfl rfl rfl ?_
        refine l_r (r_pick_f rfl rfl) rfl ?_
        refine l_r (r_move rfl) rfl ?_
        refine l_off (dj := 29) (b := false) rfl rfl rfl rfl rfl ?_
        refine l_off (dj := 29) (b := false) rfl rfl rfl rfl rfl ?_
        refine l_off (dj := 29) (b := false) rfl rfl rfl rfl rfl ?_
        refine l_r (r_pick_f rfl rfl) rfl ?_
        refine l_r (r_move rfl) rfl ?_
        refine l_off (dj := 34) (b := false) rfl rfl rfl rfl rfl ?_
        refine l_off (dj := 34) (b := false) rfl rfl rfl rfl rfl ?_
        refine l_r (r_pick_f rfl rfl) rfl ?_
        refine l_r (r_move rfl) rfl ?_
        refine l_off (dj := 38) (b := false) rfl rfl rfl rfl rfl ?_
        refine l_off (dj := 38) (b := false) rfl rfl rfl rfl rfl ?_
        refine l_r (r_pick_f rfl rfl) rfl ?_
        refine l_r (r_assign rfl) rfl ?_
        refine l_nil ?_
        refine s_ret ?_
        exact q_done (.inr rfl) (.tmp rfl .nil) ⟨congrArg Ending.returned (congrArg Value.bool (by simp only [mayB, hFr, hc5, hc7, Bool.not_true, Bool.not_false, Bool.true_and, Bool.false_and, Bool.and_true, Bool.and_false])), hsA.call0 hs6.nil⟩
    ·
      refine l_off (dj := 16) (b := false) rfl rfl rfl rfl rfl ?_
      refine l_off (dj := 16) (b := false) rfl rfl rfl rfl rfl ?_
      refine l_off (dj := 16) (b := false) rfl rfl rfl rfl rfl ?_
      refine l_off (dj := 16) (b := false) rfl rfl rfl rfl rfl ?_
      refine l_r (r_pick_f rfl rfl) rfl ?_
      refine l_r (r_assign rfl) rfl ?_
      refine l_nil ?_
      refine s_seq ?_
      refine s_region ?_
      refine l_r (r_move rfl) rfl ?_
      refine l_r (r_move rfl) rfl ?_
      refine l_off (dj := 23) (b := false) rfl rfl rfl rfl rfl ?_
      refine l_off (dj := 23) (b := false) rfl rfl rfl rfl rfl ?_
      refine l_off (dj := 23) (b := false) rfl rfl rfl rfl rfl ?_
      refine l_off (dj := 23) (b := false) rfl rfl rfl rfl rfl ?_
      refine l_r (r_pick_f rfl rfl) rfl ?_
      refine l_r (r_move rfl) rfl ?_
      refine l_off (dj := 29) (b := false) rfl rfl rfl rfl rfl ?_
      refine l_off (dj := 29) (b := false) rfl rfl rfl rfl rfl ?_
      refine l_off (dj := 29) (b := false) rfl rfl rfl rfl rfl ?_
      refine l_r (r_pick_f rfl rfl) rfl ?_
      refine l_r (r_move rfl) rfl ?_
      refine l_off (dj := 34) (b := false) rfl rfl rfl rfl rfl ?_
      refine l_off (dj := 34) (b := false) rfl rfl rfl rfl rfl ?_
      refine l_r (r_pick_f rfl rfl) rfl ?_
      refine l_r (r_move rfl) rfl ?_
      refine l_off (dj := 38) (b := false) rfl rfl rfl rfl rfl ?_
      refine l_off (dj := 38) (b := false) rfl rfl rfl rfl rfl ?_
      refine l_r (r_pick_f rfl rfl) rfl ?_
      refine l_r (r_assign rfl) rfl ?_
      refine l_nil ?_
      refine s_ret ?_
      exact q_done (.inr rfl) (.tmp rfl .nil) ⟨congrArg Ending.returned (congrArg Value.bool (by simp only [mayB, hFr, hc5, Bool.not_true, Bool.not_false, Bool.true_and, Bool.false_and, Bool.and_true, Bool.and_false])), hsA.call0 hs4.nil⟩
  ·
    refine l_off (dj := 9) (b := false) rfl rfl rfl rfl rfl ?_
    refine l_off (dj := 9) (b := false) rfl rfl rfl rfl rfl ?_
    refine l_off (dj := 9) (b := false) rfl rfl rfl rfl rfl ?_
    refine l_off (dj := 9) (b := false) rfl rfl rfl rfl rfl ?_
    refine l_off (dj := 9) (b := false) rfl rfl rfl rfl rfl ?_
    refine l_r (r_pick_f rfl rfl) rfl ?_
    refine l_r (r_move rfl) rfl ?_
    refine l_off (dj := 16) (b := false) rfl rfl rfl rfl rfl ?_
    refine l_off (dj := 16) (b := false) rfl rfl rfl rfl rfl ?_
    refine l_off (dj := 16) (b := false) rfl rfl rfl rfl rfl ?_
    refine l_off (dj := 16) (b := false) rfl rfl rfl rfl rfl ?_
    refine l_r (r_pick_f rfl rfl) rfl ?_
    refine l_r (r_assign rfl) rfl ?_
    refine l_nil ?_
    refine s_seq ?_
    refine s_region ?_
    refine l_r (r_move rfl) rfl ?_
    refine l_r (r_move rfl) rfl ?_
    refine l_off (dj := 23) (b := false) rfl rfl rfl rfl rfl ?_
    refine l_off (dj := 23) (b := false) rfl rfl rfl rfl rfl ?_
    refine l_off (dj := 23) (b := false) rfl rfl rfl rfl rfl ?_
    refine l_off (dj := 23) (b := false) rfl rfl rfl rfl rfl ?_
    refine l_r (r_pick_f rfl rfl) rfl ?_
    refine l_r (r_move rfl) rfl ?_
    refine l_off (dj := 29) (b := false) rfl rfl rfl rfl rfl ?_
    refine l_off (dj := 29) (b := false) rfl rfl rfl rfl rfl ?_
    refine l_off (dj := 29) (b := false) rfl rfl rfl rfl rfl ?_
    refine l_r (r_pick_f rfl rfl) rfl ?_
    refine l_r (r_move rfl) rfl ?_
    refine l_off (dj := 34) (b := false) rfl rfl rfl rfl rfl ?_
    refine l_off (dj := 34) (b := false) rfl rfl rfl rfl rfl ?_
    refine l_r (r_pick_f rfl rfl) rfl ?_
    refine l_r (r_move rfl) rfl ?_
    refine l_off (dj := 38) (b := false) rfl rfl rfl rfl rfl ?_
    refine l_off (dj := 38) (b := false) rfl rfl rfl rfl rfl ?_
    refine l_r (r_pick_f rfl rfl) rfl ?_
    refine l_r (r_assign rfl) rfl ?_
    refine l_nil ?_
    refine s_ret ?_
    exact q_done (.inr rfl) (.tmp rfl .nil) ⟨congrArg Ending.returned (congrArg Value.bool (by simp only [mayB, hFr, Bool.not_true, Bool.not_false, Bool.true_and, Bool.false_and, Bool.and_true, Bool.and_false])), hsA.call0 hs2.nil⟩

end Go.Proofs.Ytfhghnhgcdiknaa
