/- Whether ports are there, whether windows may be. -/
import Derived.Test.YtfhghnhgcdiknaaWzm
set_option linter.unusedVariables false
set_option linter.unusedSimpArgs false
namespace Go.Proofs.Ytfhghnhgcdiknaa
open Go.RowKit
def thereB (c : TConfig) (x : TPort) : Bool := inr x.2.1 0 ((c.Parts.length : Int) - 1) && (match c.Parts[x.2.1.toNat]? with
  | some p => inr x.2.2 0 ((if x.1 then (p.Queues.length : Int) else (p.Samples.length : Int)) - 1)
  | none => false)
theorem thereB_some {c : TConfig} {x : TPort} {p : TPartConf} (h : c.Parts[x.2.1.toNat]? = some p) : thereB c x = (inr x.2.1 0 ((c.Parts.length : Int) - 1) && inr x.2.2 0 ((if x.1 then (p.Queues.length : Int) else (p.Samples.length : Int)) - 1)) := by
  rw [thereB, h]
def lineB (c : TConfig) (n : Int) : Bool := inr n 0 ((c.Parts.length : Int) - 1)
def winB (c : TConfig) (en : Int) (x : TWindow) : Bool := inr x.Part 0 ((c.Parts.length : Int) - 1) && (inr x.Start en c.Frame && inr x.Len 1 (c.Frame - x.Start))
def winStep (c : TConfig) (en : Int) (x : TWindow) : Option Int := if winB c en x then some (x.Start + x.Len) else none
def windowsB (c : TConfig) : Bool := decide ((c.Windows.length : Int) > 0) && (decide ((c.Windows.length : Int) ≤ 12) && (foldS (winStep c) 0 c.Windows).isSome)

set_option maxRecDepth 100000 in
theorem there_ok {cf : TConfig} {pl : List Value} (w : World) {ok : Nat → Prop} (hKl : Kd.config.K w ok cf pl) (x : TPort) :
    Calls Try.prog 66 #[.agg pl.toArray, kvP x] w (fun e w' => e = .returned (.bool (thereB cf x)) ∧ St 0 w w' []) := by
  refine q_call (n := 36) (args := [.agg pl.toArray, kvP x]) Try.func66 rfl rfl rfl ?_
  have hs0 := St.refl 0 w
  have hKl0 := hKl
  obtain ⟨Al_2, cl_2, Al_3, cl_3, Al_4, cl_4, Al_5, cl_5, rfl, hl_2, hl_3, hl_4, hl_5⟩ := hKl
  have hle2 := hl_2.len
  have hle3 := hl_3.len
  have hle4 := hl_4.len
  have hle5 := hl_5.len
  refine s_seq ?_
  refine s_region ?_
  refine l_box rfl rfl rfl hs0 ?_
  intro w1 b2 hb2 hx1 hs1
  refine l_box rfl rfl rfl hs1 ?_
  intro w2 b3 hb3 hx2 hs2
  refine l_r (r_assign rfl) rfl ?_
  refine l_nil ?_
  refine s_seq ?_
  refine s_seq ?_
  refine s_region ?_
  refine l_r (r_field rfl fo133_1) rfl ?_
  refine l_r (r_load1p rfl hs2 Repl.here ag3 rfl) rfl ?_
  refine l_r (r_field rfl fo27_3) rfl ?_
  refine l_r (r_load1p rfl hs2 (Repl.there Repl.here) ag23 rfl) rfl ?_
  refine l_r (r_len rfl el23) rfl ?_
  refine l_r (r_subI rfl rfl (by omega)) rfl ?_
  refine l_call rfl rfl fk33 rfl (between_ok w2 x.2.1 0 (((cf.Parts.length : Int) - 1))) ?_
  rintro _ w3 ⟨rfl, hc3⟩
  have hs3 := hs2.call0 hc3
  refine ⟨_, rfl, ?_⟩
  refine l_r (r_not rfl) rfl ?_
  refine l_nil ?_
  refine s_part (dj := 13) rfl (fun hc4 => ?_) (fun hc4 => ?_)
  ·
    have hc4n := Bool.not_eq_true' _ |>.mp hc4
    refine s_then rfl ?_
    refine s_seq ?_
    refine s_region ?_
    refine l_r (r_assign rfl) rfl ?_
    refine l_nil ?_
    refine s_ret ?_
    exact q_done (.inr rfl) (.tmp rfl .nil) ⟨congrArg Ending.returned (congrArg Value.bool (by simp only [thereB, hc4n, Bool.true_and, Bool.false_and, Bool.and_true, Bool.and_false])), hs3.tail.tail⟩
  ·
    have hc4n := Bool.not_eq_false' _ |>.mp hc4
    have hin := inr_iff.1 hc4n
    refine s_else rfl ?_
    refine s_skip ?_
    refine s_seq ?_
    refine s_region ?_
    refine l_r (r_field rfl fo27_3) rfl ?_
    refine l_r (r_load1p rfl hs3 (Repl.there Repl.here) ag23 rfl) rfl ?_
    refine l_r (r_field rfl fo133_1) rfl ?_
    refine l_r (r_load1p rfl hs3 Repl.here ag3 rfl) rfl ?_
    obtain ⟨e5x, e5h, e5b, e5o, e5cs, e5A, _, e5K, e5c⟩ := hl_3.get_ (i := x.2.1.toNat) (by omega)
    have e5K0 := e5K
    obtain ⟨Ae5_1, ce5_1, Ae5_2, ce5_2, Ae5_4, ce5_4, Ae5_5, ce5_5, Ae5_7, ce5_7, Ae5_8, ce5_8, Ae5_10, ce5_10, rfl, he5_1, he5_2, he5_4, he5_5, he5_7, he5_8, he5_10⟩ := e5K
    refine l_r (r_indexA rfl e5A rfl (by omega) (by omega) el23) rfl ?_
    refine l_r (r_field rfl fo75_7) rfl ?_
    refine l_r (r_load1 rfl ag22 ((e5c.on hs3).get (j := 7) rfl)) rfl ?_
    refine l_r (r_assign rfl) rfl ?_
    refine l_nil ?_
    refine s_seq ?_
    refine s_seq ?_
    refine s_region ?_
    refine l_r (r_field rfl fo133_0) rfl ?_
    refine l_r (r_load1p rfl hs3 Repl.here ag4 rfl) rfl ?_
    refine l_nil ?_
    refine s_part (dj := 22) rfl (fun hc6 => ?_) (fun hc6 => ?_)
    ·
      refine s_then rfl ?_
      refine s_region ?_
      refine l_r (r_field rfl fo27_3) rfl ?_
      refine l_r (r_load1p rfl hs3 (Repl.there Repl.here) ag23 rfl) rfl ?_
      refine l_r (r_field rfl fo133_1) rfl ?_
      refine l_r (r_load1p rfl hs3 Repl.here ag3 rfl) rfl ?_
      refine l_r (r_indexA rfl e5A rfl (by omega) (by omega) el23) rfl ?_
      refine l_r (r_field rfl fo75_8) rfl ?_
      refine l_r (r_load1 rfl ag22 ((e5c.on hs3).get (j := 8) rfl)) rfl ?_
      refine l_r (r_assign rfl) rfl ?_
      refine l_nil ?_
      refine s_seq ?_
      refine s_region ?_
      refine l_r (r_field rfl fo133_2) rfl ?_
      refine l_r (r_load1p rfl hs3 Repl.here ag3 rfl) rfl ?_
      refine l_r (r_move rfl) rfl ?_
      refine l_r (r_len rfl el22) rfl ?_
      have hlen := he5_8.len
      refine l_r (r_subI rfl rfl (by omega)) rfl ?_
      refine l_call rfl rfl fk33 rfl (between_ok w3 x.2.2 0 (((e5x.Queues.length : Int) - 1))) ?_
      rintro _ w7 ⟨rfl, hc7⟩
      have hs7 := hs3.call0 hc7
      refine ⟨_, rfl, ?_⟩
      refine l_r (r_assign rfl) rfl ?_
      refine l_nil ?_
      refine s_ret ?_
      exact q_done (.inr rfl) (.tmp rfl .nil) ⟨congrArg Ending.returned (congrArg Value.bool (by rw [thereB_some e5h]; simp only [hc4n, hc6, Bool.true_and, Bool.false_and, Bool.and_true, Bool.and_false, if_true, if_false, Bool.false_eq_true, ite_true, ite_false])), hs7.tail.tail⟩
    ·
      refine s_else rfl ?_
      refine s_skip ?_
      refine s_seq ?_
      refine s_region ?_
      refine l_r (r_field rfl fo133_2) rfl ?_
      refine l_r (r_load1p rfl hs3 Repl.here ag3 rfl) rfl ?_
      refine l_r (r_move rfl) rfl ?_
      refine l_r (r_len rfl el22) rfl ?_
      have hlen := he5_7.len
      refine l_r (r_subI rfl rfl (by omega)) rfl ?_
      refine l_call rfl rfl fk33 rfl (between_ok w3 x.2.2 0 (((e5x.Samples.length : Int) - 1))) ?_
      rintro _ w8 ⟨rfl, hc8⟩
      have hs8 := hs3.call0 hc8
      refine ⟨_, rfl, ?_⟩
      refine l_r (r_assign rfl) rfl ?_
      refine l_nil ?_
      refine s_ret ?_
      exact q_done (.inr rfl) (.tmp rfl .nil) ⟨congrArg Ending.returned (congrArg Value.bool (by rw [thereB_some e5h]; simp only [hc4n, hc6, Bool.true_and, Bool.false_and, Bool.and_true, Bool.and_false, if_true, if_false, Bool.false_eq_true, ite_true, ite_false])), hs8.tail.tail⟩

set_option maxRecDepth 100000 in
theorem line_ok {cf : TConfig} {Al_2 Al_3 Al_4 Al_5 : Option Addr} {cl_2 cl_3 cl_4 cl_5 : Nat} {w0 : World} {bc : Nat} (hle3 : cf.Parts.length ≤ 9223372036854775807) (hcb0 : Cells w0 bc 0 [.int .i64 cf.Frame, .int .i64 cf.Switch, .slice Al_2 cf.Lines.length cl_2, .slice Al_3 cf.Parts.length cl_3, .slice Al_4 cf.Windows.length cl_4, .slice Al_5 cf.Channels.length cl_5]) (w : World) (hxw : Ext w0 w) (ok : Nat → Prop) (x : Int) (cs : List Value) (hK : Kd.int.K w ok x cs) :
    Calls Try.prog 32 #[mkI cs, .pointer (some ⟨bc, 0, none⟩)] w (fun e w' => e = .returned (.bool (lineB cf x)) ∧ St 0 w w' []) := by
  refine q_call (n := 10) (args := [mkI cs, .pointer (some ⟨bc, 0, none⟩)]) Try.func32 rfl rfl rfl ?_
  have hs0 := St.refl 0 w
  obtain rfl : cs = [.int .i64 x] := hK
  have hcb := hcb0.on ((St.refl 0 w0).ext hxw)
  refine s_seq ?_
  refine s_region ?_
  refine l_r (r_assign rfl) rfl ?_
  refine l_nil ?_
  refine s_seq ?_
  refine s_region ?_
  refine l_r (r_move rfl) rfl ?_
  refine l_r (r_field rfl fo27_3) rfl ?_
  refine l_r (r_load1 rfl ag23 ((hcb.on hs0).get (j := 3) rfl)) rfl ?_
  refine l_r (r_len rfl el23) rfl ?_
  refine l_r (r_subI rfl rfl (by omega)) rfl ?_
  refine l_call rfl rfl fk33 rfl (between_ok w x 0 (((cf.Parts.length : Int) - 1))) ?_
  rintro _ w1 ⟨rfl, hc1⟩
  have hs1 := hs0.call0 hc1
  refine ⟨_, rfl, ?_⟩
  refine l_r (r_assign rfl) rfl ?_
  refine l_nil ?_
  refine s_ret ?_
  exact q_done (.inr rfl) (.tmp rfl .nil) ⟨rfl, hs1⟩

set_option maxRecDepth 100000 in
theorem win_ok {cf : TConfig} {Al_2 Al_3 Al_4 Al_5 : Option Addr} {cl_2 cl_3 cl_4 cl_5 : Nat} {w0 w : World} {H : List Res} {bc be : Nat} {ok : Nat → Prop} {en : Int} {x : TWindow} {cs : List Value} (hle3 : cf.Parts.length ≤ 9223372036854775807) (hcb : Cells w0 bc 0 [.int .i64 cf.Frame, .int .i64 cf.Switch, .slice Al_2 cf.Lines.length cl_2, .slice Al_3 cf.Parts.length cl_3, .slice Al_4 cf.Windows.length cl_4, .slice Al_5 cf.Channels.length cl_5]) (hg : 0 ≤ en ∧ en ≤ cf.Frame ∧ cf.Frame ≤ 4096) (hK : Kd.window.K w0 ok x cs) (hs0 : St 0 w0 w (.pt be [.int .i64 en] 3 :: H)) :
    Calls Try.prog 63 #[mkA cs, .pointer (some ⟨bc, 0, none⟩), .pointer (some ⟨be, 0, none⟩)] w (fun e w' => (∃ s', e = .returned (.bool true) ∧ winStep cf en x = some s' ∧ (0 ≤ s' ∧ s' ≤ cf.Frame ∧ cf.Frame ≤ 4096) ∧ St 0 w0 w' (.pt be [.int .i64 s'] 3 :: H)) ∨ (e = .returned (.bool false) ∧ winStep cf en x = none ∧ St 0 w0 w' H)) := by
  refine q_call (n := 37) (args := [mkA cs, .pointer (some ⟨bc, 0, none⟩), .pointer (some ⟨be, 0, none⟩)]) Try.func63 rfl rfl rfl ?_
  have hs0 := hs0
  obtain rfl : cs = [.int .i64 x.Part, .int .i64 x.Start, .int .i64 x.Len] := hK
  refine s_seq ?_
  refine s_region ?_
  refine l_box rfl rfl rfl hs0 ?_
  intro w1 b3 hb3 hx1 hs1
  refine l_r (r_assign rfl) rfl ?_
  refine l_nil ?_
  refine s_seq ?_
  refine s_region ?_
  refine l_r (r_field rfl fo128_0) rfl ?_
  refine l_r (r_load1p rfl hs1 Repl.here ag3 rfl) rfl ?_
  refine l_r (r_field rfl fo27_3) rfl ?_
  refine l_r (r_load1 rfl ag23 ((hcb.on hs1).get (j := 3) rfl)) rfl ?_
  refine l_r (r_len rfl el23) rfl ?_
  refine l_r (r_subI rfl rfl (by omega)) rfl ?_
  refine l_call rfl rfl fk33 rfl (between_ok w1 x.Part 0 (((cf.Parts.length : Int) - 1))) ?_
  rintro _ w2 ⟨rfl, hc2⟩
  have hs2 := hs1.call0 hc2
  refine ⟨_, rfl, ?_⟩
  refine l_r (r_move rfl) rfl ?_
  refine l_part (dj := 13) rfl (fun hc3 => ?_) (fun hc3 => ?_)
  ·
    refine l_on (dj := 13) rfl rfl rfl ?_
    refine l_r (r_field rfl fo128_1) rfl ?_
    refine l_on (dj := 13) rfl rfl rfl ?_
    refine l_r (r_load1p rfl hs2 Repl.here ag3 rfl) rfl ?_
    refine l_on (dj := 13) rfl rfl rfl ?_
    refine l_r (r_load1p rfl hs2 (Repl.there Repl.here) ag3 rfl) rfl ?_
    refine l_on (dj := 13) rfl rfl rfl ?_
    refine l_r (r_field rfl fo27_0) rfl ?_
    refine l_on (dj := 13) rfl rfl rfl ?_
    refine l_r (r_load1 rfl ag3 ((hcb.on hs2).get (j := 0) rfl)) rfl ?_
    refine l_on (dj := 13) rfl rfl rfl ?_
    refine l_call rfl rfl fk33 rfl (between_ok w2 x.Start en cf.Frame) ?_
    rintro _ w4 ⟨rfl, hc4⟩
    have hs4 := hs2.call0 hc4
    refine ⟨_, rfl, ?_⟩
    refine l_r (r_pick_t rfl rfl) rfl ?_
    refine l_r (r_move rfl) rfl ?_
    refine l_part (dj := 21) rfl (fun hc5 => ?_) (fun hc5 => ?_)
    ·
      refine l_on (dj := 21) rfl rfl rfl ?_
      refine l_r (r_field rfl fo128_2) rfl ?_
      refine l_on (dj := 21) rfl rfl rfl ?_
      refine l_r (r_load1p rfl hs4 Repl.here ag3 rfl) rfl ?_
      refine l_on (dj := 21) rfl rfl rfl ?_
      refine l_r (r_field rfl fo27_0) rfl ?_
      refine l_on (dj := 21) rfl rfl rfl ?_
      refine l_r (r_load1 rfl ag3 ((hcb.on hs4).get (j := 0) rfl)) rfl ?_
      refine l_on (dj := 21) rfl rfl rfl ?_
      refine l_r (r_field rfl fo128_1) rfl ?_
      refine l_on (dj := 21) rfl rfl rfl ?_
      refine l_r (r_load1p rfl hs4 Repl.here ag3 rfl) rfl ?_
      refine l_on (dj := 21) rfl rfl rfl ?_
      have hw1 := inr_iff.1 hc5
      refine l_r (r_subI rfl rfl (by omega)) rfl ?_
      refine l_on (dj := 21) rfl rfl rfl ?_
      refine l_call rfl rfl fk33 rfl (between_ok w4 x.Len 1 ((cf.Frame - x.Start))) ?_
      rintro _ w6 ⟨rfl, hc6⟩
      have hs6 := hs4.call0 hc6
      refine ⟨_, rfl, ?_⟩
      refine l_r (r_pick_t rfl rfl) rfl ?_
      refine l_part (dj := 30) rfl (fun hc7 => ?_) (fun hc7 => ?_)
      ·
        refine l_r (r_assign rfl) rfl ?_
        refine l_nil ?_
        refine s_seq ?_
        refine s_region ?_
        refine l_r (r_field rfl fo128_1) rfl ?_
        refine l_r (r_load1p rfl hs6 Repl.here ag3 rfl) rfl ?_
        refine l_r (r_field rfl fo128_2) rfl ?_
        refine l_r (r_load1p rfl hs6 Repl.here ag3 rfl) rfl ?_
        have hw3 := inr_iff.1 hc7
        refine l_r (r_addI rfl rfl (by omega)) rfl ?_
        refine l_store1 rfl rfl rfl sz3 (Nat.zero_le _) hs6 (Repl.there Repl.here) rfl ?_
        intro w8 hz8 hk8 hs8
        refine l_nil ?_
        refine s_seq ?_
        refine s_region ?_
        refine l_r (r_move rfl) rfl ?_
        refine l_r (r_assign rfl) rfl ?_
        refine l_nil ?_
        refine s_ret ?_
        have hw2 := inr_iff.1 hc7
        exact q_done (.inr rfl) (.tmp rfl .nil) (.inl ⟨x.Start + x.Len, rfl, by simp only [winStep, winB, hc3, hc5, hc7, Bool.true_and, Bool.false_and, Bool.and_true, Bool.and_false]; rfl, by omega, hs8.tail⟩)
      ·
        refine l_r (r_assign rfl) rfl ?_
        refine l_nil ?_
        refine s_seq ?_
        refine s_region ?_
        refine l_r (r_field rfl fo128_1) rfl ?_
        refine l_r (r_load1p rfl hs6 Repl.here ag3 rfl) rfl ?_
        refine l_r (r_field rfl fo128_2) rfl ?_
        refine l_r (r_load1p rfl hs6 Repl.here ag3 rfl) rfl ?_
        refine l_r (r_arith rfl rfl rfl) rfl ?_
        refine l_store1 rfl rfl rfl sz3 (Nat.zero_le _) hs6 (Repl.there Repl.here) rfl ?_
        intro w9 hz9 hk9 hs9
        refine l_nil ?_
        refine s_seq ?_
        refine s_region ?_
        refine l_r (r_move rfl) rfl ?_
        refine l_r (r_assign rfl) rfl ?_
        refine l_nil ?_
        refine s_ret ?_
        exact q_done (.inr rfl) (.tmp rfl .nil) (.inr ⟨rfl, by simp only [winStep, winB, hc3, hc5, hc7, Bool.true_and, Bool.false_and, Bool.and_true, Bool.and_false]; rfl, hs9.tail.tail⟩)
    ·
      refine l_off (dj := 21) (b := false) rfl rfl rfl rfl rfl ?_
      refine l_off (dj := 21) (b := false) rfl rfl rfl rfl rfl ?_
      refine l_off (dj := 21) (b := false) rfl rfl rfl rfl rfl ?_
      refine l_off (dj := 21) (b := false) rfl rfl rfl rfl rfl ?_
      refine l_off (dj := 21) (b := false) rfl rfl rfl rfl rfl ?_
      refine l_off (dj := 21) (b := false) rfl rfl rfl rfl rfl ?_
      refine l_off (dj := 21) (b := false) rfl rfl rfl rfl rfl ?_
      refine l_off (dj := 21) (b := false) rfl rfl rfl rfl rfl ?_
      refine l_r (r_pick_f rfl rfl) rfl ?_
      refine l_r (r_assign rfl) rfl ?_
      refine l_nil ?_
      refine s_seq ?_
      refine s_region ?_
      refine l_r (r_field rfl fo128_1) rfl ?_
      refine l_r (r_load1p rfl hs4 Repl.here ag3 rfl) rfl ?_
      refine l_r (r_field rfl fo128_2) rfl ?_
      refine l_r (r_load1p rfl hs4 Repl.here ag3 rfl) rfl ?_
      refine l_r (r_arith rfl rfl rfl) rfl ?_
      refine l_store1 rfl rfl rfl sz3 (Nat.zero_le _) hs4 (Repl.there Repl.here) rfl ?_
      intro w10 hz10 hk10 hs10
      refine l_nil ?_
      refine s_seq ?_
      refine s_region ?_
      refine l_r (r_move rfl) rfl ?_
      refine l_r (r_assign rfl) rfl ?_
      refine l_nil ?_
      refine s_ret ?_
      exact q_done (.inr rfl) (.tmp rfl .nil) (.inr ⟨rfl, by simp only [winStep, winB, hc3, hc5, Bool.true_and, Bool.false_and, Bool.and_true, Bool.and_false]; rfl, hs10.tail.tail⟩)
  ·
    refine l_off (dj := 13) (b := false) rfl rfl rfl rfl rfl ?_
    refine l_off (dj := 13) (b := false) rfl rfl rfl rfl rfl ?_
    refine l_off (dj := 13) (b := false) rfl rfl rfl rfl rfl ?_
    refine l_off (dj := 13) (b := false) rfl rfl rfl rfl rfl ?_
    refine l_off (dj := 13) (b := false) rfl rfl rfl rfl rfl ?_
    refine l_off (dj := 13) (b := false) rfl rfl rfl rfl rfl ?_
    refine l_r (r_pick_f rfl rfl) rfl ?_
    refine l_r (r_move rfl) rfl ?_
    refine l_off (dj := 21) (b := false) rfl rfl rfl rfl rfl ?_
    refine l_off (dj := 21) (b := false) rfl rfl rfl rfl rfl ?_
    refine l_off (dj := 21) (b := false) rfl rfl rfl rfl rfl ?_
    refine l_off (dj := 21) (b := false) rfl rfl rfl rfl rfl ?_
    refine l_off (dj := 21) (b := false) rfl rfl rfl rfl rfl ?_
    refine l_off (dj := 21) (b := false) rfl rfl rfl rfl rfl ?_
    refine l_off (dj := 21) (b := false) rfl rfl rfl rfl rfl ?_
    refine l_off (dj := 21) (b := false) rfl rfl rfl rfl rfl ?_
    refine l_r (r_pick_f rfl rfl) rfl ?_
    refine l_r (r_assign rfl) rfl ?_
    refine l_nil ?_
    refine s_seq ?_
    refine s_region ?_
    refine l_r (r_field rfl fo128_1) rfl ?_
    refine l_r (r_load1p rfl hs2 Repl.here ag3 rfl) rfl ?_
    refine l_r (r_field rfl fo128_2) rfl ?_
    refine l_r (r_load1p rfl hs2 Repl.here ag3 rfl) rfl ?_
    refine l_r (r_arith rfl rfl rfl) rfl ?_
    refine l_store1 rfl rfl rfl sz3 (Nat.zero_le _) hs2 (Repl.there Repl.here) rfl ?_
    intro w11 hz11 hk11 hs11
    refine l_nil ?_
    refine s_seq ?_
    refine s_region ?_
    refine l_r (r_move rfl) rfl ?_
    refine l_r (r_assign rfl) rfl ?_
    refine l_nil ?_
    refine s_ret ?_
    exact q_done (.inr rfl) (.tmp rfl .nil) (.inr ⟨rfl, by simp only [winStep, winB, hc3, Bool.true_and, Bool.false_and, Bool.and_true, Bool.and_false]; rfl, hs11.tail.tail⟩)

theorem win_fn {cf : TConfig} {Al_2 Al_3 Al_4 Al_5 : Option Addr} {cl_2 cl_3 cl_4 cl_5 : Nat} {w0 : World} {bc be : Nat} {ok : Nat → Prop} (hle3 : cf.Parts.length ≤ 9223372036854775807) (hcb : Cells w0 bc 0 [.int .i64 cf.Frame, .int .i64 cf.Switch, .slice Al_2 cf.Lines.length cl_2, .slice Al_3 cf.Parts.length cl_3, .slice Al_4 cf.Windows.length cl_4, .slice Al_5 cf.Channels.length cl_5]) :
    FnOk Try.prog 63 [.pointer (some ⟨bc, 0, none⟩), .pointer (some ⟨be, 0, none⟩)] Kd.window mkA false true w0 ok (fun en : Int => 0 ≤ en ∧ en ≤ cf.Frame ∧ cf.Frame ≤ 4096) (fun _ => True) (fun en => [.pt be [.int .i64 en] 3]) (winStep cf) :=
  fun w H s x cs hg _ hK hs => win_ok (H := H) hle3 hcb hg hK hs

set_option maxRecDepth 100000 in
theorem windows_ok {cf : TConfig} {pl : List Value} (w : World) {ok : Nat → Prop} (hKl : Kd.config.K w ok cf pl) (hF : 1 ≤ cf.Frame ∧ cf.Frame ≤ 4096) :
    Calls Try.prog 37 #[.agg pl.toArray] w (fun e w' => e = .returned (.bool (windowsB cf)) ∧ St 0 w w' []) := by
  refine q_call (n := 14) (args := [.agg pl.toArray]) Try.func37 rfl rfl rfl ?_
  have hs0 := St.refl 0 w
  have hKl0 := hKl
  obtain ⟨Al_2, cl_2, Al_3, cl_3, Al_4, cl_4, Al_5, cl_5, rfl, hl_2, hl_3, hl_4, hl_5⟩ := hKl
  have hle2 := hl_2.len
  have hle3 := hl_3.len
  have hle4 := hl_4.len
  have hle5 := hl_5.len
  refine s_seq ?_
  refine s_region ?_
  refine l_box rfl rfl rfl hs0 ?_
  intro w1 b1 hb1 hx1 hs1
  refine l_r (r_assign rfl) rfl ?_
  refine l_nil ?_
  refine s_seq ?_
  have hcb : Cells w1 b1 0 [.int .i64 cf.Frame, .int .i64 cf.Switch, .slice Al_2 cf.Lines.length cl_2, .slice Al_3 cf.Parts.length cl_3, .slice Al_4 cf.Windows.length cl_4, .slice Al_5 cf.Channels.length cl_5] := heap_all (hs1.get (r := .pt b1 _ _) List.mem_cons_self)
  have hKb := Kd.config.on hKl0 hs1
  have hl_2 := hl_2.onk hs1
  have hl_3 := hl_3.onk hs1
  have hl_4 := hl_4.onk hs1
  have hl_5 := hl_5.onk hs1
  have hsA := hs1.nil
  have hsB := St.refl 0 w1
  skip
  refine s_region ?_
  refine l_alloc zz3 rfl hsB ?_
  intro w2 b3 hb3 hx2 hs2
  refine l_store1 rfl rfl rfl sz3 (Nat.zero_le _) hs2 Repl.here rfl ?_
  intro w3 hz3 hk3 hs3
  refine l_nil ?_
  refine s_seq ?_
  refine s_region ?_
  refine l_r (r_field rfl fo27_4) rfl ?_
  refine l_r (r_load1 rfl ag24 ((hcb.on hs3).get (j := 4) rfl)) rfl ?_
  refine l_r (r_len rfl el24) rfl ?_
  refine l_r (r_cmp rfl rfl rfl) rfl ?_
  refine l_r (r_move rfl) rfl ?_
  refine l_part (dj := 8) rfl (fun hc4 => ?_) (fun hc4 => ?_)
  ·
    have hc4p := of_decide_eq_true hc4
    refine l_on (dj := 8) rfl rfl rfl ?_
    refine l_r (r_field rfl fo27_4) rfl ?_
    refine l_on (dj := 8) rfl rfl rfl ?_
    refine l_r (r_load1 rfl ag24 ((hcb.on hs3).get (j := 4) rfl)) rfl ?_
    refine l_on (dj := 8) rfl rfl rfl ?_
    refine l_r (r_makefunc rfl rfl) rfl ?_
    refine l_on (dj := 8) rfl rfl rfl ?_
    refine l_call rfl rfl fk62 rfl (al62 (σ := Int) (Inv := fun en => [.pt b3 [.int .i64 en] 3]) (H := []) (s0 := 0) (n := 12) hs3 hl_4 fk63 (by omega) (fun _ _ => trivial) (win_fn hle3 hcb)) ?_
    rintro _ w5 (⟨s1, rfl, hn, hfs, _, hs5⟩ | ⟨rfl, hn, hs5⟩)
    ·
      refine ⟨_, rfl, ?_⟩
      refine l_r (r_pick_t rfl rfl) rfl ?_
      refine l_r (r_assign rfl) rfl ?_
      refine l_nil ?_
      refine s_ret ?_
      exact q_done (.inr rfl) (.tmp rfl .nil) ⟨congrArg Ending.returned (congrArg Value.bool (by rw [windowsB, hfs, decide_eq_true hc4p, decide_eq_true hn]; rfl)), hsA.call0 hs5.nil⟩
    ·
      refine ⟨_, rfl, ?_⟩
      refine l_r (r_pick_t rfl rfl) rfl ?_
      refine l_r (r_assign rfl) rfl ?_
      refine l_nil ?_
      refine s_ret ?_
      exact q_done (.inr rfl) (.tmp rfl .nil) ⟨congrArg Ending.returned (congrArg Value.bool (by
          rw [windowsB]
          rcases hn with hn | hn
          · rw [decide_eq_false (p := (cf.Windows.length : Int) ≤ 12) (by omega), Bool.false_and, Bool.and_false]
          · rw [hn]; simp)), hsA.call0 hs5.nil⟩
  ·
    have hc4p := of_decide_eq_false hc4
    refine l_off (dj := 8) (b := false) rfl rfl rfl rfl rfl ?_
    refine l_off (dj := 8) (b := false) rfl rfl rfl rfl rfl ?_
    refine l_off (dj := 8) (b := false) rfl rfl rfl rfl rfl ?_
    refine l_off (dj := 8) (b := false) rfl rfl rfl rfl rfl ?_
    refine l_r (r_pick_f rfl rfl) rfl ?_
    refine l_r (r_assign rfl) rfl ?_
    refine l_nil ?_
    refine s_ret ?_
    exact q_done (.inr rfl) (.tmp rfl .nil) ⟨congrArg Ending.returned (congrArg Value.bool (by simp only [windowsB, hc4, Bool.true_and, Bool.false_and, Bool.and_true, Bool.and_false])), hsA.call0 hs3.nil⟩

end Go.Proofs.Ytfhghnhgcdiknaa
