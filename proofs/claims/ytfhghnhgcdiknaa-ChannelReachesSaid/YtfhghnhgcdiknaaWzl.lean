/- Whether a partition may be. -/
import Derived.Test.YtfhghnhgcdiknaaWzk
set_option linter.unusedVariables false
set_option linter.unusedSimpArgs false
namespace Go.Proofs.Ytfhghnhgcdiknaa
open Go.RowKit
def ownB (p : TPartConf) : Bool := memOk p.Regions p.Words && (decide ((p.Procs.length : Int) > 0) && (decide ((p.Procs.length : Int) ≤ 6) && p.Procs.all procB))
def objB (p : TPartConf) : Bool := inr p.Boards 0 4 && (inr p.Events 0 4 && ((decide ((p.Buffers.length : Int) ≤ 4) && p.Buffers.all bufB) && (decide ((p.Semas.length : Int) ≤ 4) && p.Semas.all semB)))
def porB (p : TPartConf) : Bool := (decide ((p.Samples.length : Int) ≤ 4) && p.Samples.all samB) && ((decide ((p.Queues.length : Int) ≤ 4) && p.Queues.all queB) && inr p.Latch 0 8)
def tabB (p : TPartConf) : Bool := ((p.Table.length : Int) == 7) && ((p.Table[0]? == some 0) && (decide ((p.Table.length : Int) ≤ 7) && p.Table.all actB))
def partB (p : TPartConf) : Bool := ownB p && (objB p && (porB p && tabB p))

set_option maxRecDepth 100000 in
theorem cl36 (w : World) (ok : Nat → Prop) (p : TPartConf) (cs : List Value) (hK : Kd.partConf.K w ok p cs) :
    Calls Try.prog 36 #[mkA cs] w (fun e w' => e = .returned (.bool (partB p)) ∧ St 0 w w' []) := by
  refine q_call (n := 88) (args := [mkA cs]) Try.func36 rfl rfl rfl ?_
  have hs0 := St.refl 0 w
  have hK0 := hK
  obtain ⟨Ap_1, cp_1, Ap_2, cp_2, Ap_4, cp_4, Ap_5, cp_5, Ap_7, cp_7, Ap_8, cp_8, Ap_10, cp_10, rfl, hp_1, hp_2, hp_4, hp_5, hp_7, hp_8, hp_10⟩ := hK
  refine s_seq ?_
  refine s_region ?_
  refine l_box rfl rfl rfl hs0 ?_
  intro w1 b1 hb1 hx1 hs1
  refine l_r (r_assign rfl) rfl ?_
  refine l_nil ?_
  refine s_seq ?_
  refine s_region ?_
  refine l_r (r_assign rfl) rfl ?_
  refine l_nil ?_
  refine s_seq ?_
  refine s_region ?_
  refine l_r (r_assign rfl) rfl ?_
  refine l_nil ?_
  refine s_seq ?_
  refine s_region ?_
  refine l_r (r_assign rfl) rfl ?_
  refine l_nil ?_
  refine s_seq ?_
  refine s_region ?_
  refine l_r (r_assign rfl) rfl ?_
  refine l_nil ?_
  refine s_seq ?_
  refine s_region ?_
  refine l_r (r_assign rfl) rfl ?_
  refine l_nil ?_
  refine s_seq ?_
  refine s_cut (fun L' w' => Sub [(1, .pointer (some ⟨b1, 0, none⟩)), (2, .bool false), (3, .func (.func 52) #[] #[]), (4, .func (.func 53) #[] #[]), (5, .func (.func 54) #[] #[]), (6, .func (.func 55) #[] #[]), (7, .func (.func 56) #[] #[]), (8, .bool (ownB p))] L' ∧ St 0 w w' [.pt b1 [.int .i64 p.Words, .slice Ap_1 p.Regions.length cp_1, .slice Ap_2 p.Procs.length cp_2, .int .i64 p.Boards, .slice Ap_4 p.Buffers.length cp_4, .slice Ap_5 p.Semas.length cp_5, .int .i64 p.Events, .slice Ap_7 p.Samples.length cp_7, .slice Ap_8 p.Queues.length cp_8, .int .i64 p.Latch, .slice Ap_10 p.Table.length cp_10] 75]) ?_ ?_
  ·
    refine s_region ?_
    refine l_r (r_field rfl fo75_1) rfl ?_
    refine l_r (r_load1p rfl hs1 Repl.here ag70 rfl) rfl ?_
    refine l_r (r_field rfl fo75_0) rfl ?_
    refine l_r (r_load1p rfl hs1 Repl.here ag3 rfl) rfl ?_
    refine l_call rfl rfl fk57 rfl (mem_ok w1 (hp_1.onk hs1) p.Words) ?_
    rintro _ w2 ⟨rfl, hc2⟩
    have hs2 := hs1.call0 hc2
    refine ⟨_, rfl, ?_⟩
    refine l_r (r_move rfl) rfl ?_
    refine l_part (dj := 16) rfl (fun hc3 => ?_) (fun hc3 => ?_)
    ·
      refine l_on (dj := 16) rfl rfl rfl ?_
      refine l_r (r_field rfl fo75_2) rfl ?_
      refine l_on (dj := 16) rfl rfl rfl ?_
      refine l_r (r_load1p rfl hs2 Repl.here ag71 rfl) rfl ?_
      refine l_on (dj := 16) rfl rfl rfl ?_
      refine l_r (r_len rfl el71) rfl ?_
      refine l_on (dj := 16) rfl rfl rfl ?_
      refine l_r (r_cmp rfl rfl rfl) rfl ?_
      refine l_r (r_pick_t rfl rfl) rfl ?_
      refine l_r (r_move rfl) rfl ?_
      refine l_part (dj := 22) rfl (fun hc4 => ?_) (fun hc4 => ?_)
      ·
        have hc4p := of_decide_eq_true hc4
        refine l_on (dj := 22) rfl rfl rfl ?_
        refine l_r (r_field rfl fo75_2) rfl ?_
        refine l_on (dj := 22) rfl rfl rfl ?_
        refine l_r (r_load1p rfl hs2 Repl.here ag71 rfl) rfl ?_
        refine l_on (dj := 22) rfl rfl rfl ?_
        refine l_call rfl rfl fk58 rfl (alp58 w2 (p := procB) (hp_2.onk hs2) fk59 (fun w1 _ => cl59 w1)) ?_
        rintro _ w5 ⟨rfl, hc5⟩
        have hs5 := hs2.call0 hc5
        refine ⟨_, rfl, ?_⟩
        refine l_r (r_pick_t rfl rfl) rfl ?_
        refine l_r (r_assign rfl) rfl ?_
        refine l_nil ?_
        refine s_again ?_
        exact ⟨(.cons rfl (.cons rfl (.cons rfl (.cons rfl (.cons rfl (.cons rfl (.cons rfl (.cons (congrArg (fun b => some (Value.bool b)) (by simp only [ownB, hc3, hc4, Bool.true_and, Bool.false_and, Bool.and_true, Bool.and_false])) .nil)))))))), hs5⟩
      ·
        have hc4p := of_decide_eq_false hc4
        refine l_off (dj := 22) (b := false) rfl rfl rfl rfl rfl ?_
        refine l_off (dj := 22) (b := false) rfl rfl rfl rfl rfl ?_
        refine l_off (dj := 22) (b := false) rfl rfl rfl rfl rfl ?_
        refine l_r (r_pick_f rfl rfl) rfl ?_
        refine l_r (r_assign rfl) rfl ?_
        refine l_nil ?_
        refine s_again ?_
        exact ⟨(.cons rfl (.cons rfl (.cons rfl (.cons rfl (.cons rfl (.cons rfl (.cons rfl (.cons (congrArg (fun b => some (Value.bool b)) (by simp only [ownB, hc3, hc4, Bool.true_and, Bool.false_and, Bool.and_true, Bool.and_false])) .nil)))))))), hs2⟩
    ·
      refine l_off (dj := 16) (b := false) rfl rfl rfl rfl rfl ?_
      refine l_off (dj := 16) (b := false) rfl rfl rfl rfl rfl ?_
      refine l_off (dj := 16) (b := false) rfl rfl rfl rfl rfl ?_
      refine l_off (dj := 16) (b := false) rfl rfl rfl rfl rfl ?_
      refine l_r (r_pick_f rfl rfl) rfl ?_
      refine l_r (r_move rfl) rfl ?_
      refine l_off (dj := 22) (b := false) rfl rfl rfl rfl rfl ?_
      refine l_off (dj := 22) (b := false) rfl rfl rfl rfl rfl ?_
      refine l_off (dj := 22) (b := false) rfl rfl rfl rfl rfl ?_
      refine l_r (r_pick_f rfl rfl) rfl ?_
      refine l_r (r_assign rfl) rfl ?_
      refine l_nil ?_
      refine s_again ?_
      exact ⟨(.cons rfl (.cons rfl (.cons rfl (.cons rfl (.cons rfl (.cons rfl (.cons rfl (.cons (congrArg (fun b => some (Value.bool b)) (by simp only [ownB, hc3, Bool.true_and, Bool.false_and, Bool.and_true, Bool.and_false])) .nil)))))))), hs2⟩
  rintro _ w6 ⟨hsub, hs6⟩
  refine s_sub [(1, .pointer (some ⟨b1, 0, none⟩)), (2, .bool false), (3, .func (.func 52) #[] #[]), (4, .func (.func 53) #[] #[]), (5, .func (.func 54) #[] #[]), (6, .func (.func 55) #[] #[]), (7, .func (.func 56) #[] #[]), (8, .bool (ownB p))] hsub ?_
  refine s_seq ?_
  refine s_cut (fun L' w' => Sub [(1, .pointer (some ⟨b1, 0, none⟩)), (2, .bool false), (3, .func (.func 52) #[] #[]), (4, .func (.func 53) #[] #[]), (5, .func (.func 54) #[] #[]), (6, .func (.func 55) #[] #[]), (7, .func (.func 56) #[] #[]), (8, .bool (ownB p)), (9, .bool (objB p))] L' ∧ St 0 w w' [.pt b1 [.int .i64 p.Words, .slice Ap_1 p.Regions.length cp_1, .slice Ap_2 p.Procs.length cp_2, .int .i64 p.Boards, .slice Ap_4 p.Buffers.length cp_4, .slice Ap_5 p.Semas.length cp_5, .int .i64 p.Events, .slice Ap_7 p.Samples.length cp_7, .slice Ap_8 p.Queues.length cp_8, .int .i64 p.Latch, .slice Ap_10 p.Table.length cp_10] 75]) ?_ ?_
  ·
    refine s_region ?_
    refine l_r (r_field rfl fo75_3) rfl ?_
    refine l_r (r_load1p rfl hs6 Repl.here ag3 rfl) rfl ?_
    refine l_call rfl rfl fk33 rfl (between_ok w6 p.Boards 0 4) ?_
    rintro _ w7 ⟨rfl, hc7⟩
    have hs7 := hs6.call0 hc7
    refine ⟨_, rfl, ?_⟩
    refine l_r (r_move rfl) rfl ?_
    refine l_part (dj := 30) rfl (fun hc8 => ?_) (fun hc8 => ?_)
    ·
      refine l_on (dj := 30) rfl rfl rfl ?_
      refine l_r (r_field rfl fo75_6) rfl ?_
      refine l_on (dj := 30) rfl rfl rfl ?_
      refine l_r (r_load1p rfl hs7 Repl.here ag3 rfl) rfl ?_
      refine l_on (dj := 30) rfl rfl rfl ?_
      refine l_call rfl rfl fk33 rfl (between_ok w7 p.Events 0 4) ?_
      rintro _ w9 ⟨rfl, hc9⟩
      have hs9 := hs7.call0 hc9
      refine ⟨_, rfl, ?_⟩
      refine l_r (r_pick_t rfl rfl) rfl ?_
      refine l_r (r_move rfl) rfl ?_
      refine l_part (dj := 35) rfl (fun hc10 => ?_) (fun hc10 => ?_)
      ·
        refine l_on (dj := 35) rfl rfl rfl ?_
        refine l_r (r_field rfl fo75_4) rfl ?_
        refine l_on (dj := 35) rfl rfl rfl ?_
        refine l_r (r_load1p rfl hs9 Repl.here ag72 rfl) rfl ?_
        refine l_on (dj := 35) rfl rfl rfl ?_
        refine l_r (r_move rfl) rfl ?_
        refine l_on (dj := 35) rfl rfl rfl ?_
        refine l_call rfl rfl fk60 rfl (alp60 w9 (p := bufB) (hp_4.onk hs9) fk52 (fun w1 _ => cl52 w1)) ?_
        rintro _ w11 ⟨rfl, hc11⟩
        have hs11 := hs9.call0 hc11
        refine ⟨_, rfl, ?_⟩
        refine l_r (r_pick_t rfl rfl) rfl ?_
        refine l_r (r_move rfl) rfl ?_
        refine l_part (dj := 41) rfl (fun hc12 => ?_) (fun hc12 => ?_)
        ·
          refine l_on (dj := 41) rfl rfl rfl ?_
          refine l_r (r_field rfl fo75_5) rfl ?_
          refine l_on (dj := 41) rfl rfl rfl ?_
          refine l_r (r_load1p rfl hs11 Repl.here ag73 rfl) rfl ?_
          refine l_on (dj := 41) rfl rfl rfl ?_
          refine l_r (r_move rfl) rfl ?_
          refine l_on (dj := 41) rfl rfl rfl ?_
          refine l_call rfl rfl fk61 rfl (alp61 w11 (p := semB) (hp_5.onk hs11) fk53 (fun w1 _ => cl53 w1)) ?_
          rintro _ w13 ⟨rfl, hc13⟩
          have hs13 := hs11.call0 hc13
          refine ⟨_, rfl, ?_⟩
          refine l_r (r_pick_t rfl rfl) rfl ?_
          refine l_r (r_assign rfl) rfl ?_
          refine l_nil ?_
          refine s_again ?_
          exact ⟨(.cons rfl (.cons rfl (.cons rfl (.cons rfl (.cons rfl (.cons rfl (.cons rfl (.cons rfl (.cons (congrArg (fun b => some (Value.bool b)) (by simp only [objB, hc8, hc10, hc12, Bool.true_and, Bool.false_and, Bool.and_true, Bool.and_false])) .nil))))))))), hs13⟩
        ·
          refine l_off (dj := 41) (b := false) rfl rfl rfl rfl rfl ?_
          refine l_off (dj := 41) (b := false) rfl rfl rfl rfl rfl ?_
          refine l_off (dj := 41) (b := false) rfl rfl rfl rfl rfl ?_
          refine l_off (dj := 41) (b := false) rfl rfl rfl rfl rfl ?_
          refine l_r (r_pick_f rfl rfl) rfl ?_
          refine l_r (r_assign rfl) rfl ?_
          refine l_nil ?_
          refine s_again ?_
          exact ⟨(.cons rfl (.cons rfl (.cons rfl (.cons rfl (.cons rfl (.cons rfl (.cons rfl (.cons rfl (.cons (congrArg (fun b => some (Value.bool b)) (by simp only [objB, hc8, hc10, hc12, Bool.true_and, Bool.false_and, Bool.and_true, Bool.and_false])) .nil))))))))), hs11⟩
      ·
        refine l_off (dj := 35) (b := false) rfl rfl rfl rfl rfl ?_
        refine l_off (dj := 35) (b := false) rfl rfl rfl rfl rfl ?_
        refine l_off (dj := 35) (b := false) rfl rfl rfl rfl rfl ?_
        refine l_off (dj := 35) (b := false) rfl rfl rfl rfl rfl ?_
        refine l_r (r_pick_f rfl rfl) rfl ?_
        refine l_r (r_move rfl) rfl ?_
        refine l_off (dj := 41) (b := false) rfl rfl rfl rfl rfl ?_
        refine l_off (dj := 41) (b := false) rfl rfl rfl rfl rfl ?_
        refine l_off (dj := 41) (b := false) rfl rfl rfl rfl rfl ?_
        refine l_off (dj := 41) (b := false) rfl rfl rfl rfl rfl ?_
        refine l_r (r_pick_f rfl rfl) rfl ?_
        refine l_r (r_assign rfl) rfl ?_
        refine l_nil ?_
        refine s_again ?_
        exact ⟨(.cons rfl (.cons rfl (.cons rfl (.cons rfl (.cons rfl (.cons rfl (.cons rfl (.cons rfl (.cons (congrArg (fun b => some (Value.bool b)) (by simp only [objB, hc8, hc10, Bool.true_and, Bool.false_and, Bool.and_true, Bool.and_false])) .nil))))))))), hs9⟩
    ·
      refine l_off (dj := 30) (b := false) rfl rfl rfl rfl rfl ?_
      refine l_off (dj := 30) (b := false) rfl rfl rfl rfl rfl ?_
      refine l_off (dj := 30) (b := false) rfl rfl rfl rfl rfl ?_
      refine l_r (r_pick_f rfl rfl) rfl ?_
      refine l_r (r_move rfl) rfl ?_
      refine l_off (dj := 35) (b := false) rfl rfl rfl rfl rfl ?_
      refine l_off (dj := 35) (b := false) rfl rfl rfl rfl rfl ?_
      refine l_off (dj := 35) (b := false) rfl rfl rfl rfl rfl ?_
      refine l_off (dj := 35) (b := false) rfl rfl rfl rfl rfl ?_
      refine l_r (r_pick_f rfl rfl) rfl ?_
      refine l_r (r_move rfl) rfl ?_
      refine l_off (dj := 41) (b := false) rfl rfl rfl rfl rfl ?_
      refine l_off (dj := 41) (b := false) rfl rfl rfl rfl rfl ?_
      refine l_off (dj := 41) (b := false) rfl rfl rfl rfl rfl ?_
      refine l_off (dj := 41) (b := false) rfl rfl rfl rfl rfl ?_
      refine l_r (r_pick_f rfl rfl) rfl ?_
      refine l_r (r_assign rfl) rfl ?_
      refine l_nil ?_
      refine s_again ?_
      exact ⟨(.cons rfl (.cons rfl (.cons rfl (.cons rfl (.cons rfl (.cons rfl (.cons rfl (.cons rfl (.cons (congrArg (fun b => some (Value.bool b)) (by simp only [objB, hc8, Bool.true_and, Bool.false_and, Bool.and_true, Bool.and_false])) .nil))))))))), hs7⟩
  rintro _ w14 ⟨hsub, hs14⟩
  refine s_sub [(1, .pointer (some ⟨b1, 0, none⟩)), (2, .bool false), (3, .func (.func 52) #[] #[]), (4, .func (.func 53) #[] #[]), (5, .func (.func 54) #[] #[]), (6, .func (.func 55) #[] #[]), (7, .func (.func 56) #[] #[]), (8, .bool (ownB p)), (9, .bool (objB p))] hsub ?_
  refine s_seq ?_
  refine s_cut (fun L' w' => Sub [(1, .pointer (some ⟨b1, 0, none⟩)), (2, .bool false), (5, .func (.func 54) #[] #[]), (6, .func (.func 55) #[] #[]), (7, .func (.func 56) #[] #[]), (8, .bool (ownB p)), (9, .bool (objB p)), (10, .bool (porB p))] L' ∧ St 0 w w' [.pt b1 [.int .i64 p.Words, .slice Ap_1 p.Regions.length cp_1, .slice Ap_2 p.Procs.length cp_2, .int .i64 p.Boards, .slice Ap_4 p.Buffers.length cp_4, .slice Ap_5 p.Semas.length cp_5, .int .i64 p.Events, .slice Ap_7 p.Samples.length cp_7, .slice Ap_8 p.Queues.length cp_8, .int .i64 p.Latch, .slice Ap_10 p.Table.length cp_10] 75]) ?_ ?_
  ·
    refine s_region ?_
    refine l_r (r_field rfl fo75_7) rfl ?_
    refine l_r (r_load1p rfl hs14 Repl.here ag22 rfl) rfl ?_
    refine l_r (r_move rfl) rfl ?_
    refine l_call rfl rfl fk34 rfl (alp34 w14 (p := samB) (hp_7.onk hs14) fk54 (fun w1 _ => cl54 w1)) ?_
    rintro _ w15 ⟨rfl, hc15⟩
    have hs15 := hs14.call0 hc15
    refine ⟨_, rfl, ?_⟩
    refine l_r (r_move rfl) rfl ?_
    refine l_part (dj := 51) rfl (fun hc16 => ?_) (fun hc16 => ?_)
    ·
      refine l_on (dj := 51) rfl rfl rfl ?_
      refine l_r (r_field rfl fo75_8) rfl ?_
      refine l_on (dj := 51) rfl rfl rfl ?_
      refine l_r (r_load1p rfl hs15 Repl.here ag22 rfl) rfl ?_
      refine l_on (dj := 51) rfl rfl rfl ?_
      refine l_r (r_move rfl) rfl ?_
      refine l_on (dj := 51) rfl rfl rfl ?_
      refine l_call rfl rfl fk34 rfl (alp34 w15 (p := queB) (hp_8.onk hs15) fk55 (fun w1 _ => cl55 w1)) ?_
      rintro _ w17 ⟨rfl, hc17⟩
      have hs17 := hs15.call0 hc17
      refine ⟨_, rfl, ?_⟩
      refine l_r (r_pick_t rfl rfl) rfl ?_
      refine l_r (r_move rfl) rfl ?_
      refine l_part (dj := 57) rfl (fun hc18 => ?_) (fun hc18 => ?_)
      ·
        refine l_on (dj := 57) rfl rfl rfl ?_
        refine l_r (r_field rfl fo75_9) rfl ?_
        refine l_on (dj := 57) rfl rfl rfl ?_
        refine l_r (r_load1p rfl hs17 Repl.here ag3 rfl) rfl ?_
        refine l_on (dj := 57) rfl rfl rfl ?_
        refine l_call rfl rfl fk33 rfl (between_ok w17 p.Latch 0 8) ?_
        rintro _ w19 ⟨rfl, hc19⟩
        have hs19 := hs17.call0 hc19
        refine ⟨_, rfl, ?_⟩
        refine l_r (r_pick_t rfl rfl) rfl ?_
        refine l_r (r_assign rfl) rfl ?_
        refine l_nil ?_
        refine s_again ?_
        exact ⟨(.cons rfl (.cons rfl (.cons rfl (.cons rfl (.cons rfl (.cons rfl (.cons rfl (.cons (congrArg (fun b => some (Value.bool b)) (by simp only [porB, hc16, hc18, Bool.true_and, Bool.false_and, Bool.and_true, Bool.and_false])) .nil)))))))), hs19⟩
      ·
        refine l_off (dj := 57) (b := false) rfl rfl rfl rfl rfl ?_
        refine l_off (dj := 57) (b := false) rfl rfl rfl rfl rfl ?_
        refine l_off (dj := 57) (b := false) rfl rfl rfl rfl rfl ?_
        refine l_r (r_pick_f rfl rfl) rfl ?_
        refine l_r (r_assign rfl) rfl ?_
        refine l_nil ?_
        refine s_again ?_
        exact ⟨(.cons rfl (.cons rfl (.cons rfl (.cons rfl (.cons rfl (.cons rfl (.cons rfl (.cons (congrArg (fun b => some (Value.bool b)) (by simp only [porB, hc16, hc18, Bool.true_and, Bool.false_and, Bool.and_true, Bool.and_false])) .nil)))))))), hs17⟩
    ·
      refine l_off (dj := 51) (b := false) rfl rfl rfl rfl rfl ?_
      refine l_off (dj := 51) (b := false) rfl rfl rfl rfl rfl ?_
      refine l_off (dj := 51) (b := false) rfl rfl rfl rfl rfl ?_
      refine l_off (dj := 51) (b := false) rfl rfl rfl rfl rfl ?_
      refine l_r (r_pick_f rfl rfl) rfl ?_
      refine l_r (r_move rfl) rfl ?_
      refine l_off (dj := 57) (b := false) rfl rfl rfl rfl rfl ?_
      refine l_off (dj := 57) (b := false) rfl rfl rfl rfl rfl ?_
      refine l_off (dj := 57) (b := false) rfl rfl rfl rfl rfl ?_
      refine l_r (r_pick_f rfl rfl) rfl ?_
      refine l_r (r_assign rfl) rfl ?_
      refine l_nil ?_
      refine s_again ?_
      exact ⟨(.cons rfl (.cons rfl (.cons rfl (.cons rfl (.cons rfl (.cons rfl (.cons rfl (.cons (congrArg (fun b => some (Value.bool b)) (by simp only [porB, hc16, Bool.true_and, Bool.false_and, Bool.and_true, Bool.and_false])) .nil)))))))), hs15⟩
  rintro _ w20 ⟨hsub, hs20⟩
  refine s_sub [(1, .pointer (some ⟨b1, 0, none⟩)), (2, .bool false), (5, .func (.func 54) #[] #[]), (6, .func (.func 55) #[] #[]), (7, .func (.func 56) #[] #[]), (8, .bool (ownB p)), (9, .bool (objB p)), (10, .bool (porB p))] hsub ?_
  refine s_seq ?_
  refine s_region ?_
  refine l_r (r_move rfl) rfl ?_
  refine l_r (r_move rfl) rfl ?_
  refine l_part (dj := 63) rfl (fun hc21 => ?_) (fun hc21 => ?_)
  ·
    refine l_on (dj := 63) rfl rfl rfl ?_
    refine l_r (r_move rfl) rfl ?_
    refine l_r (r_pick_t rfl rfl) rfl ?_
    refine l_r (r_move rfl) rfl ?_
    refine l_part (dj := 66) rfl (fun hc22 => ?_) (fun hc22 => ?_)
    ·
      refine l_on (dj := 66) rfl rfl rfl ?_
      refine l_r (r_move rfl) rfl ?_
      refine l_r (r_pick_t rfl rfl) rfl ?_
      refine l_r (r_move rfl) rfl ?_
      refine l_part (dj := 69) rfl (fun hc23 => ?_) (fun hc23 => ?_)
      ·
        refine l_on (dj := 69) rfl rfl rfl ?_
        refine l_r (r_field rfl fo75_10) rfl ?_
        refine l_on (dj := 69) rfl rfl rfl ?_
        refine l_r (r_load1p rfl hs20 Repl.here ag22 rfl) rfl ?_
        refine l_on (dj := 69) rfl rfl rfl ?_
        refine l_r (r_len rfl el22) rfl ?_
        refine l_on (dj := 69) rfl rfl rfl ?_
        refine l_r (r_cmp rfl rfl rfl) rfl ?_
        refine l_r (r_pick_t rfl rfl) rfl ?_
        refine l_r (r_move rfl) rfl ?_
        refine l_part (dj := 75) rfl (fun hc24 => ?_) (fun hc24 => ?_)
        ·
          have hc24p := beq_iff_eq.1 hc24
          refine l_on (dj := 75) rfl rfl rfl ?_
          refine l_r (r_field rfl fo75_10) rfl ?_
          refine l_on (dj := 75) rfl rfl rfl ?_
          refine l_r (r_load1p rfl hs20 Repl.here ag22 rfl) rfl ?_
          refine l_on (dj := 75) rfl rfl rfl ?_
          obtain ⟨e25x, e25h, e25b, e25o, e25cs, e25A, _, e25K, e25c⟩ := hp_10.get_ (i := 0) (by omega)
          obtain rfl : e25cs = [.int .i64 e25x] := e25K
          refine l_r (r_indexA rfl e25A rfl (by omega) (by omega) el22) rfl ?_
          refine l_on (dj := 75) rfl rfl rfl ?_
          refine l_r (r_load1 rfl ag3 ((e25c.on hs20).get (j := 0) rfl)) rfl ?_
          refine l_on (dj := 75) rfl rfl rfl ?_
          refine l_r (r_cmp rfl rfl rfl) rfl ?_
          refine l_r (r_pick_t rfl rfl) rfl ?_
          refine l_r (r_move rfl) rfl ?_
          refine l_part (dj := 82) rfl (fun hc26 => ?_) (fun hc26 => ?_)
          ·
            have hc26p := beq_iff_eq.1 hc26
            refine l_on (dj := 82) rfl rfl rfl ?_
            refine l_r (r_field rfl fo75_10) rfl ?_
            refine l_on (dj := 82) rfl rfl rfl ?_
            refine l_r (r_load1p rfl hs20 Repl.here ag22 rfl) rfl ?_
            refine l_on (dj := 82) rfl rfl rfl ?_
            refine l_r (r_move rfl) rfl ?_
            refine l_on (dj := 82) rfl rfl rfl ?_
            refine l_call rfl rfl fk34 rfl (alp34 w20 (p := actB) (hp_10.onk hs20) fk56 (fun w1 _ => cl56 w1)) ?_
            rintro _ w27 ⟨rfl, hc27⟩
            have hs27 := hs20.call0 hc27
            refine ⟨_, rfl, ?_⟩
            refine l_r (r_pick_t rfl rfl) rfl ?_
            refine l_r (r_assign rfl) rfl ?_
            refine l_nil ?_
            refine s_ret ?_
            exact q_done (.inr rfl) (.tmp rfl .nil) ⟨congrArg Ending.returned (congrArg Value.bool (by simp only [partB, tabB, hc21, hc22, hc23, hc24, hc26, Bool.true_and, Bool.false_and, Bool.and_true, Bool.and_false, e25h, Option.some_beq_some])), hs27.tail⟩
          ·
            have hc26p := beq_eq_false_iff_ne.1 hc26
            refine l_off (dj := 82) (b := false) rfl rfl rfl rfl rfl ?_
            refine l_off (dj := 82) (b := false) rfl rfl rfl rfl rfl ?_
            refine l_off (dj := 82) (b := false) rfl rfl rfl rfl rfl ?_
            refine l_off (dj := 82) (b := false) rfl rfl rfl rfl rfl ?_
            refine l_r (r_pick_f rfl rfl) rfl ?_
            refine l_r (r_assign rfl) rfl ?_
            refine l_nil ?_
            refine s_ret ?_
            exact q_done (.inr rfl) (.tmp rfl .nil) ⟨congrArg Ending.returned (congrArg Value.bool (by simp only [partB, tabB, hc21, hc22, hc23, hc24, hc26, Bool.true_and, Bool.false_and, Bool.and_true, Bool.and_false, e25h, Option.some_beq_some])), hs20.tail⟩
        ·
          have hc24p := beq_eq_false_iff_ne.1 hc24
          refine l_off (dj := 75) (b := false) rfl rfl rfl rfl rfl ?_
          refine l_off (dj := 75) (b := false) rfl rfl rfl rfl rfl ?_
          refine l_off (dj := 75) (b := false) rfl rfl rfl rfl rfl ?_
          refine l_off (dj := 75) (b := false) rfl rfl rfl rfl rfl ?_
          refine l_off (dj := 75) (b := false) rfl rfl rfl rfl rfl ?_
          refine l_r (r_pick_f rfl rfl) rfl ?_
          refine l_r (r_move rfl) rfl ?_
          refine l_off (dj := 82) (b := false) rfl rfl rfl rfl rfl ?_
          refine l_off (dj := 82) (b := false) rfl rfl rfl rfl rfl ?_
          refine l_off (dj := 82) (b := false) rfl rfl rfl rfl rfl ?_
          refine l_off (dj := 82) (b := false) rfl rfl rfl rfl rfl ?_
          refine l_r (r_pick_f rfl rfl) rfl ?_
          refine l_r (r_assign rfl) rfl ?_
          refine l_nil ?_
          refine s_ret ?_
          exact q_done (.inr rfl) (.tmp rfl .nil) ⟨congrArg Ending.returned (congrArg Value.bool (by simp only [partB, tabB, hc21, hc22, hc23, hc24, Bool.true_and, Bool.false_and, Bool.and_true, Bool.and_false])), hs20.tail⟩
      ·
        refine l_off (dj := 69) (b := false) rfl rfl rfl rfl rfl ?_
        refine l_off (dj := 69) (b := false) rfl rfl rfl rfl rfl ?_
        refine l_off (dj := 69) (b := false) rfl rfl rfl rfl rfl ?_
        refine l_off (dj := 69) (b := false) rfl rfl rfl rfl rfl ?_
        refine l_r (r_pick_f rfl rfl) rfl ?_
        refine l_r (r_move rfl) rfl ?_
        refine l_off (dj := 75) (b := false) rfl rfl rfl rfl rfl ?_
        refine l_off (dj := 75) (b := false) rfl rfl rfl rfl rfl ?_
        refine l_off (dj := 75) (b := false) rfl rfl rfl rfl rfl ?_
        refine l_off (dj := 75) (b := false) rfl rfl rfl rfl rfl ?_
        refine l_off (dj := 75) (b := false) rfl rfl rfl rfl rfl ?_
        refine l_r (r_pick_f rfl rfl) rfl ?_
        refine l_r (r_move rfl) rfl ?_
        refine l_off (dj := 82) (b := false) rfl rfl rfl rfl rfl ?_
        refine l_off (dj := 82) (b := false) rfl rfl rfl rfl rfl ?_
        refine l_off (dj := 82) (b := false) rfl rfl rfl rfl rfl ?_
        refine l_off (dj := 82) (b := false) rfl rfl rfl rfl rfl ?_
        refine l_r (r_pick_f rfl rfl) rfl ?_
        refine l_r (r_assign rfl) rfl ?_
        refine l_nil ?_
        refine s_ret ?_
        exact q_done (.inr rfl) (.tmp rfl .nil) ⟨congrArg Ending.returned (congrArg Value.bool (by simp only [partB, tabB, hc21, hc22, hc23, Bool.true_and, Bool.false_and, Bool.and_true, Bool.and_false])), hs20.tail⟩
    ·
      refine l_off (dj := 66) (b := false) rfl rfl rfl rfl rfl ?_
      refine l_r (r_pick_f rfl rfl) rfl ?_
      refine l_r (r_move rfl) rfl ?_
      refine l_off (dj := 69) (b := false) rfl rfl rfl rfl rfl ?_
      refine l_off (dj := 69) (b := false) rfl rfl rfl rfl rfl ?_
      refine l_off (dj := 69) (b := false) rfl rfl rfl rfl rfl ?_
      refine l_off (dj := 69) (b := false) rfl rfl rfl rfl rfl ?_
      refine l_r (r_pick_f rfl rfl) rfl ?_
      refine l_r (r_move rfl) rfl ?_
      refine l_off (dj := 75) (b := false) rfl rfl rfl rfl rfl ?_
      refine l_off (dj := 75) (b := false) rfl rfl rfl rfl rfl ?_
      refine l_off (dj := 75) (b := false) rfl rfl rfl rfl rfl ?_
      refine l_off (dj := 75) (b := false) rfl rfl rfl rfl rfl ?_
      refine l_off (dj := 75) (b := false) rfl rfl rfl rfl rfl ?_
      refine l_r (r_pick_f rfl rfl) rfl ?_
      refine l_r (r_move rfl) rfl ?_
      refine l_off (dj := 82) (b := false) rfl rfl rfl rfl rfl ?_
      refine l_off (dj := 82) (b := false) rfl rfl rfl rfl rfl ?_
      refine l_off (dj := 82) (b := false) rfl rfl rfl rfl rfl ?_
      refine l_off (dj := 82) (b := false) rfl rfl rfl rfl rfl ?_
      refine l_r (r_pick_f rfl rfl) rfl ?_
      refine l_r (r_assign rfl) rfl ?_
      refine l_nil ?_
      refine s_ret ?_
      exact q_done (.inr rfl) (.tmp rfl .nil) ⟨congrArg Ending.returned (congrArg Value.bool (by simp only [partB, tabB, hc21, hc22, Bool.true_and, Bool.false_and, Bool.and_true, Bool.and_false])), hs20.tail⟩
  ·
    refine l_off (dj := 63) (b := false) rfl rfl rfl rfl rfl ?_
    refine l_r (r_pick_f rfl rfl) rfl ?_
    refine l_r (r_move rfl) rfl ?_
    refine l_off (dj := 66) (b := false) rfl rfl rfl rfl rfl ?_
    refine l_r (r_pick_f rfl rfl) rfl ?_
    refine l_r (r_move rfl) rfl ?_
    refine l_off (dj := 69) (b := false) rfl rfl rfl rfl rfl ?_
    refine l_off (dj := 69) (b := false) rfl rfl rfl rfl rfl ?_
    refine l_off (dj := 69) (b := false) rfl rfl rfl rfl rfl ?_
    refine l_off (dj := 69) (b := false) rfl rfl rfl rfl rfl ?_
    refine l_r (r_pick_f rfl rfl) rfl ?_
    refine l_r (r_move rfl) rfl ?_
    refine l_off (dj := 75) (b := false) rfl rfl rfl rfl rfl ?_
    refine l_off (dj := 75) (b := false) rfl rfl rfl rfl rfl ?_
    refine l_off (dj := 75) (b := false) rfl rfl rfl rfl rfl ?_
    refine l_off (dj := 75) (b := false) rfl rfl rfl rfl rfl ?_
    refine l_off (dj := 75) (b := false) rfl rfl rfl rfl rfl ?_
    refine l_r (r_pick_f rfl rfl) rfl ?_
    refine l_r (r_move rfl) rfl ?_
    refine l_off (dj := 82) (b := false) rfl rfl rfl rfl rfl ?_
    refine l_off (dj := 82) (b := false) rfl rfl rfl rfl rfl ?_
    refine l_off (dj := 82) (b := false) rfl rfl rfl rfl rfl ?_
    refine l_off (dj := 82) (b := false) rfl rfl rfl rfl rfl ?_
    refine l_r (r_pick_f rfl rfl) rfl ?_
    refine l_r (r_assign rfl) rfl ?_
    refine l_nil ?_
    refine s_ret ?_
    exact q_done (.inr rfl) (.tmp rfl .nil) ⟨congrArg Ending.returned (congrArg Value.bool (by simp only [partB, tabB, hc21, Bool.true_and, Bool.false_and, Bool.and_true, Bool.and_false])), hs20.tail⟩

end Go.Proofs.Ytfhghnhgcdiknaa
