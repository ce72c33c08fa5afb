/- Whether a channel may be. -/
import Derived.Test.YtfhghnhgcdiknaaWzn
set_option linter.unusedVariables false
set_option linter.unusedSimpArgs false
namespace Go.Proofs.Ytfhghnhgcdiknaa
open Go.RowKit
def hasL {α : Type} [DecidableEq α] (M : List (α × Nat)) (x : α) : Bool := decide (x ∈ M.map (·.1))
abbrev PSet := List (TPort × Nat) × Nat
def addP (L : PSet) (x : TPort) : PSet := (addL L.1 L.2 x, addC L.1 L.2 x)
def chanB (c : TConfig) (L : PSet) (x : TChannel) : Bool := thereB c (x.Queuing, x.From, x.A) && (thereB c (x.Queuing, x.To, x.B) && ((x.From != x.To) && ((!(hasL L.1 (x.Queuing, x.From, x.A))) && (!(hasL L.1 (x.Queuing, x.To, x.B))))))
def chanStep (c : TConfig) (L : PSet) (x : TChannel) : Option PSet := if chanB c L x then some (addP (addP L (x.Queuing, x.From, x.A)) (x.Queuing, x.To, x.B)) else none
def channelsB (c : TConfig) : Bool := decide ((c.Channels.length : Int) ≤ 8) && (foldS (chanStep c) ([], 0) c.Channels).isSome

set_option maxRecDepth 100000 in
theorem chan_ok {cf : TConfig} {Al_2 Al_3 Al_4 Al_5 : Option Addr} {cl_2 cl_3 cl_4 cl_5 : Nat} {w0 w : World} {H : List Res} {bc bm m : Nat} {ok : Nat → Prop} {L : PSet} {x : TChannel} {cs : List Value} (hcb : Cells w0 bc 0 [.int .i64 cf.Frame, .int .i64 cf.Switch, .slice Al_2 cf.Lines.length cl_2, .slice Al_3 cf.Parts.length cl_3, .slice Al_4 cf.Windows.length cl_4, .slice Al_5 cf.Channels.length cl_5]) (hKb : Kd.config.K w0 (fun _ => True) cf [.int .i64 cf.Frame, .int .i64 cf.Switch, .slice Al_2 cf.Lines.length cl_2, .slice Al_3 cf.Parts.length cl_3, .slice Al_4 cf.Windows.length cl_4, .slice Al_5 cf.Channels.length cl_5]) (hK : Kd.channel.K w0 ok x cs) (hs0 : St 0 w0 w (.pt bm [.map (some m)] 130 :: mapR kvP m L.1 L.2 :: H)) :
    Calls Try.prog 65 #[mkA cs, .pointer (some ⟨bc, 0, none⟩), .pointer (some ⟨bm, 0, none⟩)] w (fun e w' => (∃ s', e = .returned (.bool true) ∧ chanStep cf L x = some s' ∧ St 0 w0 w' (.pt bm [.map (some m)] 130 :: mapR kvP m s'.1 s'.2 :: H)) ∨ (e = .returned (.bool false) ∧ chanStep cf L x = none ∧ St 0 w0 w' H)) := by
  refine q_call (n := 54) (args := [mkA cs, .pointer (some ⟨bc, 0, none⟩), .pointer (some ⟨bm, 0, none⟩)]) Try.func65 rfl rfl rfl ?_
  have hs0 := hs0
  obtain rfl : cs = [.bool x.Queuing, .int .i64 x.From, .int .i64 x.A, .int .i64 x.To, .int .i64 x.B] := hK
  refine s_seq ?_
  refine s_region ?_
  refine l_box rfl rfl rfl hs0 ?_
  intro w1 b3 hb3 hx1 hs1
  refine l_r (r_assign rfl) rfl ?_
  refine l_nil ?_
  refine s_seq ?_
  have hcx : Cells w1 b3 0 [.bool x.Queuing, .int .i64 x.From, .int .i64 x.A, .int .i64 x.To, .int .i64 x.B] := heap_all (hs1.get (r := .pt b3 _ _) List.mem_cons_self)
  have hsr := St.refl 0 w1
  refine s_any (by kernel_rfl) (fun w' => Ext w1 w') (fun L' w' => ∃ (b5 b6 : Nat), Sub [(5, .pointer (some ⟨b5, 0, none⟩)), (6, .pointer (some ⟨b6, 0, none⟩)), (1, .pointer (some ⟨bc, 0 + 0, none⟩)), (2, .pointer (some ⟨bm, 0, none⟩)), (3, .pointer (some ⟨b3, 0, none⟩)), (4, .bool false)] L' ∧ St 0 w1 w' [.pt b5 [.bool x.Queuing, .int .i64 x.From, .int .i64 x.A] 133, .pt b6 [.bool x.Queuing, .int .i64 x.To, .int .i64 x.B] 133]) ?_ ?_
  ·
    intro w2 hx2 hh2
    have hs2 := hsr.ext hx2
    refine wa_take 0 rfl (by kernel_rfl) (fun w' hw' => r_field rfl fo32_0) (hs2.toExt) rfl ?_
    refine wa_take 1 rfl (by kernel_rfl) (fun w' hw' => r_load1 rfl ag4 ((hcx.on ((St.refl 0 w1).ext hw')).get (j := 0) rfl)) (hs2.toExt) rfl ?_
    refine wa_take 2 rfl (by kernel_rfl) (fun w' hw' => r_field rfl fo32_1) (hs2.toExt) rfl ?_
    refine wa_take 3 rfl (by kernel_rfl) (fun w' hw' => r_load1 rfl ag3 ((hcx.on ((St.refl 0 w1).ext hw')).get (j := 1) rfl)) (hs2.toExt) rfl ?_
    refine wa_take 4 rfl (by kernel_rfl) (fun w' hw' => r_field rfl fo32_2) (hs2.toExt) rfl ?_
    refine wa_take 5 rfl (by kernel_rfl) (fun w' hw' => r_load1 rfl ag3 ((hcx.on ((St.refl 0 w1).ext hw')).get (j := 2) rfl)) (hs2.toExt) rfl ?_
    refine wa_take 6 rfl (by kernel_rfl) (fun w' hw' => r_build (v := .agg ([.bool x.Queuing, .int .i64 x.From, .int .i64 x.A] : List Value).toArray) rfl (by kernel_rfl)) (hs2.toExt) rfl ?_
    refine wa_take 7 rfl (by kernel_rfl) (fun w' hw' => r_field rfl fo32_0) (hs2.toExt) rfl ?_
    refine wa_take 8 rfl (by kernel_rfl) (fun w' hw' => r_load1 rfl ag4 ((hcx.on ((St.refl 0 w1).ext hw')).get (j := 0) rfl)) (hs2.toExt) rfl ?_
    refine wa_take 9 rfl (by kernel_rfl) (fun w' hw' => r_field rfl fo32_3) (hs2.toExt) rfl ?_
    refine wa_take 10 rfl (by kernel_rfl) (fun w' hw' => r_load1 rfl ag3 ((hcx.on ((St.refl 0 w1).ext hw')).get (j := 3) rfl)) (hs2.toExt) rfl ?_
    refine wa_take 11 rfl (by kernel_rfl) (fun w' hw' => r_field rfl fo32_4) (hs2.toExt) rfl ?_
    refine wa_take 12 rfl (by kernel_rfl) (fun w' hw' => r_load1 rfl ag3 ((hcx.on ((St.refl 0 w1).ext hw')).get (j := 4) rfl)) (hs2.toExt) rfl ?_
    refine wa_take 13 rfl (by kernel_rfl) (fun w' hw' => r_build (v := .agg ([.bool x.Queuing, .int .i64 x.To, .int .i64 x.B] : List Value).toArray) rfl (by kernel_rfl)) (hs2.toExt) rfl ?_
    refine wa_one [14, 15] (by kernel_rfl) rfl ?_
    intro i hi
    simp only [List.mem_cons, List.not_mem_nil, or_false] at hi
    rcases hi with rfl | rfl
    ·
      refine ⟨_, rfl, ?_⟩
      refine l_alloc zz133 rfl hs2 ?_
      intro w3 b5 hb5 hx3 hs3
      refine l_nil ⟨hs3.toExt, ?_⟩
      refine wa_one [15] (by kernel_rfl) rfl ?_
      intro i hi
      simp only [List.mem_cons, List.not_mem_nil, or_false] at hi
      subst hi
      refine ⟨_, rfl, ?_⟩
      refine l_alloc zz133 rfl hs3 ?_
      intro w4 b6 hb6 hx4 hs4
      refine l_nil ⟨hs4.toExt, ?_⟩
      refine wa_one [16] (by kernel_rfl) rfl ?_
      intro i hi
      simp only [List.mem_cons, List.not_mem_nil, or_false] at hi
      subst hi
      refine ⟨_, rfl, ?_⟩
      refine l_storeAll rfl rfl sz133 (one_all rfl) (Nat.zero_le _) hs4 (Repl.there Repl.here) rfl ?_
      intro w5 hz5 hk5 hs5
      refine l_nil ⟨hs5.toExt, ?_⟩
      refine wa_one [17] (by kernel_rfl) rfl ?_
      intro i hi
      simp only [List.mem_cons, List.not_mem_nil, or_false] at hi
      subst hi
      refine ⟨_, rfl, ?_⟩
      refine l_storeAll rfl rfl sz133 (one_all rfl) (Nat.zero_le _) hs5 Repl.here rfl ?_
      intro w6 hz6 hk6 hs6
      refine l_nil ⟨hs6.toExt, ?_⟩
      exact wa_done (by kernel_rfl) ⟨_, _, (.cons rfl (.cons rfl (.cons rfl (.cons rfl (.cons rfl (.cons rfl .nil)))))), (hs6.toFront 1 rfl)⟩
    ·
      refine ⟨_, rfl, ?_⟩
      refine l_alloc zz133 rfl hs2 ?_
      intro w7 b6 hb6 hx7 hs7
      refine l_nil ⟨hs7.toExt, ?_⟩
      refine wa_one [14] (by kernel_rfl) rfl ?_
      intro i hi
      simp only [List.mem_cons, List.not_mem_nil, or_false] at hi
      subst hi
      refine ⟨_, rfl, ?_⟩
      refine l_alloc zz133 rfl hs7 ?_
      intro w8 b5 hb5 hx8 hs8
      refine l_nil ⟨hs8.toExt, ?_⟩
      refine wa_one [16] (by kernel_rfl) rfl ?_
      intro i hi
      simp only [List.mem_cons, List.not_mem_nil, or_false] at hi
      subst hi
      refine ⟨_, rfl, ?_⟩
      refine l_storeAll rfl rfl sz133 (one_all rfl) (Nat.zero_le _) hs8 Repl.here rfl ?_
      intro w9 hz9 hk9 hs9
      refine l_nil ⟨hs9.toExt, ?_⟩
      refine wa_one [17] (by kernel_rfl) rfl ?_
      intro i hi
      simp only [List.mem_cons, List.not_mem_nil, or_false] at hi
      subst hi
      refine ⟨_, rfl, ?_⟩
      refine l_storeAll rfl rfl sz133 (one_all rfl) (Nat.zero_le _) hs9 (Repl.there Repl.here) rfl ?_
      intro w10 hz10 hk10 hs10
      refine l_nil ⟨hs10.toExt, ?_⟩
      exact wa_done (by kernel_rfl) ⟨_, _, (.cons rfl (.cons rfl (.cons rfl (.cons rfl (.cons rfl (.cons rfl .nil)))))), ((hs10.toFront 1 rfl).toFront 1 rfl)⟩
  rintro _ w11 ⟨b5, b6, hsub, hr11⟩
  refine s_sub [(5, .pointer (some ⟨b5, 0, none⟩)), (6, .pointer (some ⟨b6, 0, none⟩)), (1, .pointer (some ⟨bc, 0 + 0, none⟩)), (2, .pointer (some ⟨bm, 0, none⟩)), (3, .pointer (some ⟨b3, 0, none⟩)), (4, .bool false)] hsub ?_
  have hs11 := hs1.call hr11
  refine s_seq ?_
  refine s_cut (fun L' w' => Sub [(1, .pointer (some ⟨bc, 0 + 0, none⟩)), (2, .pointer (some ⟨bm, 0, none⟩)), (3, .pointer (some ⟨b3, 0, none⟩)), (4, .bool false), (5, .pointer (some ⟨b5, 0, none⟩)), (6, .pointer (some ⟨b6, 0, none⟩)), (7, .bool (chanB cf L x))] L' ∧ St 0 w0 w' (.pt b5 [.bool x.Queuing, .int .i64 x.From, .int .i64 x.A] 133 :: .pt b6 [.bool x.Queuing, .int .i64 x.To, .int .i64 x.B] 133 :: .pt b3 [.bool x.Queuing, .int .i64 x.From, .int .i64 x.A, .int .i64 x.To, .int .i64 x.B] 32 :: .pt bm [.map (some m)] 130 :: mapR kvP m L.1 L.2 :: H)) ?_ ?_
  ·
    refine s_region ?_
    refine l_r (r_loadN rfl ag27 (hcb.on hs11) sz27) rfl ?_
    refine l_r (r_loadNp rfl hs11 Repl.here ag133 sz133) rfl ?_
    refine l_call rfl rfl fk66 rfl (there_ok w11 (Kd.config.on hKb hs11) (x.Queuing, x.From, x.A)) ?_
    rintro _ w12 ⟨rfl, hc12⟩
    have hs12 := hs11.call0 hc12
    refine ⟨_, rfl, ?_⟩
    refine l_r (r_move rfl) rfl ?_
    refine l_part (dj := 25) rfl (fun hc13 => ?_) (fun hc13 => ?_)
    ·
      refine l_on (dj := 25) rfl rfl rfl ?_
      refine l_r (r_loadN rfl ag27 (hcb.on hs12) sz27) rfl ?_
      refine l_on (dj := 25) rfl rfl rfl ?_
      refine l_r (r_loadNp rfl hs12 (Repl.there Repl.here) ag133 sz133) rfl ?_
      refine l_on (dj := 25) rfl rfl rfl ?_
      refine l_call rfl rfl fk66 rfl (there_ok w12 (Kd.config.on hKb hs12) (x.Queuing, x.To, x.B)) ?_
      rintro _ w14 ⟨rfl, hc14⟩
      have hs14 := hs12.call0 hc14
      refine ⟨_, rfl, ?_⟩
      refine l_r (r_pick_t rfl rfl) rfl ?_
      refine l_r (r_move rfl) rfl ?_
      refine l_part (dj := 30) rfl (fun hc15 => ?_) (fun hc15 => ?_)
      ·
        refine l_on (dj := 30) rfl rfl rfl ?_
        refine l_r (r_field rfl fo32_1) rfl ?_
        refine l_on (dj := 30) rfl rfl rfl ?_
        refine l_r (r_load1p rfl hs14 (Repl.there (Repl.there Repl.here)) ag3 rfl) rfl ?_
        refine l_on (dj := 30) rfl rfl rfl ?_
        refine l_r (r_field rfl fo32_3) rfl ?_
        refine l_on (dj := 30) rfl rfl rfl ?_
        refine l_r (r_load1p rfl hs14 (Repl.there (Repl.there Repl.here)) ag3 rfl) rfl ?_
        refine l_on (dj := 30) rfl rfl rfl ?_
        refine l_r (r_cmp rfl rfl rfl) rfl ?_
        refine l_r (r_pick_t rfl rfl) rfl ?_
        refine l_r (r_move rfl) rfl ?_
        refine l_part (dj := 37) rfl (fun hc16 => ?_) (fun hc16 => ?_)
        ·
          have hc16p := bne_iff_ne.1 hc16
          refine l_on (dj := 37) rfl rfl rfl ?_
          refine l_r (r_load1p rfl hs14 (Repl.there (Repl.there (Repl.there Repl.here))) ag130 rfl) rfl ?_
          refine l_on (dj := 37) rfl rfl rfl ?_
          refine l_r (r_loadNp rfl hs14 Repl.here ag133 sz133) rfl ?_
          refine l_on (dj := 37) rfl rfl rfl ?_
          refine l_r (show Runs _ _ _ _ (.bool (hasL L.1 ((x.Queuing, x.From, x.A) : TPort))) _ from r_look (a := ((x.Queuing, x.From, x.A) : TPort)) rfl rfl key_port Try.underlying130 zz4 (by kernel_rfl) hs14 (Repl.there (Repl.there (Repl.there (Repl.there Repl.here))))) rfl ?_
          refine l_on (dj := 37) rfl rfl rfl ?_
          refine l_r (r_not rfl) rfl ?_
          refine l_r (r_pick_t rfl rfl) rfl ?_
          refine l_r (r_move rfl) rfl ?_
          refine l_part (dj := 43) rfl (fun hc17 => ?_) (fun hc17 => ?_)
          ·
            have hc17n := Bool.not_eq_true' _ |>.mp hc17
            refine l_on (dj := 43) rfl rfl rfl ?_
            refine l_r (r_load1p rfl hs14 (Repl.there (Repl.there (Repl.there Repl.here))) ag130 rfl) rfl ?_
            refine l_on (dj := 43) rfl rfl rfl ?_
            refine l_r (r_loadNp rfl hs14 (Repl.there Repl.here) ag133 sz133) rfl ?_
            refine l_on (dj := 43) rfl rfl rfl ?_
            refine l_r (show Runs _ _ _ _ (.bool (hasL L.1 ((x.Queuing, x.To, x.B) : TPort))) _ from r_look (a := ((x.Queuing, x.To, x.B) : TPort)) rfl rfl key_port Try.underlying130 zz4 (by kernel_rfl) hs14 (Repl.there (Repl.there (Repl.there (Repl.there Repl.here))))) rfl ?_
            refine l_on (dj := 43) rfl rfl rfl ?_
            refine l_r (r_not rfl) rfl ?_
            refine l_r (r_pick_t rfl rfl) rfl ?_
            refine l_r (r_assign rfl) rfl ?_
            refine l_nil ?_
            refine s_again ?_
            exact ⟨(.cons rfl (.cons rfl (.cons rfl (.cons rfl (.cons rfl (.cons rfl (.cons (congrArg (fun b => some (Value.bool b)) (by simp only [chanB, hc13, hc15, hc16, hc17, hc17n, Bool.not_true, Bool.not_false, Bool.true_and, Bool.false_and, Bool.and_true, Bool.and_false])) .nil))))))), hs14⟩
          ·
            have hc17n := Bool.not_eq_false' _ |>.mp hc17
            refine l_off (dj := 43) (b := false) rfl rfl rfl rfl rfl ?_
            refine l_off (dj := 43) (b := false) rfl rfl rfl rfl rfl ?_
            refine l_off (dj := 43) (b := false) rfl rfl rfl rfl rfl ?_
            refine l_off (dj := 43) (b := false) rfl rfl rfl rfl rfl ?_
            refine l_r (r_pick_f rfl rfl) rfl ?_
            refine l_r (r_assign rfl) rfl ?_
            refine l_nil ?_
            refine s_again ?_
            exact ⟨(.cons rfl (.cons rfl (.cons rfl (.cons rfl (.cons rfl (.cons rfl (.cons (congrArg (fun b => some (Value.bool b)) (by simp only [chanB, hc13, hc15, hc16, hc17, hc17n, Bool.not_true, Bool.not_false, Bool.true_and, Bool.false_and, Bool.and_true, Bool.and_false])) .nil))))))), hs14⟩
        ·
          have hc16p := bne_eq_false_iff_eq.1 hc16
          refine l_off (dj := 37) (b := false) rfl rfl rfl rfl rfl ?_
          refine l_off (dj := 37) (b := false) rfl rfl rfl rfl rfl ?_
          refine l_off (dj := 37) (b := false) rfl rfl rfl rfl rfl ?_
          refine l_off (dj := 37) (b := false) rfl rfl rfl rfl rfl ?_
          refine l_r (r_pick_f rfl rfl) rfl ?_
          refine l_r (r_move rfl) rfl ?_
          refine l_off (dj := 43) (b := false) rfl rfl rfl rfl rfl ?_
          refine l_off (dj := 43) (b := false) rfl rfl rfl rfl rfl ?_
          refine l_off (dj := 43) (b := false) rfl rfl rfl rfl rfl ?_
          refine l_off (dj := 43) (b := false) rfl rfl rfl rfl rfl ?_
          refine l_r (r_pick_f rfl rfl) rfl ?_
          refine l_r (r_assign rfl) rfl ?_
          refine l_nil ?_
          refine s_again ?_
          exact ⟨(.cons rfl (.cons rfl (.cons rfl (.cons rfl (.cons rfl (.cons rfl (.cons (congrArg (fun b => some (Value.bool b)) (by simp only [chanB, hc13, hc15, hc16, Bool.not_true, Bool.not_false, Bool.true_and, Bool.false_and, Bool.and_true, Bool.and_false])) .nil))))))), hs14⟩
      ·
        refine l_off (dj := 30) (b := false) rfl rfl rfl rfl rfl ?_
        refine l_off (dj := 30) (b := false) rfl rfl rfl rfl rfl ?_
        refine l_off (dj := 30) (b := false) rfl rfl rfl rfl rfl ?_
        refine l_off (dj := 30) (b := false) rfl rfl rfl rfl rfl ?_
        refine l_off (dj := 30) (b := false) rfl rfl rfl rfl rfl ?_
        refine l_r (r_pick_f rfl rfl) rfl ?_
        refine l_r (r_move rfl) rfl ?_
        refine l_off (dj := 37) (b := false) rfl rfl rfl rfl rfl ?_
        refine l_off (dj := 37) (b := false) rfl rfl rfl rfl rfl ?_
        refine l_off (dj := 37) (b := false) rfl rfl rfl rfl rfl ?_
        refine l_off (dj := 37) (b := false) rfl rfl rfl rfl rfl ?_
        refine l_r (r_pick_f rfl rfl) rfl ?_
        refine l_r (r_move rfl) rfl ?_
        refine l_off (dj := 43) (b := false) rfl rfl rfl rfl rfl ?_
        refine l_off (dj := 43) (b := false) rfl rfl rfl rfl rfl ?_
        refine l_off (dj := 43) (b := false) rfl rfl rfl rfl rfl ?_
        refine l_off (dj := 43) (b := false) rfl rfl rfl rfl rfl ?_
        refine l_r (r_pick_f rfl rfl) rfl ?_
        refine l_r (r_assign rfl) rfl ?_
        refine l_nil ?_
        refine s_again ?_
        exact ⟨(.cons rfl (.cons rfl (.cons rfl (.cons rfl (.cons rfl (.cons rfl (.cons (congrArg (fun b => some (Value.bool b)) (by simp only [chanB, hc13, hc15, Bool.not_true, Bool.not_false, Bool.true_and, Bool.false_and, Bool.and_true, Bool.and_false])) .nil))))))), hs14⟩
    ·
      refine l_off (dj := 25) (b := false) rfl rfl rfl rfl rfl ?_
      refine l_off (dj := 25) (b := false) rfl rfl rfl rfl rfl ?_
      refine l_off (dj := 25) (b := false) rfl rfl rfl rfl rfl ?_
      refine l_r (r_pick_f rfl rfl) rfl ?_
      refine l_r (r_move rfl) rfl ?_
      refine l_off (dj := 30) (b := false) rfl rfl rfl rfl rfl ?_
      refine l_off (dj := 30) (b := false) rfl rfl rfl rfl rfl ?_
      refine l_off (dj := 30) (b := false) rfl rfl rfl rfl rfl ?_
      refine l_off (dj := 30) (b := false) rfl rfl rfl rfl rfl ?_
      refine l_off (dj := 30) (b := false) rfl rfl rfl rfl rfl ?_
      refine l_r (r_pick_f rfl rfl) rfl ?_
      refine l_r (r_move rfl) rfl ?_
      refine l_off (dj := 37) (b := false) rfl rfl rfl rfl rfl ?_
      refine l_off (dj := 37) (b := false) rfl rfl rfl rfl rfl ?_
      refine l_off (dj := 37) (b := false) rfl rfl rfl rfl rfl ?_
      refine l_off (dj := 37) (b := false) rfl rfl rfl rfl rfl ?_
      refine l_r (r_pick_f rfl rfl) rfl ?_
      refine l_r (r_move rfl) rfl ?_
      refine l_off (dj := 43) (b := false) rfl rfl rfl rfl rfl ?_
      refine l_off (dj := 43) (b := false) rfl rfl rfl rfl rfl ?_
      refine l_off (dj := 43) (b := false) rfl rfl rfl rfl rfl ?_
      refine l_off (dj := 43) (b := false) rfl rfl rfl rfl rfl ?_
      refine l_r (r_pick_f rfl rfl) rfl ?_
      refine l_r (r_assign rfl) rfl ?_
      refine l_nil ?_
      refine s_again ?_
      exact ⟨(.cons rfl (.cons rfl (.cons rfl (.cons rfl (.cons rfl (.cons rfl (.cons (congrArg (fun b => some (Value.bool b)) (by simp only [chanB, hc13, Bool.not_true, Bool.not_false, Bool.true_and, Bool.false_and, Bool.and_true, Bool.and_false])) .nil))))))), hs12⟩
  rintro _ w18 ⟨hsub, hs18⟩
  refine s_sub [(1, .pointer (some ⟨bc, 0 + 0, none⟩)), (2, .pointer (some ⟨bm, 0, none⟩)), (3, .pointer (some ⟨b3, 0, none⟩)), (4, .bool false), (5, .pointer (some ⟨b5, 0, none⟩)), (6, .pointer (some ⟨b6, 0, none⟩)), (7, .bool (chanB cf L x))] hsub ?_
  refine s_seq ?_
  refine s_any (by kernel_rfl) (fun w' => w'.heap[bm]? = some (.cells ([.map (some m)] : List Value).toArray 130 (0, 0)) ∧ w'.heap[b5]? = some (.cells ([.bool x.Queuing, .int .i64 x.From, .int .i64 x.A] : List Value).toArray 133 (0, 0)) ∧ w'.heap[b6]? = some (.cells ([.bool x.Queuing, .int .i64 x.To, .int .i64 x.B] : List Value).toArray 133 (0, 0))) (fun L' w' => Sub [(7, .bool (chanB cf L x)), (4, .bool false)] L' ∧ St 0 w0 w' (.pt b5 [.bool x.Queuing, .int .i64 x.From, .int .i64 x.A] 133 :: .pt b6 [.bool x.Queuing, .int .i64 x.To, .int .i64 x.B] 133 :: .pt b3 [.bool x.Queuing, .int .i64 x.From, .int .i64 x.A, .int .i64 x.To, .int .i64 x.B] 32 :: .pt bm [.map (some m)] 130 :: mapR kvP m (addP (addP L (x.Queuing, x.From, x.A)) (x.Queuing, x.To, x.B)).1 (addP (addP L (x.Queuing, x.From, x.A)) (x.Queuing, x.To, x.B)).2 :: H)) ?_ ?_
  ·
    intro w19 hx19 hh19
    have hs19 := hs18.ext hx19
    refine wa_take 0 rfl (by kernel_rfl) (fun w' hw' => r_load1 rfl ag130 ((heap_cells hw'.1 0).get (j := 0) rfl)) (⟨hs19.get (r := .pt bm _ _) (List.mem_cons_of_mem _ (List.mem_cons_of_mem _ (List.mem_cons_of_mem _ List.mem_cons_self))), hs19.get (r := .pt b5 _ _) List.mem_cons_self, hs19.get (r := .pt b6 _ _) (List.mem_cons_of_mem _ List.mem_cons_self)⟩) rfl ?_
    refine wa_take 1 rfl (by kernel_rfl) (fun w' hw' => r_loadN rfl ag133 (heap_cells hw'.2.1 0) sz133) (⟨hs19.get (r := .pt bm _ _) (List.mem_cons_of_mem _ (List.mem_cons_of_mem _ (List.mem_cons_of_mem _ List.mem_cons_self))), hs19.get (r := .pt b5 _ _) List.mem_cons_self, hs19.get (r := .pt b6 _ _) (List.mem_cons_of_mem _ List.mem_cons_self)⟩) rfl ?_
    refine wa_take 2 rfl (by kernel_rfl) (fun w' hw' => r_load1 rfl ag130 ((heap_cells hw'.1 0).get (j := 0) rfl)) (⟨hs19.get (r := .pt bm _ _) (List.mem_cons_of_mem _ (List.mem_cons_of_mem _ (List.mem_cons_of_mem _ List.mem_cons_self))), hs19.get (r := .pt b5 _ _) List.mem_cons_self, hs19.get (r := .pt b6 _ _) (List.mem_cons_of_mem _ List.mem_cons_self)⟩) rfl ?_
    refine wa_take 3 rfl (by kernel_rfl) (fun w' hw' => r_loadN rfl ag133 (heap_cells hw'.2.2 0) sz133) (⟨hs19.get (r := .pt bm _ _) (List.mem_cons_of_mem _ (List.mem_cons_of_mem _ (List.mem_cons_of_mem _ List.mem_cons_self))), hs19.get (r := .pt b5 _ _) List.mem_cons_self, hs19.get (r := .pt b6 _ _) (List.mem_cons_of_mem _ List.mem_cons_self)⟩) rfl ?_
    refine wa_one [4] (by kernel_rfl) rfl ?_
    intro i hi
    simp only [List.mem_cons, List.not_mem_nil, or_false] at hi
    subst hi
    refine ⟨_, rfl, ?_⟩
    refine l_put (a := ((x.Queuing, x.From, x.A) : TPort)) (M := L.1) (clock := L.2) rfl rfl rfl key_port Try.underlying130 (Nat.zero_le _) hs19 (Repl.there (Repl.there (Repl.there (Repl.there Repl.here)))) ?_
    intro w20 hz20 hs20
    refine l_nil ⟨⟨hs20.get (r := .pt bm _ _) (List.mem_cons_of_mem _ (List.mem_cons_of_mem _ (List.mem_cons_of_mem _ List.mem_cons_self))), hs20.get (r := .pt b5 _ _) List.mem_cons_self, hs20.get (r := .pt b6 _ _) (List.mem_cons_of_mem _ List.mem_cons_self)⟩, ?_⟩
    refine wa_one [5] (by kernel_rfl) rfl ?_
    intro i hi
    simp only [List.mem_cons, List.not_mem_nil, or_false] at hi
    subst hi
    refine ⟨_, rfl, ?_⟩
    refine l_put (a := ((x.Queuing, x.To, x.B) : TPort)) (M := (addP L (x.Queuing, x.From, x.A)).1) (clock := (addP L (x.Queuing, x.From, x.A)).2) rfl rfl rfl key_port Try.underlying130 (Nat.zero_le _) hs20 (Repl.there (Repl.there (Repl.there (Repl.there Repl.here)))) ?_
    intro w21 hz21 hs21
    refine l_nil ⟨⟨hs21.get (r := .pt bm _ _) (List.mem_cons_of_mem _ (List.mem_cons_of_mem _ (List.mem_cons_of_mem _ List.mem_cons_self))), hs21.get (r := .pt b5 _ _) List.mem_cons_self, hs21.get (r := .pt b6 _ _) (List.mem_cons_of_mem _ List.mem_cons_self)⟩, ?_⟩
    exact wa_done (by kernel_rfl) ⟨(.cons rfl (.cons rfl .nil)), hs21⟩
  rintro _ w22 ⟨hsub, hs22⟩
  refine s_sub [(7, .bool (chanB cf L x)), (4, .bool false)] hsub ?_
  refine s_seq ?_
  refine s_region ?_
  refine l_r (r_move rfl) rfl ?_
  refine l_r (r_assign rfl) rfl ?_
  refine l_nil ?_
  refine s_ret ?_
  refine q_done (.inr rfl) (.tmp rfl .nil) ?_
  by_cases hok : chanB cf L x = true
  · exact .inl ⟨_, by rw [hok]; rfl, by rw [chanStep, if_pos hok], hs22.tail.tail.tail⟩
  · exact .inr ⟨by rw [eq_false_of_ne_true hok]; rfl, by rw [chanStep, if_neg hok], hs22.tail.tail.tail.tail.tail⟩

end Go.Proofs.Ytfhghnhgcdiknaa
