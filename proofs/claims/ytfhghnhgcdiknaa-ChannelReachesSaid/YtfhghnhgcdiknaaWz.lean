/- The document's Reach, walked. -/
import Derived.Test.YtfhghnhgcdiknaaWy
set_option linter.unusedVariables false
namespace Go.Proofs.Ytfhghnhgcdiknaa
open Go.RowKit
theorem bool_at {bs : List Bool} {i : Nat} {b : Bool} (h : bs[i]? = some b) : (bs.map Value.bool)[0 + i * 1]? = some (.bool b) := by simp [h]
theorem stepR_skip {n : Nat} {bs : List Bool} {x : TChannel} (h : x.From < 0 ∨ (n : Int) ≤ x.From ∨ x.To < 0 ∨ (n : Int) ≤ x.To) : stepR n bs x = bs := by
  unfold stepR
  rw [if_pos h]
theorem stepR_eval {n : Nat} {bs b1 out : List Bool} {x : TChannel} (h : ¬ (x.From < 0 ∨ (n : Int) ≤ x.From ∨ x.To < 0 ∨ (n : Int) ≤ x.To)) (h1 : (if bs[x.To.toNat]? = some true then bs.set x.From.toNat true else bs) = b1) (h2 : (if x.Queuing = true ∧ b1[x.From.toNat]? = some true then b1.set x.To.toNat true else b1) = out) : stepR n bs x = out := by
  unfold stepR
  rw [if_neg h]
  simp only [h1, h2]

set_option maxRecDepth 100000 in
theorem refreach_in {cf : TConfig} {pl : List Value} {part : Int} (w : World) {ok : Nat → Prop} (hKl : Kd.config.K w ok cf pl) (hin : 0 ≤ part ∧ part < (cf.Parts.length : Int)) (hn : cf.Parts.length ≤ 2000000) :
    Calls Try.prog 15 #[.agg pl.toArray, .int .i64 part] w (fun e w' => ∃ b, e = .returned (.slice (some ⟨b, 0, none⟩) cf.Parts.length cf.Parts.length) ∧ St 0 w w' [.pt b ((reachL cf part).map Value.bool) 4]) := by
  refine q_call (n := 89) (args := [.agg pl.toArray, .int .i64 part]) Try.func15 rfl rfl rfl ?_
  have hs0 := St.refl 0 w
  have hKl0 := hKl
  obtain ⟨Al_2, cl_2, Al_3, cl_3, Al_4, cl_4, Al_5, cl_5, rfl, hl_2, hl_3, hl_4, hl_5⟩ := hKl
  have hle2 := hl_2.len
  have hle3 := hl_3.len
  have hle4 := hl_4.len
  have hle5 := hl_5.len
  refine s_seq ?_
  refine s_region ?_
  refine l_box rfl rfl rfl hs0 ?_
  intro w1 b2 hb2 hx1 hs1
  refine l_r (r_assign rfl) rfl ?_
  refine l_nil ?_
  refine s_seq ?_
  refine s_seq ?_
  refine s_region ?_
  refine l_r (r_move rfl) rfl ?_
  refine l_r (r_cmp rfl rfl (b := false) (congrArg some (decide_eq_false (by omega)))) rfl ?_
  refine l_r (r_move rfl) rfl ?_
  refine l_on (dj := 11) rfl rfl rfl ?_
  refine l_r (r_move rfl) rfl ?_
  refine l_on (dj := 11) rfl rfl rfl ?_
  refine l_r (r_field rfl fo27_3) rfl ?_
  refine l_on (dj := 11) rfl rfl rfl ?_
  refine l_r (r_load1p rfl hs1 Repl.here ag23 rfl) rfl ?_
  refine l_on (dj := 11) rfl rfl rfl ?_
  refine l_r (r_len rfl el23) rfl ?_
  refine l_on (dj := 11) rfl rfl rfl ?_
  refine l_r (r_cmp rfl rfl (b := false) (congrArg some (decide_eq_false (by omega)))) rfl ?_
  refine l_r (r_pick_f rfl rfl) rfl ?_
  refine l_nil ?_
  refine s_else rfl ?_
  refine s_skip ?_
  refine s_seq ?_
  refine s_region ?_
  refine l_r (r_field rfl fo27_3) rfl ?_
  refine l_r (r_load1p rfl hs1 Repl.here ag23 rfl) rfl ?_
  refine l_r (r_len rfl el23) rfl ?_
  refine l_make rfl rfl Try.underlying35 rw4 rfl (by omega) (by omega) rfl hs1 ?_
  intro w2 bl hbl hx2 hs2
  rw [show List.replicate cf.Parts.length (Value.bool false) = (List.replicate cf.Parts.length false).map Value.bool from List.map_replicate.symm] at hs2
  refine l_r (r_assign rfl) rfl ?_
  refine l_nil ?_
  refine s_seq ?_
  refine s_region ?_
  refine l_r (r_move rfl) rfl ?_
  refine l_r (r_move rfl) rfl ?_
  refine l_r (r_index rfl rfl (by omega) (by omega) el35) rfl ?_
  refine l_store1s rfl rfl rfl sz4 (Nat.zero_le _) hs2 Repl.here (by rw [List.length_map, List.length_replicate]; omega) ?_
  intro w3 hz3 hk3 hs3
  rw [show ((List.replicate cf.Parts.length false).map Value.bool).set (0 + part.toNat * 1) (.bool true) = ((List.replicate cf.Parts.length false).set part.toNat true).map Value.bool by simp only [Nat.zero_add, Nat.mul_one, List.map_set]] at hs3
  refine l_nil ?_
  refine s_seq ?_
  refine s_seq ?_
  refine s_region ?_
  refine l_r (r_assign rfl) rfl ?_
  refine l_nil ?_
  refine s_block ?_
  refine s_loop (fun m L wl => ∃ (k : Nat), L = [(6, .int .i64 ((k : Nat) : Int)), (2, .pointer (some ⟨b2, 0, none⟩)), (4, .slice none 0 0), (5, .slice (some ⟨bl, 0, none⟩) cf.Parts.length cf.Parts.length)] ∧ m = cf.Parts.length - k ∧ k ≤ cf.Parts.length ∧ St 0 w wl [.pt bl (((iterR_ cf part k)).map Value.bool) 4, .pt b2 [.int .i64 cf.Frame, .int .i64 cf.Switch, .slice Al_2 cf.Lines.length cl_2, .slice Al_3 cf.Parts.length cl_3, .slice Al_4 cf.Windows.length cl_4, .slice Al_5 cf.Channels.length cl_5] 27]) _ [(6, .int .i64 ((0 : Nat) : Int)), (2, .pointer (some ⟨b2, 0, none⟩)), (4, .slice none 0 0), (5, .slice (some ⟨bl, 0, none⟩) cf.Parts.length cf.Parts.length)] (.cons rfl (.cons rfl (.cons rfl (.cons rfl .nil)))) ⟨0, rfl, rfl, Nat.zero_le _, hs3⟩ ?_
  rintro _ _ w4 ⟨k, rfl, rfl, hkk, hs4⟩
  refine s_seq ?_
  refine s_seq ?_
  refine s_region ?_
  refine l_r (r_move rfl) rfl ?_
  refine l_r (r_field rfl fo27_3) rfl ?_
  refine l_r (r_load1p rfl hs4 (Repl.there Repl.here) ag23 rfl) rfl ?_
  refine l_r (r_len rfl el23) rfl ?_
  refine l_r (r_cmp rfl rfl rfl) rfl ?_
  refine l_nil ?_
  refine s_part (dj := 29) rfl (fun hc5 => ?_) (fun hc5 => ?_)
  ·
    have hc5p := of_decide_eq_true hc5
    refine s_then rfl ?_
    refine s_skip ?_
    refine s_seq ?_
    refine s_block ?_
    refine s_seq ?_
    refine s_region ?_
    refine l_r (r_assign rfl) rfl ?_
    refine l_nil ?_
    refine s_block ?_
    refine s_loop (fun m L wl => ∃ (k1 : Nat) (bs : List Bool), L = [(7, .int .i64 ((k1 : Nat) : Int)), (2, .pointer (some ⟨b2, 0, none⟩)), (4, .slice none 0 0), (5, .slice (some ⟨bl, 0, none⟩) cf.Parts.length cf.Parts.length), (6, .int .i64 (((k : Nat) : Int)))] ∧ m = cf.Channels.length - k1 ∧ k1 ≤ cf.Channels.length ∧ bs = (cf.Channels.take k1).foldl (stepR cf.Parts.length) (iterR_ cf part k) ∧ St 0 w wl [.pt bl ((bs).map Value.bool) 4, .pt b2 [.int .i64 cf.Frame, .int .i64 cf.Switch, .slice Al_2 cf.Lines.length cl_2, .slice Al_3 cf.Parts.length cl_3, .slice Al_4 cf.Windows.length cl_4, .slice Al_5 cf.Channels.length cl_5] 27]) _ [(7, .int .i64 ((0 : Nat) : Int)), (2, .pointer (some ⟨b2, 0, none⟩)), (4, .slice none 0 0), (5, .slice (some ⟨bl, 0, none⟩) cf.Parts.length cf.Parts.length), (6, .int .i64 (((k : Nat) : Int)))] (.cons rfl (.cons rfl (.cons rfl (.cons rfl (.cons rfl .nil))))) ⟨0, (iterR_ cf part k), rfl, rfl, Nat.zero_le _, rfl, hs4⟩ ?_
    rintro _ _ w6 ⟨k1, bs, rfl, rfl, hkk1, hbs, hs6⟩
    have hbl2 : bs.length = cf.Parts.length := by rw [hbs, ← (foldR_le _ _ _).1, iterR_len]
    refine s_seq ?_
    refine s_seq ?_
    refine s_region ?_
    refine l_r (r_move rfl) rfl ?_
    refine l_r (r_field rfl fo27_5) rfl ?_
    refine l_r (r_load1p rfl hs6 (Repl.there Repl.here) ag25 rfl) rfl ?_
    refine l_r (r_len rfl el25) rfl ?_
    refine l_r (r_cmp rfl rfl rfl) rfl ?_
    refine l_nil ?_
    refine s_part (dj := 36) rfl (fun hc7 => ?_) (fun hc7 => ?_)
    ·
      have hc7p := of_decide_eq_true hc7
      refine s_then rfl ?_
      refine s_skip ?_
      refine s_seq ?_
      refine s_block ?_
      refine s_seq ?_
      refine s_region ?_
      refine l_r (r_field rfl fo27_5) rfl ?_
      refine l_r (r_load1p rfl hs6 (Repl.there Repl.here) ag25 rfl) rfl ?_
      refine l_r (r_move rfl) rfl ?_
      obtain ⟨e8x, e8h, e8b, e8o, e8cs, e8A, _, e8K, e8c⟩ := hl_5.get_ (i := k1) (by omega)
      obtain rfl : e8cs = [.bool e8x.Queuing, .int .i64 e8x.From, .int .i64 e8x.A, .int .i64 e8x.To, .int .i64 e8x.B] := e8K
      refine l_r (r_indexA rfl e8A rfl (by omega) (by omega) el25) rfl ?_
      refine l_r (r_loadN rfl ag32 (e8c.on hs6) sz32) rfl ?_
      refine l_alloc zz32 rfl hs6 ?_
      intro w9 b8 hb8 hx9 hs9
      refine l_storeAll rfl rfl sz32 (one_all rfl) (Nat.zero_le _) hs9 Repl.here rfl ?_
      intro w10 hz10 hk10 hs10
      refine l_nil ?_
      refine s_seq ?_
      refine s_seq ?_
      refine s_region ?_
      refine l_r (r_field rfl fo32_1) rfl ?_
      refine l_r (r_load1p rfl hs10 Repl.here ag3 rfl) rfl ?_
      refine l_r (r_cmp rfl rfl rfl) rfl ?_
      refine l_r (r_move rfl) rfl ?_
      refine l_part (dj := 47) rfl (fun hc11 => ?_) (fun hc11 => ?_)
      ·
        have hc11p := of_decide_eq_true hc11
        refine l_off (dj := 47) (b := true) rfl rfl rfl rfl rfl ?_
        refine l_off (dj := 47) (b := true) rfl rfl rfl rfl rfl ?_
        refine l_off (dj := 47) (b := true) rfl rfl rfl rfl rfl ?_
        refine l_off (dj := 47) (b := true) rfl rfl rfl rfl rfl ?_
        refine l_off (dj := 47) (b := true) rfl rfl rfl rfl rfl ?_
        refine l_r (r_pick_t rfl rfl) rfl ?_
        refine l_r (r_move rfl) rfl ?_
        refine l_off (dj := 54) (b := true) rfl rfl rfl rfl rfl ?_
        refine l_off (dj := 54) (b := true) rfl rfl rfl rfl rfl ?_
        refine l_off (dj := 54) (b := true) rfl rfl rfl rfl rfl ?_
        refine l_r (r_pick_t rfl rfl) rfl ?_
        refine l_r (r_move rfl) rfl ?_
        refine l_off (dj := 59) (b := true) rfl rfl rfl rfl rfl ?_
        refine l_off (dj := 59) (b := true) rfl rfl rfl rfl rfl ?_
        refine l_off (dj := 59) (b := true) rfl rfl rfl rfl rfl ?_
        refine l_off (dj := 59) (b := true) rfl rfl rfl rfl rfl ?_
        refine l_off (dj := 59) (b := true) rfl rfl rfl rfl rfl ?_
        refine l_r (r_pick_t rfl rfl) rfl ?_
        refine l_nil ?_
        refine s_then rfl ?_
        refine s_exit rfl ?_
        refine s_region ?_
        refine l_r (r_move rfl) rfl ?_
        refine l_r (r_inc rfl (by omega)) rfl ?_
        refine l_r (r_assign rfl) rfl ?_
        refine l_nil ?_
        refine s_again ?_
        exact ⟨_, [(7, .int .i64 (((k1 + 1) : Nat) : Int)), (2, .pointer (some ⟨b2, 0, none⟩)), (4, .slice none 0 0), (5, .slice (some ⟨bl, 0, none⟩) cf.Parts.length cf.Parts.length), (6, .int .i64 (((k : Nat) : Int)))], by omega, (.cons rfl (.cons rfl (.cons rfl (.cons rfl (.cons rfl .nil))))), ⟨(k1 + 1), bs, rfl, rfl, by omega, (by rw [foldR_take e8h, ← hbs, stepR_skip (by omega)]), hs10.tail⟩⟩
      ·
        have hc11p := of_decide_eq_false hc11
        refine l_on (dj := 47) rfl rfl rfl ?_
        refine l_r (r_field rfl fo32_1) rfl ?_
        refine l_on (dj := 47) rfl rfl rfl ?_
        refine l_r (r_load1p rfl hs10 Repl.here ag3 rfl) rfl ?_
        refine l_on (dj := 47) rfl rfl rfl ?_
        refine l_r (r_move rfl) rfl ?_
        refine l_on (dj := 47) rfl rfl rfl ?_
        refine l_r (r_len rfl el35) rfl ?_
        refine l_on (dj := 47) rfl rfl rfl ?_
        refine l_r (r_cmp rfl rfl rfl) rfl ?_
        refine l_r (r_pick_f rfl rfl) rfl ?_
        refine l_r (r_move rfl) rfl ?_
        refine l_part (dj := 54) rfl (fun hc12 => ?_) (fun hc12 => ?_)
        ·
          have hc12p := of_decide_eq_true hc12
          refine l_off (dj := 54) (b := true) rfl rfl rfl rfl rfl ?_
          refine l_off (dj := 54) (b := true) rfl rfl rfl rfl rfl ?_
          refine l_off (dj := 54) (b := true) rfl rfl rfl rfl rfl ?_
          refine l_r (r_pick_t rfl rfl) rfl ?_
          refine l_r (r_move rfl) rfl ?_
          refine l_off (dj := 59) (b := true) rfl rfl rfl rfl rfl ?_
          refine l_off (dj := 59) (b := true) rfl rfl rfl rfl rfl ?_
          refine l_off (dj := 59) (b := true) rfl rfl rfl rfl rfl ?_
          refine l_off (dj := 59) (b := true) rfl rfl rfl rfl rfl ?_
          refine l_off (dj := 59) (b := true) rfl rfl rfl rfl rfl ?_
          refine l_r (r_pick_t rfl rfl) rfl ?_
          refine l_nil ?_
          refine s_then rfl ?_
          refine s_exit rfl ?_
          refine s_region ?_
          refine l_r (r_move rfl) rfl ?_
          refine l_r (r_inc rfl (by omega)) rfl ?_
          refine l_r (r_assign rfl) rfl ?_
          refine l_nil ?_
          refine s_again ?_
          exact ⟨_, [(7, .int .i64 (((k1 + 1) : Nat) : Int)), (2, .pointer (some ⟨b2, 0, none⟩)), (4, .slice none 0 0), (5, .slice (some ⟨bl, 0, none⟩) cf.Parts.length cf.Parts.length), (6, .int .i64 (((k : Nat) : Int)))], by omega, (.cons rfl (.cons rfl (.cons rfl (.cons rfl (.cons rfl .nil))))), ⟨(k1 + 1), bs, rfl, rfl, by omega, (by rw [foldR_take e8h, ← hbs, stepR_skip (by omega)]), hs10.tail⟩⟩
        ·
          have hc12p := of_decide_eq_false hc12
          refine l_on (dj := 54) rfl rfl rfl ?_
          refine l_r (r_field rfl fo32_3) rfl ?_
          refine l_on (dj := 54) rfl rfl rfl ?_
          refine l_r (r_load1p rfl hs10 Repl.here ag3 rfl) rfl ?_
          refine l_on (dj := 54) rfl rfl rfl ?_
          refine l_r (r_cmp rfl rfl rfl) rfl ?_
          refine l_r (r_pick_f rfl rfl) rfl ?_
          refine l_r (r_move rfl) rfl ?_
          refine l_part (dj := 59) rfl (fun hc13 => ?_) (fun hc13 => ?_)
          ·
            have hc13p := of_decide_eq_true hc13
            refine l_off (dj := 59) (b := true) rfl rfl rfl rfl rfl ?_
            refine l_off (dj := 59) (b := true) rfl rfl rfl rfl rfl ?_
            refine l_off (dj := 59) (b := true) rfl rfl rfl rfl rfl ?_
            refine l_off (dj := 59) (b := true) rfl rfl rfl rfl rfl ?_
            refine l_off (dj := 59) (b := true) rfl rfl rfl rfl rfl ?_
            refine l_r (r_pick_t rfl rfl) rfl ?_
            refine l_nil ?_
            refine s_then rfl ?_
            refine s_exit rfl ?_
            refine s_region ?_
            refine l_r (r_move rfl) rfl ?_
            refine l_r (r_inc rfl (by omega)) rfl ?_
            refine l_r (r_assign rfl) rfl ?_
            refine l_nil ?_
            refine s_again ?_
            exact ⟨_, [(7, .int .i64 (((k1 + 1) : Nat) : Int)), (2, .pointer (some ⟨b2, 0, none⟩)), (4, .slice none 0 0), (5, .slice (some ⟨bl, 0, none⟩) cf.Parts.length cf.Parts.length), (6, .int .i64 (((k : Nat) : Int)))], by omega, (.cons rfl (.cons rfl (.cons rfl (.cons rfl (.cons rfl .nil))))), ⟨(k1 + 1), bs, rfl, rfl, by omega, (by rw [foldR_take e8h, ← hbs, stepR_skip (by omega)]), hs10.tail⟩⟩
          ·
            have hc13p := of_decide_eq_false hc13
            refine l_on (dj := 59) rfl rfl rfl ?_
            refine l_r (r_field rfl fo32_3) rfl ?_
            refine l_on (dj := 59) rfl rfl rfl ?_
            refine l_r (r_load1p rfl hs10 Repl.here ag3 rfl) rfl ?_
            refine l_on (dj := 59) rfl rfl rfl ?_
            refine l_r (r_move rfl) rfl ?_
            refine l_on (dj := 59) rfl rfl rfl ?_
            refine l_r (r_len rfl el35) rfl ?_
            refine l_on (dj := 59) rfl rfl rfl ?_
            refine l_r (r_cmp rfl rfl rfl) rfl ?_
            refine l_r (r_pick_f rfl rfl) rfl ?_
            refine l_nil ?_
            refine s_part (dj := 65) rfl (fun hc14 => ?_) (fun hc14 => ?_)
            ·
              have hc14p := of_decide_eq_true hc14
              refine s_then rfl ?_
              refine s_exit rfl ?_
              refine s_region ?_
              refine l_r (r_move rfl) rfl ?_
              refine l_r (r_inc rfl (by omega)) rfl ?_
              refine l_r (r_assign rfl) rfl ?_
              refine l_nil ?_
              refine s_again ?_
              exact ⟨_, [(7, .int .i64 (((k1 + 1) : Nat) : Int)), (2, .pointer (some ⟨b2, 0, none⟩)), (4, .slice none 0 0), (5, .slice (some ⟨bl, 0, none⟩) cf.Parts.length cf.Parts.length), (6, .int .i64 (((k : Nat) : Int)))], by omega, (.cons rfl (.cons rfl (.cons rfl (.cons rfl (.cons rfl .nil))))), ⟨(k1 + 1), bs, rfl, rfl, by omega, (by rw [foldR_take e8h, ← hbs, stepR_skip (by omega)]), hs10.tail⟩⟩
            ·
              have hc14p := of_decide_eq_false hc14
              refine s_else rfl ?_
              refine s_skip ?_
              refine s_seq ?_
              refine s_seq ?_
              refine s_region ?_
              refine l_r (r_move rfl) rfl ?_
              refine l_r (r_field rfl fo32_3) rfl ?_
              refine l_r (r_load1p rfl hs10 Repl.here ag3 rfl) rfl ?_
              refine l_r (r_index rfl rfl (by omega) (by omega) el35) rfl ?_
              obtain ⟨bT, hbT⟩ : ∃ b, (bs)[e8x.To.toNat]? = some b := ⟨_, List.getElem?_eq_getElem (by omega)⟩
              refine l_r (r_load1 rfl ag4 (heap_cell (hs10.get (r := .pt bl _ _) (List.mem_cons_of_mem _ List.mem_cons_self)) (bool_at hbT))) rfl ?_
              refine l_nil ?_
              refine s_part (dj := 70) rfl (fun hT => ?_) (fun hT => ?_)
              ·
                subst hT
                refine s_then rfl ?_
                refine s_region ?_
                refine l_r (r_move rfl) rfl ?_
                refine l_r (r_field rfl fo32_1) rfl ?_
                refine l_r (r_load1p rfl hs10 Repl.here ag3 rfl) rfl ?_
                refine l_r (r_index rfl rfl (by omega) (by omega) el35) rfl ?_
                refine l_store1s rfl rfl rfl sz4 (Nat.zero_le _) hs10 (Repl.there Repl.here) (by rw [List.length_map]; omega) ?_
                intro w16 hz16 hk16 hs16
                rw [show (bs.map Value.bool).set (0 + e8x.From.toNat * 1) (.bool true) = (bs.set e8x.From.toNat true).map Value.bool by simp only [Nat.zero_add, Nat.mul_one, List.map_set]] at hs16
                refine l_nil ?_
                refine s_seq ?_
                refine s_region ?_
                refine l_r (r_field rfl fo32_0) rfl ?_
                refine l_r (r_load1p rfl hs16 Repl.here ag4 rfl) rfl ?_
                refine l_r (r_move rfl) rfl ?_
                refine l_part (dj := 77) rfl (fun hc17 => ?_) (fun hc17 => ?_)
                ·
                  refine l_on (dj := 77) rfl rfl rfl ?_
                  refine l_r (r_move rfl) rfl ?_
                  refine l_on (dj := 77) rfl rfl rfl ?_
                  refine l_r (r_field rfl fo32_1) rfl ?_
                  refine l_on (dj := 77) rfl rfl rfl ?_
                  refine l_r (r_load1p rfl hs16 Repl.here ag3 rfl) rfl ?_
                  refine l_on (dj := 77) rfl rfl rfl ?_
                  refine l_r (r_index rfl rfl (by omega) (by omega) el35) rfl ?_
                  refine l_on (dj := 77) rfl rfl rfl ?_
                  obtain ⟨bF, hbF⟩ : ∃ b, ((bs.set e8x.From.toNat true))[e8x.From.toNat]? = some b := ⟨_, List.getElem?_eq_getElem (by rw [List.length_set]; omega)⟩
                  refine l_r (r_load1 rfl ag4 (heap_cell (hs16.get (r := .pt bl _ _) (List.mem_cons_of_mem _ List.mem_cons_self)) (bool_at hbF))) rfl ?_
                  refine l_r (r_pick_t rfl rfl) rfl ?_
                  refine l_nil ?_
                  refine s_part (dj := 83) rfl (fun hF => ?_) (fun hF => ?_)
                  ·
                    subst hF
                    refine s_then rfl ?_
                    refine s_region ?_
                    refine l_r (r_move rfl) rfl ?_
                    refine l_r (r_field rfl fo32_3) rfl ?_
                    refine l_r (r_load1p rfl hs16 Repl.here ag3 rfl) rfl ?_
                    refine l_r (r_index rfl rfl (by omega) (by omega) el35) rfl ?_
                    refine l_store1s rfl rfl rfl sz4 (Nat.zero_le _) hs16 (Repl.there Repl.here) (by rw [List.length_map, List.length_set]; omega) ?_
                    intro w19 hz19 hk19 hs19
                    rw [show ((bs.set e8x.From.toNat true).map Value.bool).set (0 + e8x.To.toNat * 1) (.bool true) = ((bs.set e8x.From.toNat true).set e8x.To.toNat true).map Value.bool by simp only [Nat.zero_add, Nat.mul_one, List.map_set]] at hs19
                    refine l_nil ?_
                    refine s_mark ?_
                    refine s_region ?_
                    refine l_r (r_move rfl) rfl ?_
                    refine l_r (r_inc rfl (by omega)) rfl ?_
                    refine l_r (r_assign rfl) rfl ?_
                    refine l_nil ?_
                    refine s_again ?_
                    exact ⟨_, [(7, .int .i64 (((k1 + 1) : Nat) : Int)), (2, .pointer (some ⟨b2, 0, none⟩)), (4, .slice none 0 0), (5, .slice (some ⟨bl, 0, none⟩) cf.Parts.length cf.Parts.length), (6, .int .i64 (((k : Nat) : Int)))], by omega, (.cons rfl (.cons rfl (.cons rfl (.cons rfl (.cons rfl .nil))))), ⟨(k1 + 1), ((bs.set e8x.From.toNat true).set e8x.To.toNat true), rfl, rfl, by omega, (by rw [foldR_take e8h, ← hbs]; exact (stepR_eval (by omega) (if_pos hbT) (if_pos ⟨hc17, hbF⟩)).symm), hs19.tail⟩⟩
                  ·
                    subst hF
                    refine s_else rfl ?_
                    refine s_skip ?_
                    refine s_mark ?_
                    refine s_region ?_
                    refine l_r (r_move rfl) rfl ?_
                    refine l_r (r_inc rfl (by omega)) rfl ?_
                    refine l_r (r_assign rfl) rfl ?_
                    refine l_nil ?_
                    refine s_again ?_
                    exact ⟨_, [(7, .int .i64 (((k1 + 1) : Nat) : Int)), (2, .pointer (some ⟨b2, 0, none⟩)), (4, .slice none 0 0), (5, .slice (some ⟨bl, 0, none⟩) cf.Parts.length cf.Parts.length), (6, .int .i64 (((k : Nat) : Int)))], by omega, (.cons rfl (.cons rfl (.cons rfl (.cons rfl (.cons rfl .nil))))), ⟨(k1 + 1), (bs.set e8x.From.toNat true), rfl, rfl, by omega, (by rw [foldR_take e8h, ← hbs]; exact (stepR_eval (by omega) (if_pos hbT) (if_neg (fun h => by rw [hbF] at h; simp at h))).symm), hs16.tail⟩⟩
                ·
                  refine l_off (dj := 77) (b := false) rfl rfl rfl rfl rfl ?_
                  refine l_off (dj := 77) (b := false) rfl rfl rfl rfl rfl ?_
                  refine l_off (dj := 77) (b := false) rfl rfl rfl rfl rfl ?_
                  refine l_off (dj := 77) (b := false) rfl rfl rfl rfl rfl ?_
                  refine l_off (dj := 77) (b := false) rfl rfl rfl rfl rfl ?_
                  refine l_r (r_pick_f rfl rfl) rfl ?_
                  refine l_nil ?_
                  refine s_else rfl ?_
                  refine s_skip ?_
                  refine s_mark ?_
                  refine s_region ?_
                  refine l_r (r_move rfl) rfl ?_
                  refine l_r (r_inc rfl (by omega)) rfl ?_
                  refine l_r (r_assign rfl) rfl ?_
                  refine l_nil ?_
                  refine s_again ?_
                  exact ⟨_, [(7, .int .i64 (((k1 + 1) : Nat) : Int)), (2, .pointer (some ⟨b2, 0, none⟩)), (4, .slice none 0 0), (5, .slice (some ⟨bl, 0, none⟩) cf.Parts.length cf.Parts.length), (6, .int .i64 (((k : Nat) : Int)))], by omega, (.cons rfl (.cons rfl (.cons rfl (.cons rfl (.cons rfl .nil))))), ⟨(k1 + 1), (bs.set e8x.From.toNat true), rfl, rfl, by omega, (by rw [foldR_take e8h, ← hbs]; exact (stepR_eval (by omega) (if_pos hbT) (if_neg (fun h => by rw [hc17] at h; cases h.1))).symm), hs16.tail⟩⟩
              ·
                subst hT
                refine s_else rfl ?_
                refine s_skip ?_
                refine s_seq ?_
                refine s_region ?_
                refine l_r (r_field rfl fo32_0) rfl ?_
                refine l_r (r_load1p rfl hs10 Repl.here ag4 rfl) rfl ?_
                refine l_r (r_move rfl) rfl ?_
                refine l_part (dj := 77) rfl (fun hc20 => ?_) (fun hc20 => ?_)
                ·
                  refine l_on (dj := 77) rfl rfl rfl ?_
                  refine l_r (r_move rfl) rfl ?_
                  refine l_on (dj := 77) rfl rfl rfl ?_
                  refine l_r (r_field rfl fo32_1) rfl ?_
                  refine l_on (dj := 77) rfl rfl rfl ?_
                  refine l_r (r_load1p rfl hs10 Repl.here ag3 rfl) rfl ?_
                  refine l_on (dj := 77) rfl rfl rfl ?_
                  refine l_r (r_index rfl rfl (by omega) (by omega) el35) rfl ?_
                  refine l_on (dj := 77) rfl rfl rfl ?_
                  obtain ⟨bF, hbF⟩ : ∃ b, (bs)[e8x.From.toNat]? = some b := ⟨_, List.getElem?_eq_getElem (by omega)⟩
                  refine l_r (r_load1 rfl ag4 (heap_cell (hs10.get (r := .pt bl _ _) (List.mem_cons_of_mem _ List.mem_cons_self)) (bool_at hbF))) rfl ?_
                  refine l_r (r_pick_t rfl rfl) rfl ?_
                  refine l_nil ?_
                  refine s_part (dj := 83) rfl (fun hF => ?_) (fun hF => ?_)
                  ·
                    subst hF
                    refine s_then rfl ?_
                    refine s_region ?_
                    refine l_r (r_move rfl) rfl ?_
                    refine l_r (r_field rfl fo32_3) rfl ?_
                    refine l_r (r_load1p rfl hs10 Repl.here ag3 rfl) rfl ?_
                    refine l_r (r_index rfl rfl (by omega) (by omega) el35) rfl ?_
                    refine l_store1s rfl rfl rfl sz4 (Nat.zero_le _) hs10 (Repl.there Repl.here) (by rw [List.length_map]; omega) ?_
                    intro w22 hz22 hk22 hs22
                    rw [show (bs.map Value.bool).set (0 + e8x.To.toNat * 1) (.bool true) = (bs.set e8x.To.toNat true).map Value.bool by simp only [Nat.zero_add, Nat.mul_one, List.map_set]] at hs22
                    refine l_nil ?_
                    refine s_mark ?_
                    refine s_region ?_
                    refine l_r (r_move rfl) rfl ?_
                    refine l_r (r_inc rfl (by omega)) rfl ?_
                    refine l_r (r_assign rfl) rfl ?_
                    refine l_nil ?_
                    refine s_again ?_
                    exact ⟨_, [(7, .int .i64 (((k1 + 1) : Nat) : Int)), (2, .pointer (some ⟨b2, 0, none⟩)), (4, .slice none 0 0), (5, .slice (some ⟨bl, 0, none⟩) cf.Parts.length cf.Parts.length), (6, .int .i64 (((k : Nat) : Int)))], by omega, (.cons rfl (.cons rfl (.cons rfl (.cons rfl (.cons rfl .nil))))), ⟨(k1 + 1), (bs.set e8x.To.toNat true), rfl, rfl, by omega, (by rw [foldR_take e8h, ← hbs]; exact (stepR_eval (by omega) (if_neg (by rw [hbT]; simp)) (if_pos ⟨hc20, hbF⟩)).symm), hs22.tail⟩⟩
                  ·
                    subst hF
                    refine s_else rfl ?_
                    refine s_skip ?_
                    refine s_mark ?_
                    refine s_region ?_
                    refine l_r (r_move rfl) rfl ?_
                    refine l_r (r_inc rfl (by omega)) rfl ?_
                    refine l_r (r_assign rfl) rfl ?_
                    refine l_nil ?_
                    refine s_again ?_
                    exact ⟨_, [(7, .int .i64 (((k1 + 1) : Nat) : Int)), (2, .pointer (some ⟨b2, 0, none⟩)), (4, .slice none 0 0), (5, .slice (some ⟨bl, 0, none⟩) cf.Parts.length cf.Parts.length), (6, .int .i64 (((k : Nat) : Int)))], by omega, (.cons rfl (.cons rfl (.cons rfl (.cons rfl (.cons rfl .nil))))), ⟨(k1 + 1), bs, rfl, rfl, by omega, (by rw [foldR_take e8h, ← hbs]; exact (stepR_eval (by omega) (if_neg (by rw [hbT]; simp)) (if_neg (fun h => by rw [hbF] at h; simp at h))).symm), hs10.tail⟩⟩
                ·
                  refine l_off (dj := 77) (b := false) rfl rfl rfl rfl rfl ?_
                  refine l_off (dj := 77) (b := false) rfl rfl rfl rfl rfl ?_
                  refine l_off (dj := 77) (b := false) rfl rfl rfl rfl rfl ?_
                  refine l_off (dj := 77) (b := false) rfl rfl rfl rfl rfl ?_
                  refine l_off (dj := 77) (b := false) rfl rfl rfl rfl rfl ?_
                  refine l_r (r_pick_f rfl rfl) rfl ?_
                  refine l_nil ?_
                  refine s_else rfl ?_
                  refine s_skip ?_
                  refine s_mark ?_
                  refine s_region ?_
                  refine l_r (r_move rfl) rfl ?_
                  refine l_r (r_inc rfl (by omega)) rfl ?_
                  refine l_r (r_assign rfl) rfl ?_
                  refine l_nil ?_
                  refine s_again ?_
                  exact ⟨_, [(7, .int .i64 (((k1 + 1) : Nat) : Int)), (2, .pointer (some ⟨b2, 0, none⟩)), (4, .slice none 0 0), (5, .slice (some ⟨bl, 0, none⟩) cf.Parts.length cf.Parts.length), (6, .int .i64 (((k : Nat) : Int)))], by omega, (.cons rfl (.cons rfl (.cons rfl (.cons rfl (.cons rfl .nil))))), ⟨(k1 + 1), bs, rfl, rfl, by omega, (by rw [foldR_take e8h, ← hbs]; exact (stepR_eval (by omega) (if_neg (by rw [hbT]; simp)) (if_neg (fun h => by rw [hc20] at h; cases h.1))).symm), hs10.tail⟩⟩
    ·
      have hc7p := of_decide_eq_false hc7
      refine s_else rfl ?_
      refine s_exit rfl ?_
      refine s_mark ?_
      obtain rfl : k1 = cf.Channels.length := by omega
      rw [List.take_length] at hbs
      subst hbs
      refine s_region ?_
      refine l_r (r_move rfl) rfl ?_
      refine l_r (r_inc rfl (by omega)) rfl ?_
      refine l_r (r_assign rfl) rfl ?_
      refine l_nil ?_
      refine s_again ?_
      exact ⟨_, [(6, .int .i64 (((k + 1) : Nat) : Int)), (2, .pointer (some ⟨b2, 0, none⟩)), (4, .slice none 0 0), (5, .slice (some ⟨bl, 0, none⟩) cf.Parts.length cf.Parts.length)], by omega, (.cons rfl (.cons rfl (.cons rfl (.cons rfl .nil)))), ⟨(k + 1), rfl, rfl, by omega, hs6⟩⟩
  ·
    have hc5p := of_decide_eq_false hc5
    refine s_else rfl ?_
    refine s_exit rfl ?_
    refine s_seq ?_
    refine s_region ?_
    refine l_r (r_move rfl) rfl ?_
    refine l_r (r_assign rfl) rfl ?_
    refine l_nil ?_
    refine s_ret ?_
    obtain rfl : k = cf.Parts.length := by omega
    rw [iterR_reach hin] at hs4
    exact q_done (.inr rfl) (.tmp rfl .nil) ⟨bl, rfl, hs4.one⟩

set_option maxRecDepth 100000 in
theorem refreach_out {cf : TConfig} {pl : List Value} {part : Int} (w : World) {ok : Nat → Prop} (hKl : Kd.config.K w ok cf pl) (hin : ¬ (0 ≤ part ∧ part < (cf.Parts.length : Int))) :
    Calls Try.prog 15 #[.agg pl.toArray, .int .i64 part] w (fun e w' => e = .returned (.slice none 0 0) ∧ St 0 w w' []) := by
  refine q_call (n := 89) (args := [.agg pl.toArray, .int .i64 part]) Try.func15 rfl rfl rfl ?_
  have hs0 := St.refl 0 w
  have hKl0 := hKl
  obtain ⟨Al_2, cl_2, Al_3, cl_3, Al_4, cl_4, Al_5, cl_5, rfl, hl_2, hl_3, hl_4, hl_5⟩ := hKl
  have hle2 := hl_2.len
  have hle3 := hl_3.len
  have hle4 := hl_4.len
  have hle5 := hl_5.len
  refine s_seq ?_
  refine s_region ?_
  refine l_box rfl rfl rfl hs0 ?_
  intro w1 b2 hb2 hx1 hs1
  refine l_r (r_assign rfl) rfl ?_
  refine l_nil ?_
  refine s_seq ?_
  refine s_seq ?_
  refine s_region ?_
  refine l_r (r_move rfl) rfl ?_
  refine l_r (r_cmp rfl rfl rfl) rfl ?_
  refine l_r (r_move rfl) rfl ?_
  refine l_part (dj := 11) rfl (fun hc2 => ?_) (fun hc2 => ?_)
  ·
    have hc2p := of_decide_eq_true hc2
    refine l_off (dj := 11) (b := true) rfl rfl rfl rfl rfl ?_
    refine l_off (dj := 11) (b := true) rfl rfl rfl rfl rfl ?_
    refine l_off (dj := 11) (b := true) rfl rfl rfl rfl rfl ?_
    refine l_off (dj := 11) (b := true) rfl rfl rfl rfl rfl ?_
    refine l_off (dj := 11) (b := true) rfl rfl rfl rfl rfl ?_
    refine l_r (r_pick_t rfl rfl) rfl ?_
    refine l_nil ?_
    refine s_then rfl ?_
    refine s_seq ?_
    refine s_region ?_
    refine l_r (r_assign rfl) rfl ?_
    refine l_nil ?_
    refine s_ret ?_
    exact q_done (.inr rfl) (.tmp rfl .nil) ⟨rfl, hs1.nil⟩
  ·
    have hc2p := of_decide_eq_false hc2
    refine l_on (dj := 11) rfl rfl rfl ?_
    refine l_r (r_move rfl) rfl ?_
    refine l_on (dj := 11) rfl rfl rfl ?_
    refine l_r (r_field rfl fo27_3) rfl ?_
    refine l_on (dj := 11) rfl rfl rfl ?_
    refine l_r (r_load1p rfl hs1 Repl.here ag23 rfl) rfl ?_
    refine l_on (dj := 11) rfl rfl rfl ?_
    refine l_r (r_len rfl el23) rfl ?_
    refine l_on (dj := 11) rfl rfl rfl ?_
    refine l_r (r_cmp rfl rfl rfl) rfl ?_
    refine l_r (r_pick_f rfl rfl) rfl ?_
    refine l_nil ?_
    refine s_part (dj := 17) rfl (fun hc3 => ?_) (fun hc3 => ?_)
    ·
      have hc3p := of_decide_eq_true hc3
      refine s_then rfl ?_
      refine s_seq ?_
      refine s_region ?_
      refine l_r (r_assign rfl) rfl ?_
      refine l_nil ?_
      refine s_ret ?_
      exact q_done (.inr rfl) (.tmp rfl .nil) ⟨rfl, hs1.nil⟩
    ·
      have hc3p := of_decide_eq_false hc3
      exact absurd ⟨by omega, by omega⟩ hin

end Go.Proofs.Ytfhghnhgcdiknaa
