/- Messages from one queue to another. -/
import Derived.Test.YtfhghnhgcdiknaaWe
import Derived.Test.YtfhghnhgcdiknaaMore2
set_option linter.unusedVariables false
namespace Go.Proofs.Ytfhghnhgcdiknaa
open Go.RowKit
set_option maxRecDepth 100000 in
theorem move80 {a b : TQueue} {pa pb : List Value} (w : World) {ok ok2 : Nat → Prop} (hKa : Kd.queue.K w ok a pa) (hKb : Kd.queue.K w ok2 b pb) (hba : a.Values.length ≤ 100000000) (hbb : b.Values.length ≤ 100000000) :
    Calls Try.prog 80 #[.agg pa.toArray, .agg pb.toArray] w (fun e w' => ∃ (ca cb : List Value) (F : Nat → Prop), e = .returned (.tuple #[.agg ca.toArray, .agg cb.toArray]) ∧ St 0 w w' [.ro F (fun w' => Kd.queue.K w' F { a with Values := (moveQ a.Values b.Values b.Depth).1 } ca ∧ Kd.queue.K w' F { b with Values := (moveQ a.Values b.Values b.Depth).2 } cb)]) := by
  refine q_call (n := 37) (args := [.agg pa.toArray, .agg pb.toArray]) Try.func80 rfl rfl rfl ?_
  obtain ⟨A1, d1, rfl, hl1⟩ := hKa
  obtain ⟨B1, f1, rfl, hm1⟩ := hKb
  have hs0 := St.refl 0 w
  refine s_seq ?_
  refine s_region ?_
  refine l_box rfl rfl rfl hs0 ?_
  intro w1 b2 hb2 hx1 hs1
  refine l_box rfl rfl rfl hs1 ?_
  intro w2 b3 hb3 hx2 hs2
  refine l_alloc zz52 rfl hs2 ?_
  intro w3 b4 hb4 hx3 hs3
  refine l_alloc zz52 rfl hs3 ?_
  intro w4 b5 hb5 hx4 hs4
  refine l_nil ?_
  refine s_scope2 0 rfl (fun m L wl => ∃ (fs ts : List Int) (Af Dt : Option Addr) (cf ct e : Nat) (F : Nat → Prop) (cr : List Value), L = [(2, .pointer (some ⟨b2, 0, none⟩)), (3, .pointer (some ⟨b3, 0, none⟩)), (4, .pointer (some ⟨b4, 0, none⟩)), (5, .pointer (some ⟨b5, 0, none⟩))] ∧ m = fs.length ∧ moveQ fs ts b.Depth = moveQ a.Values b.Values b.Depth ∧ fs.length + ts.length = a.Values.length + b.Values.length ∧ (ct = e ∨ ct = ts.length) ∧ Reps Kd.int w (fun _ => True) ts cr ∧ St 0 w wl [.row 0 3 1 (.slice Dt ts.length e) ts.length cr, .ro F (fun w' => Sl Kd.int w' F Af cf fs), .pt b5 [.int .i64 0, .slice none 0 0, .int .i64 0] 52, .pt b4 [.int .i64 0, .slice none 0 0, .int .i64 0] 52, .pt b3 [.int .i64 b.Depth, .slice Dt ts.length ct, .int .i64 b.Lost] 52, .pt b2 [.int .i64 a.Depth, .slice Af fs.length cf, .int .i64 a.Lost] 52]) ?_ ?_
  ·
    rintro J _ _ w5 ⟨fs, ts, Af, Dt, cf, ct, e, F, cr, rfl, rfl, hmv, hlen, hct, hRt, hs5⟩ hJ
    refine s_seq ?_
    refine s_seq ?_
    refine s_region ?_
    refine l_r (r_field rfl fo52_1) rfl ?_
    refine l_r (r_load1p rfl hs5 (Repl.there (Repl.there (Repl.there (Repl.there (Repl.there Repl.here))))) ag22 rfl) rfl ?_
    refine l_r (r_len rfl el22) rfl ?_
    by_cases hc6 : (fs.length : Int) > 0
    ·
      refine l_r (r_cmp rfl rfl (b := true) (congrArg some (decide_eq_true hc6))) rfl ?_
      obtain ⟨f, fs, rfl⟩ := List.exists_cons_of_length_pos (show 0 < fs.length by omega)
      obtain ⟨bf, of_, rfl, _⟩ := (hs5.get (r := .ro F _) (List.mem_cons_of_mem _ List.mem_cons_self)).some_ (by simp)
      refine l_r (r_move rfl) rfl ?_
      refine l_on (dj := 14) rfl rfl rfl ?_
      refine l_r (r_field rfl fo52_1) rfl ?_
      refine l_on (dj := 14) rfl rfl rfl ?_
      refine l_r (r_load1p rfl hs5 (Repl.there (Repl.there (Repl.there (Repl.there Repl.here)))) ag22 rfl) rfl ?_
      refine l_on (dj := 14) rfl rfl rfl ?_
      refine l_r (r_len rfl el22) rfl ?_
      refine l_on (dj := 14) rfl rfl rfl ?_
      refine l_r (r_field rfl fo52_0) rfl ?_
      refine l_on (dj := 14) rfl rfl rfl ?_
      refine l_r (r_load1p rfl hs5 (Repl.there (Repl.there (Repl.there (Repl.there Repl.here)))) ag3 rfl) rfl ?_
      refine l_on (dj := 14) rfl rfl rfl ?_
      by_cases hc7 : (ts.length : Int) < b.Depth
      ·
        refine l_r (r_cmp rfl rfl (b := true) (congrArg some (decide_eq_true hc7))) rfl ?_
        refine l_r (r_pick_t rfl rfl) rfl ?_
        refine l_nil ?_
        refine s_then rfl ?_
        refine s_seq ?_
        refine s_any (by kernel_rfl) (fun w' => w'.cell? ⟨b2, 0 + 1, none⟩ = some (.slice (some ⟨bf, of_, none⟩) (f :: fs).length cf) ∧ w'.cell? ⟨bf, of_ + Int.toNat 0 * 1, none⟩ = some (.int .i64 f)) (fun L' w' => ∃ (D2 : Option Addr) (c2 : Nat), Sub [(2, .pointer (some ⟨b2, 0, none⟩)), (3, .pointer (some ⟨b3, 0, none⟩)), (4, .pointer (some ⟨b4, 0, none⟩)), (5, .pointer (some ⟨b5, 0, none⟩))] L' ∧ St 0 w w' [.row 0 3 1 (.slice D2 (ts.length + 1) c2) (ts.length + 1) (cr ++ [.int .i64 f]), .ro F (fun w' => Sl Kd.int w' F (some ⟨bf, of_, none⟩) cf (f :: fs)), .pt b5 [.int .i64 0, .slice none 0 0, .int .i64 0] 52, .pt b4 [.int .i64 0, .slice none 0 0, .int .i64 0] 52, .pt b3 [.int .i64 b.Depth, .slice D2 (ts.length + 1) c2, .int .i64 b.Lost] 52, .pt b2 [.int .i64 a.Depth, .slice (some ⟨bf, of_, none⟩) (f :: fs).length cf, .int .i64 a.Lost] 52]) ?_ ?_
        ·
          intro w8 hx8 hh8
          have hs8 := hs5.ext hx8
          refine wa_take 0 rfl (by kernel_rfl) (fun w' hw' => r_field rfl fo52_1) (⟨heap_cell (hs8.get (r := .pt b2 _ _) (List.mem_cons_of_mem _ (List.mem_cons_of_mem _ (List.mem_cons_of_mem _ (List.mem_cons_of_mem _ (List.mem_cons_of_mem _ List.mem_cons_self)))))) rfl, sl_head (hs8.get (r := .ro F (fun w' => Sl Kd.int w' F (some ⟨bf, of_, none⟩) cf (f :: fs))) (List.mem_cons_of_mem _ List.mem_cons_self))⟩) rfl ?_
          refine wa_take 2 rfl (by kernel_rfl) (fun w' hw' => r_field rfl fo52_1) (⟨heap_cell (hs8.get (r := .pt b2 _ _) (List.mem_cons_of_mem _ (List.mem_cons_of_mem _ (List.mem_cons_of_mem _ (List.mem_cons_of_mem _ (List.mem_cons_of_mem _ List.mem_cons_self)))))) rfl, sl_head (hs8.get (r := .ro F (fun w' => Sl Kd.int w' F (some ⟨bf, of_, none⟩) cf (f :: fs))) (List.mem_cons_of_mem _ List.mem_cons_self))⟩) rfl ?_
          refine wa_take 3 rfl (by kernel_rfl) (fun w' hw' => r_load1 rfl ag22 hw'.1) (⟨heap_cell (hs8.get (r := .pt b2 _ _) (List.mem_cons_of_mem _ (List.mem_cons_of_mem _ (List.mem_cons_of_mem _ (List.mem_cons_of_mem _ (List.mem_cons_of_mem _ List.mem_cons_self)))))) rfl, sl_head (hs8.get (r := .ro F (fun w' => Sl Kd.int w' F (some ⟨bf, of_, none⟩) cf (f :: fs))) (List.mem_cons_of_mem _ List.mem_cons_self))⟩) rfl ?_
          refine wa_take 4 rfl (by kernel_rfl) (fun w' hw' => r_index rfl rfl (by decide) (by simp only [List.length_cons]; omega) el22) (⟨heap_cell (hs8.get (r := .pt b2 _ _) (List.mem_cons_of_mem _ (List.mem_cons_of_mem _ (List.mem_cons_of_mem _ (List.mem_cons_of_mem _ (List.mem_cons_of_mem _ List.mem_cons_self)))))) rfl, sl_head (hs8.get (r := .ro F (fun w' => Sl Kd.int w' F (some ⟨bf, of_, none⟩) cf (f :: fs))) (List.mem_cons_of_mem _ List.mem_cons_self))⟩) rfl ?_
          refine wa_take 5 rfl (by kernel_rfl) (fun w' hw' => r_load1 rfl ag3 hw'.2) (⟨heap_cell (hs8.get (r := .pt b2 _ _) (List.mem_cons_of_mem _ (List.mem_cons_of_mem _ (List.mem_cons_of_mem _ (List.mem_cons_of_mem _ (List.mem_cons_of_mem _ List.mem_cons_self)))))) rfl, sl_head (hs8.get (r := .ro F (fun w' => Sl Kd.int w' F (some ⟨bf, of_, none⟩) cf (f :: fs))) (List.mem_cons_of_mem _ List.mem_cons_self))⟩) rfl ?_
          refine wa_one [1, 6] (by kernel_rfl) rfl ?_
          intro i hi
          simp only [List.mem_cons, List.not_mem_nil, or_false] at hi
          rcases hi with rfl | rfl
          ·
            refine ⟨_, rfl, ?_⟩
            refine l_r (r_load1p rfl hs8 (Repl.there (Repl.there (Repl.there (Repl.there Repl.here)))) ag22 rfl) rfl ?_
            refine l_nil ⟨⟨heap_cell (hs8.get (r := .pt b2 _ _) (List.mem_cons_of_mem _ (List.mem_cons_of_mem _ (List.mem_cons_of_mem _ (List.mem_cons_of_mem _ (List.mem_cons_of_mem _ List.mem_cons_self)))))) rfl, sl_head (hs8.get (r := .ro F (fun w' => Sl Kd.int w' F (some ⟨bf, of_, none⟩) cf (f :: fs))) (List.mem_cons_of_mem _ List.mem_cons_self))⟩, ?_⟩
            refine wa_one [6] (by kernel_rfl) rfl ?_
            intro i hi
            simp only [List.mem_cons, List.not_mem_nil, or_false] at hi
            subst hi
            refine ⟨_, rfl, ?_⟩
            refine l_bsN (m := 1) Try.underlying22 sz3 (by rw [zz3]; rfl) rfl rfl (by
                intro v hv
                simp only [List.mem_cons, List.not_mem_nil, or_false] at hv
                subst hv
                rfl) rfl (by decide) rfl hs8 ?_
            intro w9 b28 hb28 hx9 hs9
            refine l_nil ⟨⟨heap_cell (hs9.get (r := .pt b2 _ _) (List.mem_cons_of_mem _ (List.mem_cons_of_mem _ (List.mem_cons_of_mem _ (List.mem_cons_of_mem _ (List.mem_cons_of_mem _ (List.mem_cons_of_mem _ List.mem_cons_self))))))) rfl, sl_head (hs9.get (r := .ro F (fun w' => Sl Kd.int w' F (some ⟨bf, of_, none⟩) cf (f :: fs))) (List.mem_cons_of_mem _ (List.mem_cons_of_mem _ List.mem_cons_self)))⟩, ?_⟩
            refine wa_one [7] (by kernel_rfl) rfl ?_
            intro i hi
            simp only [List.mem_cons, List.not_mem_nil, or_false] at hi
            subst hi
            refine ⟨_, rfl, ?_⟩
            refine l_appendQ (news := [.int .i64 f]) (j := 1) (cs := cr) Try.underlying22 rw3 rfl rfl rfl hct rfl rfl (fun i u hu => by rw [add_plain, Nat.zero_add]; exact heap_cell (hs9.get (r := .pt b28 _ _) List.mem_cons_self) hu) (one1 rfl) (by decide) (by omega) rfl (Nat.zero_le _) hs9 (fun v' => (Repl.there Repl.here)) rfl ?_
            intro D2 c2 w10 hs10
            refine l_nil ⟨⟨heap_cell (hs10.get (r := .pt b2 _ _) (List.mem_cons_of_mem _ (List.mem_cons_of_mem _ (List.mem_cons_of_mem _ (List.mem_cons_of_mem _ (List.mem_cons_of_mem _ (List.mem_cons_of_mem _ List.mem_cons_self))))))) rfl, sl_head (hs10.get (r := .ro F (fun w' => Sl Kd.int w' F (some ⟨bf, of_, none⟩) cf (f :: fs))) (List.mem_cons_of_mem _ (List.mem_cons_of_mem _ List.mem_cons_self)))⟩, ?_⟩
            refine wa_one [8] (by kernel_rfl) rfl ?_
            intro i hi
            simp only [List.mem_cons, List.not_mem_nil, or_false] at hi
            subst hi
            refine ⟨_, rfl, ?_⟩
            refine l_r (r_field rfl fo52_1) rfl ?_
            refine l_nil ⟨⟨heap_cell (hs10.get (r := .pt b2 _ _) (List.mem_cons_of_mem _ (List.mem_cons_of_mem _ (List.mem_cons_of_mem _ (List.mem_cons_of_mem _ (List.mem_cons_of_mem _ (List.mem_cons_of_mem _ List.mem_cons_self))))))) rfl, sl_head (hs10.get (r := .ro F (fun w' => Sl Kd.int w' F (some ⟨bf, of_, none⟩) cf (f :: fs))) (List.mem_cons_of_mem _ (List.mem_cons_of_mem _ List.mem_cons_self)))⟩, ?_⟩
            refine wa_one [9] (by kernel_rfl) rfl ?_
            intro i hi
            simp only [List.mem_cons, List.not_mem_nil, or_false] at hi
            subst hi
            refine ⟨_, rfl, ?_⟩
            refine l_store1 rfl rfl rfl sz22 (Nat.zero_le _) hs10 (Repl.there (Repl.there (Repl.there (Repl.there (Repl.there Repl.here))))) rfl ?_
            intro w11 hz11 hk11 hs11
            refine l_nil ⟨⟨heap_cell (hs11.get (r := .pt b2 _ _) (List.mem_cons_of_mem _ (List.mem_cons_of_mem _ (List.mem_cons_of_mem _ (List.mem_cons_of_mem _ (List.mem_cons_of_mem _ (List.mem_cons_of_mem _ List.mem_cons_self))))))) rfl, sl_head (hs11.get (r := .ro F (fun w' => Sl Kd.int w' F (some ⟨bf, of_, none⟩) cf (f :: fs))) (List.mem_cons_of_mem _ (List.mem_cons_of_mem _ List.mem_cons_self)))⟩, ?_⟩
            exact wa_done (by kernel_rfl) ⟨_, _, (.cons rfl (.cons rfl (.cons rfl (.cons rfl .nil)))), hs11.tail⟩
          ·
            refine ⟨_, rfl, ?_⟩
            refine l_bsN (m := 1) Try.underlying22 sz3 (by rw [zz3]; rfl) rfl rfl (by
                intro v hv
                simp only [List.mem_cons, List.not_mem_nil, or_false] at hv
                subst hv
                rfl) rfl (by decide) rfl hs8 ?_
            intro w12 b28 hb28 hx12 hs12
            refine l_nil ⟨⟨heap_cell (hs12.get (r := .pt b2 _ _) (List.mem_cons_of_mem _ (List.mem_cons_of_mem _ (List.mem_cons_of_mem _ (List.mem_cons_of_mem _ (List.mem_cons_of_mem _ (List.mem_cons_of_mem _ List.mem_cons_self))))))) rfl, sl_head (hs12.get (r := .ro F (fun w' => Sl Kd.int w' F (some ⟨bf, of_, none⟩) cf (f :: fs))) (List.mem_cons_of_mem _ (List.mem_cons_of_mem _ List.mem_cons_self)))⟩, ?_⟩
            refine wa_one [1] (by kernel_rfl) rfl ?_
            intro i hi
            simp only [List.mem_cons, List.not_mem_nil, or_false] at hi
            subst hi
            refine ⟨_, rfl, ?_⟩
            refine l_r (r_load1p rfl hs12 (Repl.there (Repl.there (Repl.there (Repl.there (Repl.there Repl.here))))) ag22 rfl) rfl ?_
            refine l_nil ⟨⟨heap_cell (hs12.get (r := .pt b2 _ _) (List.mem_cons_of_mem _ (List.mem_cons_of_mem _ (List.mem_cons_of_mem _ (List.mem_cons_of_mem _ (List.mem_cons_of_mem _ (List.mem_cons_of_mem _ List.mem_cons_self))))))) rfl, sl_head (hs12.get (r := .ro F (fun w' => Sl Kd.int w' F (some ⟨bf, of_, none⟩) cf (f :: fs))) (List.mem_cons_of_mem _ (List.mem_cons_of_mem _ List.mem_cons_self)))⟩, ?_⟩
            refine wa_one [7] (by kernel_rfl) rfl ?_
            intro i hi
            simp only [List.mem_cons, List.not_mem_nil, or_false] at hi
            subst hi
            refine ⟨_, rfl, ?_⟩
            refine l_appendQ (news := [.int .i64 f]) (j := 1) (cs := cr) Try.underlying22 rw3 rfl rfl rfl hct rfl rfl (fun i u hu => by rw [add_plain, Nat.zero_add]; exact heap_cell (hs12.get (r := .pt b28 _ _) List.mem_cons_self) hu) (one1 rfl) (by decide) (by omega) rfl (Nat.zero_le _) hs12 (fun v' => (Repl.there Repl.here)) rfl ?_
            intro D2 c2 w13 hs13
            refine l_nil ⟨⟨heap_cell (hs13.get (r := .pt b2 _ _) (List.mem_cons_of_mem _ (List.mem_cons_of_mem _ (List.mem_cons_of_mem _ (List.mem_cons_of_mem _ (List.mem_cons_of_mem _ (List.mem_cons_of_mem _ List.mem_cons_self))))))) rfl, sl_head (hs13.get (r := .ro F (fun w' => Sl Kd.int w' F (some ⟨bf, of_, none⟩) cf (f :: fs))) (List.mem_cons_of_mem _ (List.mem_cons_of_mem _ List.mem_cons_self)))⟩, ?_⟩
            refine wa_one [8] (by kernel_rfl) rfl ?_
            intro i hi
            simp only [List.mem_cons, List.not_mem_nil, or_false] at hi
            subst hi
            refine ⟨_, rfl, ?_⟩
            refine l_r (r_field rfl fo52_1) rfl ?_
            refine l_nil ⟨⟨heap_cell (hs13.get (r := .pt b2 _ _) (List.mem_cons_of_mem _ (List.mem_cons_of_mem _ (List.mem_cons_of_mem _ (List.mem_cons_of_mem _ (List.mem_cons_of_mem _ (List.mem_cons_of_mem _ List.mem_cons_self))))))) rfl, sl_head (hs13.get (r := .ro F (fun w' => Sl Kd.int w' F (some ⟨bf, of_, none⟩) cf (f :: fs))) (List.mem_cons_of_mem _ (List.mem_cons_of_mem _ List.mem_cons_self)))⟩, ?_⟩
            refine wa_one [9] (by kernel_rfl) rfl ?_
            intro i hi
            simp only [List.mem_cons, List.not_mem_nil, or_false] at hi
            subst hi
            refine ⟨_, rfl, ?_⟩
            refine l_store1 rfl rfl rfl sz22 (Nat.zero_le _) hs13 (Repl.there (Repl.there (Repl.there (Repl.there (Repl.there Repl.here))))) rfl ?_
            intro w14 hz14 hk14 hs14
            refine l_nil ⟨⟨heap_cell (hs14.get (r := .pt b2 _ _) (List.mem_cons_of_mem _ (List.mem_cons_of_mem _ (List.mem_cons_of_mem _ (List.mem_cons_of_mem _ (List.mem_cons_of_mem _ (List.mem_cons_of_mem _ List.mem_cons_self))))))) rfl, sl_head (hs14.get (r := .ro F (fun w' => Sl Kd.int w' F (some ⟨bf, of_, none⟩) cf (f :: fs))) (List.mem_cons_of_mem _ (List.mem_cons_of_mem _ List.mem_cons_self)))⟩, ?_⟩
            exact wa_done (by kernel_rfl) ⟨_, _, (.cons rfl (.cons rfl (.cons rfl (.cons rfl .nil)))), hs14.tail⟩
        rintro _ w15 ⟨D2, c2, hsub, hs15⟩
        refine s_sub [(2, .pointer (some ⟨b2, 0, none⟩)), (3, .pointer (some ⟨b3, 0, none⟩)), (4, .pointer (some ⟨b4, 0, none⟩)), (5, .pointer (some ⟨b5, 0, none⟩))] hsub ?_
        refine s_seq ?_
        refine s_region ?_
        refine l_r (r_field rfl fo52_1) rfl ?_
        refine l_r (r_load1p rfl hs15 (Repl.there (Repl.there (Repl.there (Repl.there (Repl.there Repl.here))))) ag22 rfl) rfl ?_
        have hSl := hs15.get (r := .ro F (fun w' => Sl Kd.int w' F (some ⟨bf, of_, none⟩) cf (f :: fs))) (List.mem_cons_of_mem _ List.mem_cons_self)
        have hlc : fs.length + 1 ≤ cf := hSl.1
        refine l_r (r_slice (vl := some _) (vh := none) (vm := none) (l' := 1) (h' := (f :: fs).length) (m' := cf) rfl el22 rfl rfl rfl rfl ⟨rfl, rfl⟩ rfl (by simp) hSl.1 (Nat.le_refl _) hSl.1) rfl ?_
        refine l_r (r_field rfl fo52_1) rfl ?_
        refine l_store1 rfl rfl rfl sz22 (Nat.zero_le _) hs15 (Repl.there (Repl.there (Repl.there (Repl.there (Repl.there Repl.here))))) rfl ?_
        intro w16 hz16 hk16 hs16
        refine l_nil ?_
        refine s_goto rfl ?_
        exact hJ _ [(2, .pointer (some ⟨b2, 0, none⟩)), (3, .pointer (some ⟨b3, 0, none⟩)), (4, .pointer (some ⟨b4, 0, none⟩)), (5, .pointer (some ⟨b5, 0, none⟩))] _ _ (by simp) (.cons rfl (.cons rfl (.cons rfl (.cons rfl .nil)))) ⟨fs, (ts ++ [f]), (cutA (some ⟨bf, of_, none⟩) cf 1 1), D2, (cf - 1), c2, c2, F, (cr ++ [.int .i64 f]), rfl, rfl, ⟨by rw [← hmv, moveQ_step ‹(ts.length : Int) < b.Depth›], by simp at hlen ⊢; omega, .inl rfl, hRt.snoc (x := f) (cx := [.int .i64 f]) rfl, by rw [List.length_append]; exact (hs16.swap.hide (fun w' => Sl Kd.int w' F (cutA (some ⟨bf, of_, none⟩) cf 1 1) (cf - 1) fs) (fun w' h => by have := h.cut (lo := 1) (hi := (f :: fs).length) (m := cf) (by simp) (Nat.le_refl _) h.1 (Nat.le_refl _); rw [show ((f :: fs).take (f :: fs).length).drop 1 = fs by simp] at this; exact this)).swap⟩⟩
      ·
        refine l_r (r_cmp rfl rfl (b := false) (congrArg some (decide_eq_false hc7))) rfl ?_
        refine l_r (r_pick_t rfl rfl) rfl ?_
        refine l_nil ?_
        refine s_else rfl ?_
        refine s_skip ?_
        refine s_seq ?_
        refine s_any (by kernel_rfl) (fun w' => w'.heap[b2]? = some (.cells ([.int .i64 a.Depth, .slice (some ⟨bf, of_, none⟩) (f :: fs).length cf, .int .i64 a.Lost] : List Value).toArray 52 (0, 0)) ∧ w'.heap[b3]? = some (.cells ([.int .i64 b.Depth, .slice Dt ts.length ct, .int .i64 b.Lost] : List Value).toArray 52 (0, 0))) (fun L' w' => Sub [(2, .pointer (some ⟨b2, 0, none⟩)), (3, .pointer (some ⟨b3, 0, none⟩)), (4, .pointer (some ⟨b4, 0, none⟩)), (5, .pointer (some ⟨b5, 0, none⟩))] L' ∧ St 0 w w' [.row 0 3 1 (.slice Dt ts.length e) ts.length cr, .ro F (fun w' => Sl Kd.int w' F (some ⟨bf, of_, none⟩) cf (f :: fs)), .pt b5 [.int .i64 b.Depth, .slice Dt ts.length ct, .int .i64 b.Lost] 52, .pt b4 [.int .i64 a.Depth, .slice (some ⟨bf, of_, none⟩) (f :: fs).length cf, .int .i64 a.Lost] 52, .pt b3 [.int .i64 b.Depth, .slice Dt ts.length ct, .int .i64 b.Lost] 52, .pt b2 [.int .i64 a.Depth, .slice (some ⟨bf, of_, none⟩) (f :: fs).length cf, .int .i64 a.Lost] 52]) ?_ ?_
        ·
          intro w17 hx17 hh17
          have hs17 := hs5.ext hx17
          refine wa_take 0 rfl (by kernel_rfl) (fun w' hw' => r_loadN rfl ag52 (heap_cells hw'.1 0) sz52) (⟨hs17.get (r := .pt b2 _ _) (List.mem_cons_of_mem _ (List.mem_cons_of_mem _ (List.mem_cons_of_mem _ (List.mem_cons_of_mem _ (List.mem_cons_of_mem _ List.mem_cons_self))))), hs17.get (r := .pt b3 _ _) (List.mem_cons_of_mem _ (List.mem_cons_of_mem _ (List.mem_cons_of_mem _ (List.mem_cons_of_mem _ List.mem_cons_self))))⟩) rfl ?_
          refine wa_take 1 rfl (by kernel_rfl) (fun w' hw' => r_loadN rfl ag52 (heap_cells hw'.2 0) sz52) (⟨hs17.get (r := .pt b2 _ _) (List.mem_cons_of_mem _ (List.mem_cons_of_mem _ (List.mem_cons_of_mem _ (List.mem_cons_of_mem _ (List.mem_cons_of_mem _ List.mem_cons_self))))), hs17.get (r := .pt b3 _ _) (List.mem_cons_of_mem _ (List.mem_cons_of_mem _ (List.mem_cons_of_mem _ (List.mem_cons_of_mem _ List.mem_cons_self))))⟩) rfl ?_
          refine wa_one [2] (by kernel_rfl) rfl ?_
          intro i hi
          simp only [List.mem_cons, List.not_mem_nil, or_false] at hi
          subst hi
          refine ⟨_, rfl, ?_⟩
          refine l_storeAll rfl rfl sz52 (by intro u hu; have hu : u ∈ ([.int .i64 a.Depth, .slice (some ⟨bf, of_, none⟩) (f :: fs).length cf, .int .i64 a.Lost] : List Value) := hu; simp only [List.mem_cons, List.not_mem_nil, or_false] at hu; rcases hu with rfl | rfl | rfl <;> rfl) (Nat.zero_le _) hs17 (Repl.there (Repl.there (Repl.there Repl.here))) rfl ?_
          intro w18 hz18 hk18 hs18
          refine l_nil ⟨⟨hs18.get (r := .pt b2 _ _) (List.mem_cons_of_mem _ (List.mem_cons_of_mem _ (List.mem_cons_of_mem _ (List.mem_cons_of_mem _ (List.mem_cons_of_mem _ List.mem_cons_self))))), hs18.get (r := .pt b3 _ _) (List.mem_cons_of_mem _ (List.mem_cons_of_mem _ (List.mem_cons_of_mem _ (List.mem_cons_of_mem _ List.mem_cons_self))))⟩, ?_⟩
          refine wa_one [3] (by kernel_rfl) rfl ?_
          intro i hi
          simp only [List.mem_cons, List.not_mem_nil, or_false] at hi
          subst hi
          refine ⟨_, rfl, ?_⟩
          refine l_storeAll rfl rfl sz52 (by intro u hu; have hu : u ∈ ([.int .i64 b.Depth, .slice Dt ts.length ct, .int .i64 b.Lost] : List Value) := hu; simp only [List.mem_cons, List.not_mem_nil, or_false] at hu; rcases hu with rfl | rfl | rfl <;> rfl) (Nat.zero_le _) hs18 (Repl.there (Repl.there Repl.here)) rfl ?_
          intro w19 hz19 hk19 hs19
          refine l_nil ⟨⟨hs19.get (r := .pt b2 _ _) (List.mem_cons_of_mem _ (List.mem_cons_of_mem _ (List.mem_cons_of_mem _ (List.mem_cons_of_mem _ (List.mem_cons_of_mem _ List.mem_cons_self))))), hs19.get (r := .pt b3 _ _) (List.mem_cons_of_mem _ (List.mem_cons_of_mem _ (List.mem_cons_of_mem _ (List.mem_cons_of_mem _ List.mem_cons_self))))⟩, ?_⟩
          exact wa_done (by kernel_rfl) ⟨(.cons rfl (.cons rfl (.cons rfl (.cons rfl .nil)))), hs19⟩
        rintro _ w20 ⟨hsub, hs20⟩
        refine s_sub [(2, .pointer (some ⟨b2, 0, none⟩)), (3, .pointer (some ⟨b3, 0, none⟩)), (4, .pointer (some ⟨b4, 0, none⟩)), (5, .pointer (some ⟨b5, 0, none⟩))] hsub ?_
        refine s_ret ?_
        have hfin : moveQ a.Values b.Values b.Depth = ((f :: fs), ts) := hmv.symm.trans (moveQ_full ‹¬ (ts.length : Int) < b.Depth›)
        rw [hfin]
        exact q_done (.inr rfl) (.cellN (cs := [.int .i64 a.Depth, .slice (some ⟨bf, of_, none⟩) (f :: fs).length cf, .int .i64 a.Lost]) rfl ag52 sz52 (heap_cells (o := 0) (hs20.get (r := .pt b4 _ _) (List.mem_cons_of_mem _ (List.mem_cons_of_mem _ (List.mem_cons_of_mem _ List.mem_cons_self))))) (.cellN (cs := [.int .i64 b.Depth, .slice Dt ts.length ct, .int .i64 b.Lost]) rfl ag52 sz52 (heap_cells (o := 0) (hs20.get (r := .pt b5 _ _) (List.mem_cons_of_mem _ (List.mem_cons_of_mem _ List.mem_cons_self)))) .nil)) ⟨_, _, _, rfl, (hs20.sub (List.sublist_append_left [_, _] _)).join (fun w' => Kd.queue.K w' _ { a with Values := (f :: fs) } [.int .i64 a.Depth, .slice (some ⟨bf, of_, none⟩) (f :: fs).length cf, .int .i64 a.Lost] ∧ Kd.queue.K w' _ { b with Values := ts } [.int .i64 b.Depth, .slice Dt ts.length ct, .int .i64 b.Lost]) (fun w' h1 h2 => ⟨⟨_, _, rfl, h2.mono (fun _ h _ => .inr h) (by decide)⟩, ⟨_, _, rfl, (row_sl (d := Kd.int) h1 hRt (fun _ h => .inl h)).cap (cap_le hct (row_sl (d := Kd.int) (F := fun _ => True) h1 hRt (fun _ _ => trivial)).1).1 (cap_le hct (row_sl (d := Kd.int) (F := fun _ => True) h1 hRt (fun _ _ => trivial)).1).2⟩⟩)⟩
    ·
      refine l_r (r_cmp rfl rfl (b := false) (congrArg some (decide_eq_false hc6))) rfl ?_
      refine l_r (r_move rfl) rfl ?_
      refine l_off (dj := 14) (b := false) rfl rfl rfl rfl rfl ?_
      refine l_off (dj := 14) (b := false) rfl rfl rfl rfl rfl ?_
      refine l_off (dj := 14) (b := false) rfl rfl rfl rfl rfl ?_
      refine l_off (dj := 14) (b := false) rfl rfl rfl rfl rfl ?_
      refine l_off (dj := 14) (b := false) rfl rfl rfl rfl rfl ?_
      refine l_off (dj := 14) (b := false) rfl rfl rfl rfl rfl ?_
      refine l_r (r_pick_f rfl rfl) rfl ?_
      refine l_nil ?_
      refine s_else rfl ?_
      refine s_skip ?_
      refine s_seq ?_
      refine s_any (by kernel_rfl) (fun w' => w'.heap[b2]? = some (.cells ([.int .i64 a.Depth, .slice Af fs.length cf, .int .i64 a.Lost] : List Value).toArray 52 (0, 0)) ∧ w'.heap[b3]? = some (.cells ([.int .i64 b.Depth, .slice Dt ts.length ct, .int .i64 b.Lost] : List Value).toArray 52 (0, 0))) (fun L' w' => Sub [(2, .pointer (some ⟨b2, 0, none⟩)), (3, .pointer (some ⟨b3, 0, none⟩)), (4, .pointer (some ⟨b4, 0, none⟩)), (5, .pointer (some ⟨b5, 0, none⟩))] L' ∧ St 0 w w' [.row 0 3 1 (.slice Dt ts.length e) ts.length cr, .ro F (fun w' => Sl Kd.int w' F Af cf fs), .pt b5 [.int .i64 b.Depth, .slice Dt ts.length ct, .int .i64 b.Lost] 52, .pt b4 [.int .i64 a.Depth, .slice Af fs.length cf, .int .i64 a.Lost] 52, .pt b3 [.int .i64 b.Depth, .slice Dt ts.length ct, .int .i64 b.Lost] 52, .pt b2 [.int .i64 a.Depth, .slice Af fs.length cf, .int .i64 a.Lost] 52]) ?_ ?_
      ·
        intro w22 hx22 hh22
        have hs22 := hs5.ext hx22
        refine wa_take 0 rfl (by kernel_rfl) (fun w' hw' => r_loadN rfl ag52 (heap_cells hw'.1 0) sz52) (⟨hs22.get (r := .pt b2 _ _) (List.mem_cons_of_mem _ (List.mem_cons_of_mem _ (List.mem_cons_of_mem _ (List.mem_cons_of_mem _ (List.mem_cons_of_mem _ List.mem_cons_self))))), hs22.get (r := .pt b3 _ _) (List.mem_cons_of_mem _ (List.mem_cons_of_mem _ (List.mem_cons_of_mem _ (List.mem_cons_of_mem _ List.mem_cons_self))))⟩) rfl ?_
        refine wa_take 1 rfl (by kernel_rfl) (fun w' hw' => r_loadN rfl ag52 (heap_cells hw'.2 0) sz52) (⟨hs22.get (r := .pt b2 _ _) (List.mem_cons_of_mem _ (List.mem_cons_of_mem _ (List.mem_cons_of_mem _ (List.mem_cons_of_mem _ (List.mem_cons_of_mem _ List.mem_cons_self))))), hs22.get (r := .pt b3 _ _) (List.mem_cons_of_mem _ (List.mem_cons_of_mem _ (List.mem_cons_of_mem _ (List.mem_cons_of_mem _ List.mem_cons_self))))⟩) rfl ?_
        refine wa_one [2] (by kernel_rfl) rfl ?_
        intro i hi
        simp only [List.mem_cons, List.not_mem_nil, or_false] at hi
        subst hi
        refine ⟨_, rfl, ?_⟩
        refine l_storeAll rfl rfl sz52 (by intro u hu; have hu : u ∈ ([.int .i64 a.Depth, .slice Af fs.length cf, .int .i64 a.Lost] : List Value) := hu; simp only [List.mem_cons, List.not_mem_nil, or_false] at hu; rcases hu with rfl | rfl | rfl <;> rfl) (Nat.zero_le _) hs22 (Repl.there (Repl.there (Repl.there Repl.here))) rfl ?_
        intro w23 hz23 hk23 hs23
        refine l_nil ⟨⟨hs23.get (r := .pt b2 _ _) (List.mem_cons_of_mem _ (List.mem_cons_of_mem _ (List.mem_cons_of_mem _ (List.mem_cons_of_mem _ (List.mem_cons_of_mem _ List.mem_cons_self))))), hs23.get (r := .pt b3 _ _) (List.mem_cons_of_mem _ (List.mem_cons_of_mem _ (List.mem_cons_of_mem _ (List.mem_cons_of_mem _ List.mem_cons_self))))⟩, ?_⟩
        refine wa_one [3] (by kernel_rfl) rfl ?_
        intro i hi
        simp only [List.mem_cons, List.not_mem_nil, or_false] at hi
        subst hi
        refine ⟨_, rfl, ?_⟩
        refine l_storeAll rfl rfl sz52 (by intro u hu; have hu : u ∈ ([.int .i64 b.Depth, .slice Dt ts.length ct, .int .i64 b.Lost] : List Value) := hu; simp only [List.mem_cons, List.not_mem_nil, or_false] at hu; rcases hu with rfl | rfl | rfl <;> rfl) (Nat.zero_le _) hs23 (Repl.there (Repl.there Repl.here)) rfl ?_
        intro w24 hz24 hk24 hs24
        refine l_nil ⟨⟨hs24.get (r := .pt b2 _ _) (List.mem_cons_of_mem _ (List.mem_cons_of_mem _ (List.mem_cons_of_mem _ (List.mem_cons_of_mem _ (List.mem_cons_of_mem _ List.mem_cons_self))))), hs24.get (r := .pt b3 _ _) (List.mem_cons_of_mem _ (List.mem_cons_of_mem _ (List.mem_cons_of_mem _ (List.mem_cons_of_mem _ List.mem_cons_self))))⟩, ?_⟩
        exact wa_done (by kernel_rfl) ⟨(.cons rfl (.cons rfl (.cons rfl (.cons rfl .nil)))), hs24⟩
      rintro _ w25 ⟨hsub, hs25⟩
      refine s_sub [(2, .pointer (some ⟨b2, 0, none⟩)), (3, .pointer (some ⟨b3, 0, none⟩)), (4, .pointer (some ⟨b4, 0, none⟩)), (5, .pointer (some ⟨b5, 0, none⟩))] hsub ?_
      refine s_ret ?_
      have hfin : moveQ a.Values b.Values b.Depth = (fs, ts) := hmv.symm.trans (by rw [show fs = [] from List.eq_nil_of_length_eq_zero (by omega)]; rfl)
      rw [hfin]
      exact q_done (.inr rfl) (.cellN (cs := [.int .i64 a.Depth, .slice Af fs.length cf, .int .i64 a.Lost]) rfl ag52 sz52 (heap_cells (o := 0) (hs25.get (r := .pt b4 _ _) (List.mem_cons_of_mem _ (List.mem_cons_of_mem _ (List.mem_cons_of_mem _ List.mem_cons_self))))) (.cellN (cs := [.int .i64 b.Depth, .slice Dt ts.length ct, .int .i64 b.Lost]) rfl ag52 sz52 (heap_cells (o := 0) (hs25.get (r := .pt b5 _ _) (List.mem_cons_of_mem _ (List.mem_cons_of_mem _ List.mem_cons_self)))) .nil)) ⟨_, _, _, rfl, (hs25.sub (List.sublist_append_left [_, _] _)).join (fun w' => Kd.queue.K w' _ { a with Values := fs } [.int .i64 a.Depth, .slice Af fs.length cf, .int .i64 a.Lost] ∧ Kd.queue.K w' _ { b with Values := ts } [.int .i64 b.Depth, .slice Dt ts.length ct, .int .i64 b.Lost]) (fun w' h1 h2 => ⟨⟨_, _, rfl, h2.mono (fun _ h _ => .inr h) (by decide)⟩, ⟨_, _, rfl, (row_sl (d := Kd.int) h1 hRt (fun _ h => .inl h)).cap (cap_le hct (row_sl (d := Kd.int) (F := fun _ => True) h1 hRt (fun _ _ => trivial)).1).1 (cap_le hct (row_sl (d := Kd.int) (F := fun _ => True) h1 hRt (fun _ _ => trivial)).1).2⟩⟩)⟩
  ·
    intro J hgo
    refine s_seq ?_
    refine s_any (by kernel_rfl) (fun _ => True) (fun L' w' => ∃ (DA DB : Option Addr) (cA cB : Nat) (nA nB : List Value), Sub [(2, .pointer (some ⟨b2, 0, none⟩)), (3, .pointer (some ⟨b3, 0, none⟩)), (4, .pointer (some ⟨b4, 0, none⟩)), (5, .pointer (some ⟨b5, 0, none⟩))] L' ∧ Reps Kd.int w (fun _ => True) a.Values nA ∧ Reps Kd.int w (fun _ => True) b.Values nB ∧ St 0 w w' [.row 0 3 1 (.slice DB b.Values.length cB) b.Values.length nB, .row 0 3 1 (.slice DA a.Values.length cA) a.Values.length nA, .pt b5 [.int .i64 0, .slice none 0 0, .int .i64 0] 52, .pt b4 [.int .i64 0, .slice none 0 0, .int .i64 0] 52, .pt b3 [.int .i64 b.Depth, .slice DB b.Values.length b.Values.length, .int .i64 b.Lost] 52, .pt b2 [.int .i64 a.Depth, .slice DA a.Values.length a.Values.length, .int .i64 a.Lost] 52]) ?_ ?_
    ·
      intro w26 hx26 hh26
      have hs26 := hs4.ext hx26
      refine wa_one [0, 2] (by kernel_rfl) rfl ?_
      intro i hi
      simp only [List.mem_cons, List.not_mem_nil, or_false] at hi
      rcases hi with rfl | rfl
      ·
        refine ⟨_, rfl, ?_⟩
        refine l_r (r_loadNp rfl hs26 (Repl.there (Repl.there (Repl.there Repl.here))) ag52 sz52) rfl ?_
        refine l_nil ⟨trivial, ?_⟩
        refine wa_one [1, 2] (by kernel_rfl) rfl ?_
        intro i hi
        simp only [List.mem_cons, List.not_mem_nil, or_false] at hi
        rcases hi with rfl | rfl
        ·
          refine ⟨_, rfl, ?_⟩
          refine l_call rfl rfl fk100 rfl (own100 w26 (q := a) ⟨_, _, rfl, hl1.on (by decide) hs26⟩ hba) ?_
          rintro _ w27 ⟨DA, cA, nA, rfl, hRA, hc27⟩
          have hs27 := hs26.call1 hc27
          refine ⟨_, rfl, ?_⟩
          refine l_nil ⟨trivial, ?_⟩
          refine wa_one [2] (by kernel_rfl) rfl ?_
          intro i hi
          simp only [List.mem_cons, List.not_mem_nil, or_false] at hi
          subst hi
          refine ⟨_, rfl, ?_⟩
          refine l_r (r_loadNp rfl hs27 (Repl.there (Repl.there (Repl.there Repl.here))) ag52 sz52) rfl ?_
          refine l_nil ⟨trivial, ?_⟩
          refine wa_one [3] (by kernel_rfl) rfl ?_
          intro i hi
          simp only [List.mem_cons, List.not_mem_nil, or_false] at hi
          subst hi
          refine ⟨_, rfl, ?_⟩
          refine l_call rfl rfl fk100 rfl (own100 w27 (q := b) ⟨_, _, rfl, hm1.on (by decide) hs27⟩ hbb) ?_
          rintro _ w28 ⟨DB, cB, nB, rfl, hRB, hc28⟩
          have hs28 := hs27.call1 hc28
          refine ⟨_, rfl, ?_⟩
          refine l_nil ⟨trivial, ?_⟩
          refine wa_one [4] (by kernel_rfl) rfl ?_
          intro i hi
          simp only [List.mem_cons, List.not_mem_nil, or_false] at hi
          subst hi
          refine ⟨_, rfl, ?_⟩
          refine l_storeAll rfl rfl sz52 (by intro u hu; have hu : u ∈ ([.int .i64 a.Depth, .slice DA a.Values.length a.Values.length, .int .i64 a.Lost] : List Value) := hu; simp only [List.mem_cons, List.not_mem_nil, or_false] at hu; rcases hu with rfl | rfl | rfl <;> rfl) (Nat.zero_le _) hs28 (Repl.there (Repl.there (Repl.there (Repl.there (Repl.there Repl.here))))) rfl ?_
          intro w29 hz29 hk29 hs29
          refine l_nil ⟨trivial, ?_⟩
          refine wa_one [5] (by kernel_rfl) rfl ?_
          intro i hi
          simp only [List.mem_cons, List.not_mem_nil, or_false] at hi
          subst hi
          refine ⟨_, rfl, ?_⟩
          refine l_storeAll rfl rfl sz52 (by intro u hu; have hu : u ∈ ([.int .i64 b.Depth, .slice DB b.Values.length b.Values.length, .int .i64 b.Lost] : List Value) := hu; simp only [List.mem_cons, List.not_mem_nil, or_false] at hu; rcases hu with rfl | rfl | rfl <;> rfl) (Nat.zero_le _) hs29 (Repl.there (Repl.there (Repl.there (Repl.there Repl.here)))) rfl ?_
          intro w30 hz30 hk30 hs30
          refine l_nil ⟨trivial, ?_⟩
          exact wa_done (by kernel_rfl) ⟨_, _, _, _, _, _, (.cons rfl (.cons rfl (.cons rfl (.cons rfl .nil)))), rep_any hRA, rep_any hRB, hs30⟩
        ·
          refine ⟨_, rfl, ?_⟩
          refine l_r (r_loadNp rfl hs26 (Repl.there (Repl.there Repl.here)) ag52 sz52) rfl ?_
          refine l_nil ⟨trivial, ?_⟩
          refine wa_one [1] (by kernel_rfl) rfl ?_
          intro i hi
          simp only [List.mem_cons, List.not_mem_nil, or_false] at hi
          subst hi
          refine ⟨_, rfl, ?_⟩
          refine l_call rfl rfl fk100 rfl (own100 w26 (q := a) ⟨_, _, rfl, hl1.on (by decide) hs26⟩ hba) ?_
          rintro _ w31 ⟨DA, cA, nA, rfl, hRA, hc31⟩
          have hs31 := hs26.call1 hc31
          refine ⟨_, rfl, ?_⟩
          refine l_nil ⟨trivial, ?_⟩
          refine wa_one [3] (by kernel_rfl) rfl ?_
          intro i hi
          simp only [List.mem_cons, List.not_mem_nil, or_false] at hi
          subst hi
          refine ⟨_, rfl, ?_⟩
          refine l_call rfl rfl fk100 rfl (own100 w31 (q := b) ⟨_, _, rfl, hm1.on (by decide) hs31⟩ hbb) ?_
          rintro _ w32 ⟨DB, cB, nB, rfl, hRB, hc32⟩
          have hs32 := hs31.call1 hc32
          refine ⟨_, rfl, ?_⟩
          refine l_nil ⟨trivial, ?_⟩
          refine wa_one [4] (by kernel_rfl) rfl ?_
          intro i hi
          simp only [List.mem_cons, List.not_mem_nil, or_false] at hi
          subst hi
          refine ⟨_, rfl, ?_⟩
          refine l_storeAll rfl rfl sz52 (by intro u hu; have hu : u ∈ ([.int .i64 a.Depth, .slice DA a.Values.length a.Values.length, .int .i64 a.Lost] : List Value) := hu; simp only [List.mem_cons, List.not_mem_nil, or_false] at hu; rcases hu with rfl | rfl | rfl <;> rfl) (Nat.zero_le _) hs32 (Repl.there (Repl.there (Repl.there (Repl.there (Repl.there Repl.here))))) rfl ?_
          intro w33 hz33 hk33 hs33
          refine l_nil ⟨trivial, ?_⟩
          refine wa_one [5] (by kernel_rfl) rfl ?_
          intro i hi
          simp only [List.mem_cons, List.not_mem_nil, or_false] at hi
          subst hi
          refine ⟨_, rfl, ?_⟩
          refine l_storeAll rfl rfl sz52 (by intro u hu; have hu : u ∈ ([.int .i64 b.Depth, .slice DB b.Values.length b.Values.length, .int .i64 b.Lost] : List Value) := hu; simp only [List.mem_cons, List.not_mem_nil, or_false] at hu; rcases hu with rfl | rfl | rfl <;> rfl) (Nat.zero_le _) hs33 (Repl.there (Repl.there (Repl.there (Repl.there Repl.here)))) rfl ?_
          intro w34 hz34 hk34 hs34
          refine l_nil ⟨trivial, ?_⟩
          exact wa_done (by kernel_rfl) ⟨_, _, _, _, _, _, (.cons rfl (.cons rfl (.cons rfl (.cons rfl .nil)))), rep_any hRA, rep_any hRB, hs34⟩
      ·
        refine ⟨_, rfl, ?_⟩
        refine l_r (r_loadNp rfl hs26 (Repl.there (Repl.there Repl.here)) ag52 sz52) rfl ?_
        refine l_nil ⟨trivial, ?_⟩
        refine wa_one [0] (by kernel_rfl) rfl ?_
        intro i hi
        simp only [List.mem_cons, List.not_mem_nil, or_false] at hi
        subst hi
        refine ⟨_, rfl, ?_⟩
        refine l_r (r_loadNp rfl hs26 (Repl.there (Repl.there (Repl.there Repl.here))) ag52 sz52) rfl ?_
        refine l_nil ⟨trivial, ?_⟩
        refine wa_one [1] (by kernel_rfl) rfl ?_
        intro i hi
        simp only [List.mem_cons, List.not_mem_nil, or_false] at hi
        subst hi
        refine ⟨_, rfl, ?_⟩
        refine l_call rfl rfl fk100 rfl (own100 w26 (q := a) ⟨_, _, rfl, hl1.on (by decide) hs26⟩ hba) ?_
        rintro _ w35 ⟨DA, cA, nA, rfl, hRA, hc35⟩
        have hs35 := hs26.call1 hc35
        refine ⟨_, rfl, ?_⟩
        refine l_nil ⟨trivial, ?_⟩
        refine wa_one [3] (by kernel_rfl) rfl ?_
        intro i hi
        simp only [List.mem_cons, List.not_mem_nil, or_false] at hi
        subst hi
        refine ⟨_, rfl, ?_⟩
        refine l_call rfl rfl fk100 rfl (own100 w35 (q := b) ⟨_, _, rfl, hm1.on (by decide) hs35⟩ hbb) ?_
        rintro _ w36 ⟨DB, cB, nB, rfl, hRB, hc36⟩
        have hs36 := hs35.call1 hc36
        refine ⟨_, rfl, ?_⟩
        refine l_nil ⟨trivial, ?_⟩
        refine wa_one [4] (by kernel_rfl) rfl ?_
        intro i hi
        simp only [List.mem_cons, List.not_mem_nil, or_false] at hi
        subst hi
        refine ⟨_, rfl, ?_⟩
        refine l_storeAll rfl rfl sz52 (by intro u hu; have hu : u ∈ ([.int .i64 a.Depth, .slice DA a.Values.length a.Values.length, .int .i64 a.Lost] : List Value) := hu; simp only [List.mem_cons, List.not_mem_nil, or_false] at hu; rcases hu with rfl | rfl | rfl <;> rfl) (Nat.zero_le _) hs36 (Repl.there (Repl.there (Repl.there (Repl.there (Repl.there Repl.here))))) rfl ?_
        intro w37 hz37 hk37 hs37
        refine l_nil ⟨trivial, ?_⟩
        refine wa_one [5] (by kernel_rfl) rfl ?_
        intro i hi
        simp only [List.mem_cons, List.not_mem_nil, or_false] at hi
        subst hi
        refine ⟨_, rfl, ?_⟩
        refine l_storeAll rfl rfl sz52 (by intro u hu; have hu : u ∈ ([.int .i64 b.Depth, .slice DB b.Values.length b.Values.length, .int .i64 b.Lost] : List Value) := hu; simp only [List.mem_cons, List.not_mem_nil, or_false] at hu; rcases hu with rfl | rfl | rfl <;> rfl) (Nat.zero_le _) hs37 (Repl.there (Repl.there (Repl.there (Repl.there Repl.here)))) rfl ?_
        intro w38 hz38 hk38 hs38
        refine l_nil ⟨trivial, ?_⟩
        exact wa_done (by kernel_rfl) ⟨_, _, _, _, _, _, (.cons rfl (.cons rfl (.cons rfl (.cons rfl .nil)))), rep_any hRA, rep_any hRB, hs38⟩
    rintro _ w39 ⟨DA, DB, cA, cB, nA, nB, hsub, hRA, hRB, hs39⟩
    refine s_sub [(2, .pointer (some ⟨b2, 0, none⟩)), (3, .pointer (some ⟨b3, 0, none⟩)), (4, .pointer (some ⟨b4, 0, none⟩)), (5, .pointer (some ⟨b5, 0, none⟩))] hsub ?_
    refine s_seq ?_
    refine s_label ?_
    exact hgo _ [(2, .pointer (some ⟨b2, 0, none⟩)), (3, .pointer (some ⟨b3, 0, none⟩)), (4, .pointer (some ⟨b4, 0, none⟩)), (5, .pointer (some ⟨b5, 0, none⟩))] _ _ (.cons rfl (.cons rfl (.cons rfl (.cons rfl .nil)))) ⟨a.Values, b.Values, DA, DB, a.Values.length, b.Values.length, cB, _, nB, rfl, rfl, ⟨rfl, rfl, .inr rfl, rep_any hRB, (((hs39.toFront 1 rfl).hide (fun w' => Sl Kd.int w' _ DA a.Values.length a.Values) (fun w' h => (row_sl (d := Kd.int) h hRA (fun _ h => h)).cap (Nat.le_refl _) (row_sl (d := Kd.int) (F := fun _ => True) h hRA (fun _ _ => trivial)).1)).swap)⟩⟩

end Go.Proofs.Ytfhghnhgcdiknaa
