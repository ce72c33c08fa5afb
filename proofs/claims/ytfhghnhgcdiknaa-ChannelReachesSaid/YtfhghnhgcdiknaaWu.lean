/- The document's queues. -/
import Derived.Test.YtfhghnhgcdiknaaWt
import Derived.Test.YtfhghnhgcdiknaaVal
set_option linter.unusedVariables false
namespace Go.Proofs.Ytfhghnhgcdiknaa
open Go.RowKit
set_option maxRecDepth 100000 in
theorem refcarry {a b : TSample} (w : World) :
    Calls Try.prog 28 #[.agg (sampCells a).toArray, .agg (sampCells b).toArray] w (fun e w' => e = .returned (.agg (sampCells (carryL a b)).toArray) ∧ St 0 w w' []) := by
  refine q_call (n := 9) (args := [.agg (sampCells a).toArray, .agg (sampCells b).toArray]) Try.func28 rfl rfl rfl ?_
  have hs0 := St.refl 0 w
  refine s_seq ?_
  refine s_region ?_
  refine l_box rfl rfl rfl hs0 ?_
  intro w1 b2 hb2 hx1 hs1
  refine l_box rfl rfl rfl hs1 ?_
  intro w2 b3 hb3 hx2 hs2
  refine l_alloc zz56 rfl hs2 ?_
  intro w3 b4 hb4 hx3 hs3
  refine l_nil ?_
  refine s_seq ?_
  refine s_seq ?_
  refine s_region ?_
  refine l_r (r_field rfl fo56_0) rfl ?_
  refine l_r (r_load1p rfl hs3 (Repl.there (Repl.there Repl.here)) ag4 rfl) rfl ?_
  refine l_nil ?_
  refine s_part (dj := 6) rfl (fun hc4 => ?_) (fun hc4 => ?_)
  ·
    refine s_then rfl ?_
    refine s_seq ?_
    refine s_region ?_
    refine l_r (r_loadNp rfl hs3 (Repl.there (Repl.there Repl.here)) ag56 sz56) rfl ?_
    refine l_storeAll rfl rfl sz56 (one_all rfl) (Nat.zero_le _) hs3 Repl.here rfl ?_
    intro w5 hz5 hk5 hs5
    refine l_nil ?_
    refine s_ret ?_
    have hcl : carryL a b = a := by unfold carryL; rw [hc4]; rfl
    rw [hcl]
    exact q_done (.inr rfl) (.cellN (cs := sampCells a) rfl ag56 sz56 (heap_cells (o := 0) (hs5.get (r := .pt b4 _ _) List.mem_cons_self)) .nil) ⟨rfl, hs5.nil⟩
  ·
    refine s_else rfl ?_
    refine s_skip ?_
    refine s_seq ?_
    refine s_region ?_
    refine l_r (r_loadNp rfl hs3 (Repl.there Repl.here) ag56 sz56) rfl ?_
    refine l_storeAll rfl rfl sz56 (one_all rfl) (Nat.zero_le _) hs3 Repl.here rfl ?_
    intro w6 hz6 hk6 hs6
    refine l_nil ?_
    refine s_ret ?_
    have hcl : carryL a b = b := by unfold carryL; rw [hc4]; rfl
    rw [hcl]
    exact q_done (.inr rfl) (.cellN (cs := sampCells b) rfl ag56 sz56 (heap_cells (o := 0) (hs6.get (r := .pt b4 _ _) List.mem_cons_self)) .nil) ⟨rfl, hs6.nil⟩

set_option maxRecDepth 100000 in
theorem reftake {dp lo f : Int} {fs : List Int} {A : Option Addr} {c : Nat} (w : World) {ok : Nat → Prop} (hS : Sl Kd.int w ok A c (f :: fs)) (hb : fs.length ≤ 1000000000) :
    Calls Try.prog 46 #[.agg ([.int .i64 dp, .slice A (f :: fs).length c, .int .i64 lo] : List Value).toArray] w (fun e w' => ∃ v cs, e = .returned (.tuple #[.agg ([.int .i64 dp, v, .int .i64 lo] : List Value).toArray, .int .i64 0, .int .i64 f]) ∧ Reps Kd.int w (fun _ => True) fs cs ∧ St 0 w w' [.row 0 3 1 v fs.length cs]) := by
  refine q_call (n := 22) (args := [.agg ([.int .i64 dp, .slice A (f :: fs).length c, .int .i64 lo] : List Value).toArray]) Try.func46 rfl rfl rfl ?_
  have hs0 := St.refl 0 w
  refine s_seq ?_
  refine s_region ?_
  refine l_box rfl rfl rfl hs0 ?_
  intro w1 b1 hb1 hx1 hs1
  refine l_alloc zz52 rfl hs1 ?_
  intro w2 b2 hb2 hx2 hs2
  refine l_r (r_assign rfl) rfl ?_
  refine l_r (r_assign rfl) rfl ?_
  refine l_nil ?_
  refine s_seq ?_
  refine s_seq ?_
  refine s_region ?_
  refine l_r (r_field rfl fo52_1) rfl ?_
  refine l_r (r_load1p rfl hs2 (Repl.there Repl.here) ag22 rfl) rfl ?_
  refine l_r (r_len rfl el22) rfl ?_
  refine l_r (r_cmp rfl rfl (b := false) (by simp <;> omega)) rfl ?_
  refine l_nil ?_
  refine s_else rfl ?_
  refine s_skip ?_
  refine s_seq ?_
  refine s_region ?_
  refine l_r (r_field rfl fo52_1) rfl ?_
  refine l_r (r_load1p rfl hs2 (Repl.there Repl.here) ag22 rfl) rfl ?_
  obtain ⟨tb, to_, rfl, _⟩ := hS.some_ (by simp)
  have hh := sl_head (hS.onk hs2)
  refine l_r (r_index rfl rfl (by decide) (by simp only [List.length_cons]; omega) el22) rfl ?_
  refine l_r (r_load1 rfl ag3 hh) rfl ?_
  refine l_r (r_assign rfl) rfl ?_
  refine l_nil ?_
  refine s_seq ?_
  refine s_region ?_
  refine l_r (r_field rfl fo52_1) rfl ?_
  refine l_r (r_load1p rfl hs2 (Repl.there Repl.here) ag22 rfl) rfl ?_
  have hlc : fs.length + 1 ≤ c := hS.1
  have hcut := hS.cut (lo := 1) (hi := (f :: fs).length) (m := c) (by simp) (Nat.le_refl _) hS.1 (Nat.le_refl _)
  rw [show ((f :: fs).take (f :: fs).length).drop 1 = fs by simp] at hcut
  refine l_r (r_slice (vl := some _) (vh := none) (vm := none) (l' := 1) (h' := (f :: fs).length) (m' := c) rfl el22 rfl rfl rfl rfl ⟨rfl, rfl⟩ rfl (by simp) hS.1 (by have := hS.1; simp only [List.length_cons] at this; omega) hS.1) rfl ?_
  refine l_copy (dk := Kd.int) Try.underlying22 rw3 rfl rfl rfl rfl (hcut.onk hs2) (by omega) rfl rfl ?_
  intro _ nT w3 hRT hx3
  obtain ⟨DT, kT, rfl, hcapT, _⟩ := row_slice (hx3.get (r := .row _ _ _ _ _ _) List.mem_cons_self)
  have hs3 := hs2.call1 hx3
  refine l_r (r_field rfl fo52_1) rfl ?_
  refine l_store1 rfl rfl rfl sz22 (Nat.zero_le _) hs3 (Repl.there (Repl.there Repl.here)) rfl ?_
  intro w4 hz4 hk4 hs4
  refine l_nil ?_
  refine s_seq ?_
  refine s_region ?_
  refine l_r (r_loadNp rfl hs4 (Repl.there (Repl.there Repl.here)) ag52 sz52) rfl ?_
  refine l_r (r_move rfl) rfl ?_
  refine l_storeAll rfl rfl sz52 (one_all rfl) (Nat.zero_le _) hs4 (Repl.there Repl.here) rfl ?_
  intro w5 hz5 hk5 hs5
  refine l_r (r_assign rfl) rfl ?_
  refine l_r (r_assign rfl) rfl ?_
  refine l_nil ?_
  refine s_ret ?_
  exact q_done (.inr rfl) (.cellN (cs := [.int .i64 dp, .slice DT fs.length kT, .int .i64 lo]) rfl ag52 sz52 (heap_cells (o := 0) (hs5.get (r := .pt b2 _ _) (List.mem_cons_of_mem _ List.mem_cons_self))) (.tmp rfl (.tmp rfl .nil))) ⟨_, _, rfl, rep_any hRT, (hs5.sub (List.sublist_append_left [_] _))⟩

set_option maxRecDepth 100000 in
theorem refmove {a b : TQueue} {pa pb : List Value} (w : World) {ok ok2 : Nat → Prop} (hKa : Kd.queue.K w ok a pa) (hKb : Kd.queue.K w ok2 b pb) (hba : a.Values.length ≤ 100000000) (hbb : b.Values.length ≤ 100000000) :
    Calls Try.prog 25 #[.agg pa.toArray, .agg pb.toArray] w (fun e w' => ∃ ca cb, e = .returned (.tuple #[.agg ca.toArray, .agg cb.toArray]) ∧ Ext w w' ∧ Kd.queue.K w' (fun k => ok k ∨ w.heap.size ≤ k) { a with Values := (moveQ a.Values b.Values b.Depth).1 } ca ∧ Kd.queue.K w' (fun k => w.heap.size ≤ k) { b with Values := (moveQ a.Values b.Values b.Depth).2 } cb) := by
  refine q_call (n := 40) (args := [.agg pa.toArray, .agg pb.toArray]) Try.func25 rfl rfl rfl ?_
  have hs0 := St.refl w.heap.size w
  obtain ⟨A1, d1, rfl, hA1⟩ := hKa
  obtain ⟨B1, f1, rfl, hB1⟩ := hKb
  refine s_seq ?_
  refine s_region ?_
  refine l_box rfl rfl rfl hs0 ?_
  intro w1 b2 hb2 hx1 hs1
  refine l_box rfl rfl rfl hs1 ?_
  intro w2 b3 hb3 hx2 hs2
  refine l_alloc zz52 rfl hs2 ?_
  intro w3 b4 hb4 hx3 hs3
  refine l_alloc zz52 rfl hs3 ?_
  intro w4 b5 hb5 hx4 hs4
  refine l_nil ?_
  refine s_seq ?_
  refine s_region ?_
  refine l_r (r_field rfl fo52_1) rfl ?_
  refine l_r (r_load1p rfl hs4 (Repl.there (Repl.there Repl.here)) ag22 rfl) rfl ?_
  refine l_copyB hs4 (dk := Kd.int) Try.underlying22 rw3 rfl rfl rfl rfl (hB1) (by omega) rfl rfl ?_
  intro _ nR w5 hRR hx5
  obtain ⟨DR, kR, rfl, hcapR, _⟩ := row_slice (hx5.get (r := .row _ _ _ _ _ _) List.mem_cons_self)
  have hs5 := hs4.call1 hx5
  refine l_r (r_field rfl fo52_1) rfl ?_
  refine l_store1 rfl rfl rfl sz22 (Nat.le_refl _) hs5 (Repl.there (Repl.there (Repl.there Repl.here))) rfl ?_
  intro w6 hz6 hk6 hs6
  refine l_nil ?_
  refine s_seq ?_
  refine s_block ?_
  have hsq := (((((hs6.toFront 4 rfl).toFront 4 rfl).toFront 4 rfl).toFront 4 rfl).toFront 4 rfl)
  have hsp := (hsq.pure_ (fun w' => Sl Kd.int w' (fun k => (ok k ∧ k < w.heap.size) ∨ False) A1 d1 a.Values) ((fun w' hw' => (hA1.mono (ok' := fun k => (ok k ∧ k < w.heap.size) ∨ False) (fun k h hk => .inl ⟨h, hk⟩) (by decide)).move (fun k hk hlt => by rw [hw' k (hk.resolve_right id).2 (Nat.lt_of_lt_of_le hlt hsq.size), hsq.below.block k hlt])))).swap
  refine s_loop (fun m L wl => ∃ (fs : List Int) (Af : Option Addr) (cf : Nat) (F : Nat → Prop) (ts : List Int) (Dt : Option Addr) (ct : Nat) (cr : List Value), L = [(2, .pointer (some ⟨b2, 0, none⟩)), (3, .pointer (some ⟨b3, 0, none⟩)), (4, .pointer (some ⟨b4, 0, none⟩)), (5, .pointer (some ⟨b5, 0, none⟩))] ∧ m = fs.length ∧ moveQ fs ts b.Depth = moveQ a.Values b.Values b.Depth ∧ fs.length + ts.length = a.Values.length + b.Values.length ∧ Reps Kd.int w (fun _ => True) ts cr ∧ St w.heap.size w wl [.row 0 3 1 (.slice Dt ts.length ct) ts.length cr, .ro F (fun w' => Sl Kd.int w' (fun k => (ok k ∧ k < w.heap.size) ∨ F k) Af cf fs), .pt b5 [.int .i64 0, .slice none 0 0, .int .i64 0] 52, .pt b4 [.int .i64 0, .slice none 0 0, .int .i64 0] 52, .pt b3 [.int .i64 b.Depth, .slice Dt ts.length ct, .int .i64 b.Lost] 52, .pt b2 [.int .i64 a.Depth, .slice Af fs.length cf, .int .i64 a.Lost] 52]) _ [(2, .pointer (some ⟨b2, 0, none⟩)), (3, .pointer (some ⟨b3, 0, none⟩)), (4, .pointer (some ⟨b4, 0, none⟩)), (5, .pointer (some ⟨b5, 0, none⟩))] (.cons rfl (.cons rfl (.cons rfl (.cons rfl .nil)))) ⟨a.Values, A1, d1, (fun _ => False), b.Values, DR, kR, nR, rfl, rfl, rfl, rfl, rep_any hRR, hsp⟩ ?_
  rintro _ _ w7 ⟨fs, Af, cf, F, ts, Dt, ct, cr, rfl, rfl, hmv, hlen, hRt, hs7⟩
  refine s_seq ?_
  refine s_seq ?_
  refine s_region ?_
  refine l_r (r_field rfl fo52_1) rfl ?_
  refine l_r (r_load1p rfl hs7 (Repl.there (Repl.there (Repl.there (Repl.there (Repl.there Repl.here))))) ag22 rfl) rfl ?_
  refine l_r (r_len rfl el22) rfl ?_
  refine l_r (r_cmp rfl rfl rfl) rfl ?_
  refine l_r (r_move rfl) rfl ?_
  refine l_part (dj := 17) rfl (fun hc8 => ?_) (fun hc8 => ?_)
  ·
    have hc8p := of_decide_eq_true hc8
    obtain ⟨f, fs, rfl⟩ := List.exists_cons_of_length_pos (show 0 < fs.length by omega)
    refine l_on (dj := 17) rfl rfl rfl ?_
    refine l_r (r_field rfl fo52_1) rfl ?_
    refine l_on (dj := 17) rfl rfl rfl ?_
    refine l_r (r_load1p rfl hs7 (Repl.there (Repl.there (Repl.there (Repl.there Repl.here)))) ag22 rfl) rfl ?_
    refine l_on (dj := 17) rfl rfl rfl ?_
    refine l_r (r_len rfl el22) rfl ?_
    refine l_on (dj := 17) rfl rfl rfl ?_
    refine l_r (r_field rfl fo52_0) rfl ?_
    refine l_on (dj := 17) rfl rfl rfl ?_
    refine l_r (r_load1p rfl hs7 (Repl.there (Repl.there (Repl.there (Repl.there Repl.here)))) ag3 rfl) rfl ?_
    refine l_on (dj := 17) rfl rfl rfl ?_
    refine l_r (r_cmp rfl rfl rfl) rfl ?_
    refine l_r (r_pick_t rfl rfl) rfl ?_
    refine l_nil ?_
    refine s_part (dj := 24) rfl (fun hc9 => ?_) (fun hc9 => ?_)
    ·
      have hc9p := of_decide_eq_true hc9
      refine s_then rfl ?_
      refine s_skip ?_
      refine s_block ?_
      refine s_seq ?_
      refine s_region ?_
      refine l_r (r_loadNp rfl hs7 (Repl.there (Repl.there (Repl.there (Repl.there (Repl.there Repl.here))))) ag52 sz52) rfl ?_
      have hro := hs7.get (r := .ro F (fun w' => Sl Kd.int w' (fun k => (ok k ∧ k < w.heap.size) ∨ F k) Af cf (f :: fs))) (List.mem_cons_of_mem _ List.mem_cons_self)
      refine l_call rfl rfl fk46 rfl (reftake (dp := a.Depth) (lo := a.Lost) w7 hro (by simp at hlen; omega)) ?_
      rintro _ w10 ⟨_, nN, rfl, hRN, hc10⟩
      obtain ⟨Dn, kn, rfl, _⟩ := row_slice (hc10.get (r := .row _ _ _ _ _ _) List.mem_cons_self)
      have hs10 := hs7.call1 hc10
      refine ⟨_, rfl, ?_⟩
      refine l_r (r_move rfl) rfl ?_
      refine l_r (r_extract rfl rfl) rfl ?_
      refine l_r (r_extract rfl rfl) rfl ?_
      refine l_r (r_extract rfl rfl) rfl ?_
      refine l_alloc zz52 rfl hs10 ?_
      intro w11 b6 hb6 hx11 hs11
      refine l_storeAll rfl rfl sz52 (one_all rfl) (Nat.le_refl _) hs11 Repl.here rfl ?_
      intro w12 hz12 hk12 hs12
      refine l_r (r_assign rfl) rfl ?_
      refine l_r (r_assign rfl) rfl ?_
      refine l_nil ?_
      refine s_seq ?_
      refine s_region ?_
      refine l_r (r_loadNp rfl hs12 Repl.here ag52 sz52) rfl ?_
      refine l_storeAll rfl rfl sz52 (one_all rfl) (Nat.le_refl _) hs12 (Repl.there (Repl.there (Repl.there (Repl.there (Repl.there (Repl.there (Repl.there Repl.here))))))) rfl ?_
      intro w13 hz13 hk13 hs13
      refine l_nil ?_
      refine s_region ?_
      refine l_r (r_field rfl fo52_1) rfl ?_
      refine l_r (r_load1p rfl hs13 (Repl.there (Repl.there (Repl.there (Repl.there (Repl.there (Repl.there Repl.here)))))) ag22 rfl) rfl ?_
      refine l_r (r_move rfl) rfl ?_
      refine l_bsN (m := 1) Try.underlying22 sz3 (by rw [zz3]; rfl) rfl rfl (by
          intro v hv
          simp only [List.mem_cons, List.not_mem_nil, or_false] at hv
          subst hv
          rfl) rfl (by decide) rfl hs13 ?_
      intro w14 b35 hb35 hx14 hs14
      refine l_appendP (news := [.int .i64 f]) (base := 0) Try.underlying22 rw3 rfl rfl rfl rfl hs14 Repl.here rfl (one_all rfl) (by simp at hlen; omega) rfl (Nat.le_refl _) (Nat.zero_le _) (fun v' => (Repl.there (Repl.there (Repl.there Repl.here)))) rfl ?_
      intro v15 w15 hz15 hk15 hs15
      obtain ⟨D2, c2, rfl, _⟩ := row_slice (hs15.get (r := .row 0 3 1 v15 _ _) (List.mem_cons_of_mem _ (List.mem_cons_of_mem _ (List.mem_cons_of_mem _ List.mem_cons_self))))
      refine l_r (r_field rfl fo52_1) rfl ?_
      refine l_store1 rfl rfl rfl sz22 (Nat.le_refl _) hs15 (Repl.there (Repl.there (Repl.there (Repl.there (Repl.there (Repl.there (Repl.there Repl.here))))))) rfl ?_
      intro w16 hz16 hk16 hs16
      refine l_nil ?_
      refine s_mark ?_
      refine s_again ?_
      have hse := ((((((((((hs16.toFront 8 rfl).toFront 8 rfl).toFront 8 rfl).toFront 8 rfl).toFront 6 rfl).toFront 7 rfl).sub (List.sublist_append_left [_, _, _, _, _, _] _))).swap.hide (fun w' => Sl Kd.int w' (fun k => (ok k ∧ k < w.heap.size) ∨ (Value.slice Dn fs.length kn).ownBlock = some k) Dn kn fs) (fun w' h => row_sl (d := Kd.int) h hRN (fun k hk => .inr hk))).swap)
      rw [show ts.length + 1 = (ts ++ [f]).length by simp] at hse
      exact ⟨_, [(2, .pointer (some ⟨b2, 0, none⟩)), (3, .pointer (some ⟨b3, 0, none⟩)), (4, .pointer (some ⟨b4, 0, none⟩)), (5, .pointer (some ⟨b5, 0, none⟩))], by simp, (.cons rfl (.cons rfl (.cons rfl (.cons rfl .nil)))), ⟨fs, Dn, kn, _, (ts ++ [f]), D2, c2, (cr ++ [.int .i64 f]), rfl, rfl, by rw [← hmv, moveQ_step hc9p], by simp at hlen ⊢; omega, hRt.snoc (x := f) (cx := [.int .i64 f]) rfl, hse⟩⟩
    ·
      have hc9p := of_decide_eq_false hc9
      refine s_else rfl ?_
      refine s_exit rfl ?_
      refine s_seq ?_
      refine s_any (by kernel_rfl) (fun w' => w'.heap[b2]? = some (.cells ([.int .i64 a.Depth, .slice Af (f :: fs).length cf, .int .i64 a.Lost] : List Value).toArray 52 (0, 0)) ∧ w'.heap[b3]? = some (.cells ([.int .i64 b.Depth, .slice Dt ts.length ct, .int .i64 b.Lost] : List Value).toArray 52 (0, 0))) (fun L' w' => Sub [(4, .pointer (some ⟨b4, 0, none⟩)), (5, .pointer (some ⟨b5, 0, none⟩))] L' ∧ St w.heap.size w w' [.row 0 3 1 (.slice Dt ts.length ct) ts.length cr, .ro F (fun w' => Sl Kd.int w' (fun k => (ok k ∧ k < w.heap.size) ∨ F k) Af cf (f :: fs)), .pt b5 [.int .i64 b.Depth, .slice Dt ts.length ct, .int .i64 b.Lost] 52, .pt b4 [.int .i64 a.Depth, .slice Af (f :: fs).length cf, .int .i64 a.Lost] 52, .pt b3 [.int .i64 b.Depth, .slice Dt ts.length ct, .int .i64 b.Lost] 52, .pt b2 [.int .i64 a.Depth, .slice Af (f :: fs).length cf, .int .i64 a.Lost] 52]) ?_ ?_
      ·
        intro w17 hx17 hh17
        have hs17 := hs7.ext hx17
        refine wa_take 0 rfl (by kernel_rfl) (fun w' hw' => r_loadN rfl ag52 (heap_cells hw'.1 0) sz52) (⟨hs17.get (r := .pt b2 _ _) (List.mem_cons_of_mem _ (List.mem_cons_of_mem _ (List.mem_cons_of_mem _ (List.mem_cons_of_mem _ (List.mem_cons_of_mem _ List.mem_cons_self))))), hs17.get (r := .pt b3 _ _) (List.mem_cons_of_mem _ (List.mem_cons_of_mem _ (List.mem_cons_of_mem _ (List.mem_cons_of_mem _ List.mem_cons_self))))⟩) rfl ?_
        refine wa_take 1 rfl (by kernel_rfl) (fun w' hw' => r_loadN rfl ag52 (heap_cells hw'.2 0) sz52) (⟨hs17.get (r := .pt b2 _ _) (List.mem_cons_of_mem _ (List.mem_cons_of_mem _ (List.mem_cons_of_mem _ (List.mem_cons_of_mem _ (List.mem_cons_of_mem _ List.mem_cons_self))))), hs17.get (r := .pt b3 _ _) (List.mem_cons_of_mem _ (List.mem_cons_of_mem _ (List.mem_cons_of_mem _ (List.mem_cons_of_mem _ List.mem_cons_self))))⟩) rfl ?_
        refine wa_one [2] (by kernel_rfl) rfl ?_
        intro i hi
        simp only [List.mem_cons, List.not_mem_nil, or_false] at hi
        subst hi
        refine ⟨_, rfl, ?_⟩
        refine l_storeAll rfl rfl sz52 (one_all rfl) (Nat.le_refl _) hs17 (Repl.there (Repl.there (Repl.there Repl.here))) rfl ?_
        intro w18 hz18 hk18 hs18
        refine l_nil ⟨⟨hs18.get (r := .pt b2 _ _) (List.mem_cons_of_mem _ (List.mem_cons_of_mem _ (List.mem_cons_of_mem _ (List.mem_cons_of_mem _ (List.mem_cons_of_mem _ List.mem_cons_self))))), hs18.get (r := .pt b3 _ _) (List.mem_cons_of_mem _ (List.mem_cons_of_mem _ (List.mem_cons_of_mem _ (List.mem_cons_of_mem _ List.mem_cons_self))))⟩, ?_⟩
        refine wa_one [3] (by kernel_rfl) rfl ?_
        intro i hi
        simp only [List.mem_cons, List.not_mem_nil, or_false] at hi
        subst hi
        refine ⟨_, rfl, ?_⟩
        refine l_storeAll rfl rfl sz52 (one_all rfl) (Nat.le_refl _) hs18 (Repl.there (Repl.there Repl.here)) rfl ?_
        intro w19 hz19 hk19 hs19
        refine l_nil ⟨⟨hs19.get (r := .pt b2 _ _) (List.mem_cons_of_mem _ (List.mem_cons_of_mem _ (List.mem_cons_of_mem _ (List.mem_cons_of_mem _ (List.mem_cons_of_mem _ List.mem_cons_self))))), hs19.get (r := .pt b3 _ _) (List.mem_cons_of_mem _ (List.mem_cons_of_mem _ (List.mem_cons_of_mem _ (List.mem_cons_of_mem _ List.mem_cons_self))))⟩, ?_⟩
        exact wa_done (by kernel_rfl) ⟨(.cons rfl (.cons rfl .nil)), hs19⟩
      rintro _ w20 ⟨hsub, hs20⟩
      refine s_sub [(4, .pointer (some ⟨b4, 0, none⟩)), (5, .pointer (some ⟨b5, 0, none⟩))] hsub ?_
      refine s_ret ?_
      have hfin : moveQ a.Values b.Values b.Depth = ((f :: fs), ts) := hmv.symm.trans (moveQ_full hc9p)
      rw [hfin]
      have hro := hs20.get (r := .ro F (fun w' => Sl Kd.int w' (fun k => (ok k ∧ k < w.heap.size) ∨ F k) Af cf (f :: fs))) (List.mem_cons_of_mem _ List.mem_cons_self)
      have hrw := hs20.get (r := .row 0 3 1 _ ts.length cr) List.mem_cons_self
      have hdF := fun k hk => ((hs20.dom (.ro F (fun w' => Sl Kd.int w' (fun k => (ok k ∧ k < w.heap.size) ∨ F k) Af cf (f :: fs))) (List.mem_cons_of_mem _ List.mem_cons_self)) k hk).1
      have hdT := fun k hk => ((hs20.dom (.row 0 3 1 _ ts.length cr) List.mem_cons_self) k hk).1
      exact q_done (.inr rfl) (.cellN (cs := [.int .i64 a.Depth, .slice Af (f :: fs).length cf, .int .i64 a.Lost]) rfl ag52 sz52 (heap_cells (o := 0) (hs20.get (r := .pt b4 _ _) (List.mem_cons_of_mem _ (List.mem_cons_of_mem _ (List.mem_cons_of_mem _ List.mem_cons_self))))) (.cellN (cs := [.int .i64 b.Depth, .slice Dt ts.length ct, .int .i64 b.Lost]) rfl ag52 sz52 (heap_cells (o := 0) (hs20.get (r := .pt b5 _ _) (List.mem_cons_of_mem _ (List.mem_cons_of_mem _ List.mem_cons_self)))) .nil)) ⟨_, _, rfl, hs20.toExt, ⟨_, _, rfl, hro.mono (fun k hk _ => hk.elim (fun h => .inl h.1) (fun h => .inr (hdF k h))) (by decide)⟩, ⟨_, _, rfl, row_sl (d := Kd.int) (xs := ts) hrw hRt (fun k hk => hdT k hk)⟩⟩
  ·
    have hc8p := of_decide_eq_false hc8
    refine l_off (dj := 17) (b := false) rfl rfl rfl rfl rfl ?_
    refine l_off (dj := 17) (b := false) rfl rfl rfl rfl rfl ?_
    refine l_off (dj := 17) (b := false) rfl rfl rfl rfl rfl ?_
    refine l_off (dj := 17) (b := false) rfl rfl rfl rfl rfl ?_
    refine l_off (dj := 17) (b := false) rfl rfl rfl rfl rfl ?_
    refine l_off (dj := 17) (b := false) rfl rfl rfl rfl rfl ?_
    refine l_r (r_pick_f rfl rfl) rfl ?_
    refine l_nil ?_
    refine s_else rfl ?_
    refine s_exit rfl ?_
    refine s_seq ?_
    refine s_any (by kernel_rfl) (fun w' => w'.heap[b2]? = some (.cells ([.int .i64 a.Depth, .slice Af fs.length cf, .int .i64 a.Lost] : List Value).toArray 52 (0, 0)) ∧ w'.heap[b3]? = some (.cells ([.int .i64 b.Depth, .slice Dt ts.length ct, .int .i64 b.Lost] : List Value).toArray 52 (0, 0))) (fun L' w' => Sub [(4, .pointer (some ⟨b4, 0, none⟩)), (5, .pointer (some ⟨b5, 0, none⟩))] L' ∧ St w.heap.size w w' [.row 0 3 1 (.slice Dt ts.length ct) ts.length cr, .ro F (fun w' => Sl Kd.int w' (fun k => (ok k ∧ k < w.heap.size) ∨ F k) Af cf fs), .pt b5 [.int .i64 b.Depth, .slice Dt ts.length ct, .int .i64 b.Lost] 52, .pt b4 [.int .i64 a.Depth, .slice Af fs.length cf, .int .i64 a.Lost] 52, .pt b3 [.int .i64 b.Depth, .slice Dt ts.length ct, .int .i64 b.Lost] 52, .pt b2 [.int .i64 a.Depth, .slice Af fs.length cf, .int .i64 a.Lost] 52]) ?_ ?_
    ·
      intro w21 hx21 hh21
      have hs21 := hs7.ext hx21
      refine wa_take 0 rfl (by kernel_rfl) (fun w' hw' => r_loadN rfl ag52 (heap_cells hw'.1 0) sz52) (⟨hs21.get (r := .pt b2 _ _) (List.mem_cons_of_mem _ (List.mem_cons_of_mem _ (List.mem_cons_of_mem _ (List.mem_cons_of_mem _ (List.mem_cons_of_mem _ List.mem_cons_self))))), hs21.get (r := .pt b3 _ _) (List.mem_cons_of_mem _ (List.mem_cons_of_mem _ (List.mem_cons_of_mem _ (List.mem_cons_of_mem _ List.mem_cons_self))))⟩) rfl ?_
      refine wa_take 1 rfl (by kernel_rfl) (fun w' hw' => r_loadN rfl ag52 (heap_cells hw'.2 0) sz52) (⟨hs21.get (r := .pt b2 _ _) (List.mem_cons_of_mem _ (List.mem_cons_of_mem _ (List.mem_cons_of_mem _ (List.mem_cons_of_mem _ (List.mem_cons_of_mem _ List.mem_cons_self))))), hs21.get (r := .pt b3 _ _) (List.mem_cons_of_mem _ (List.mem_cons_of_mem _ (List.mem_cons_of_mem _ (List.mem_cons_of_mem _ List.mem_cons_self))))⟩) rfl ?_
      refine wa_one [2] (by kernel_rfl) rfl ?_
      intro i hi
      simp only [List.mem_cons, List.not_mem_nil, or_false] at hi
      subst hi
      refine ⟨_, rfl, ?_⟩
      refine l_storeAll rfl rfl sz52 (one_all rfl) (Nat.le_refl _) hs21 (Repl.there (Repl.there (Repl.there Repl.here))) rfl ?_
      intro w22 hz22 hk22 hs22
      refine l_nil ⟨⟨hs22.get (r := .pt b2 _ _) (List.mem_cons_of_mem _ (List.mem_cons_of_mem _ (List.mem_cons_of_mem _ (List.mem_cons_of_mem _ (List.mem_cons_of_mem _ List.mem_cons_self))))), hs22.get (r := .pt b3 _ _) (List.mem_cons_of_mem _ (List.mem_cons_of_mem _ (List.mem_cons_of_mem _ (List.mem_cons_of_mem _ List.mem_cons_self))))⟩, ?_⟩
      refine wa_one [3] (by kernel_rfl) rfl ?_
      intro i hi
      simp only [List.mem_cons, List.not_mem_nil, or_false] at hi
      subst hi
      refine ⟨_, rfl, ?_⟩
      refine l_storeAll rfl rfl sz52 (one_all rfl) (Nat.le_refl _) hs22 (Repl.there (Repl.there Repl.here)) rfl ?_
      intro w23 hz23 hk23 hs23
      refine l_nil ⟨⟨hs23.get (r := .pt b2 _ _) (List.mem_cons_of_mem _ (List.mem_cons_of_mem _ (List.mem_cons_of_mem _ (List.mem_cons_of_mem _ (List.mem_cons_of_mem _ List.mem_cons_self))))), hs23.get (r := .pt b3 _ _) (List.mem_cons_of_mem _ (List.mem_cons_of_mem _ (List.mem_cons_of_mem _ (List.mem_cons_of_mem _ List.mem_cons_self))))⟩, ?_⟩
      exact wa_done (by kernel_rfl) ⟨(.cons rfl (.cons rfl .nil)), hs23⟩
    rintro _ w24 ⟨hsub, hs24⟩
    refine s_sub [(4, .pointer (some ⟨b4, 0, none⟩)), (5, .pointer (some ⟨b5, 0, none⟩))] hsub ?_
    refine s_ret ?_
    have hfin : moveQ a.Values b.Values b.Depth = (fs, ts) := hmv.symm.trans (by rw [show fs = [] from List.eq_nil_of_length_eq_zero (by omega)]; rfl)
    rw [hfin]
    have hro := hs24.get (r := .ro F (fun w' => Sl Kd.int w' (fun k => (ok k ∧ k < w.heap.size) ∨ F k) Af cf fs)) (List.mem_cons_of_mem _ List.mem_cons_self)
    have hrw := hs24.get (r := .row 0 3 1 _ ts.length cr) List.mem_cons_self
    have hdF := fun k hk => ((hs24.dom (.ro F (fun w' => Sl Kd.int w' (fun k => (ok k ∧ k < w.heap.size) ∨ F k) Af cf fs)) (List.mem_cons_of_mem _ List.mem_cons_self)) k hk).1
    have hdT := fun k hk => ((hs24.dom (.row 0 3 1 _ ts.length cr) List.mem_cons_self) k hk).1
    exact q_done (.inr rfl) (.cellN (cs := [.int .i64 a.Depth, .slice Af fs.length cf, .int .i64 a.Lost]) rfl ag52 sz52 (heap_cells (o := 0) (hs24.get (r := .pt b4 _ _) (List.mem_cons_of_mem _ (List.mem_cons_of_mem _ (List.mem_cons_of_mem _ List.mem_cons_self))))) (.cellN (cs := [.int .i64 b.Depth, .slice Dt ts.length ct, .int .i64 b.Lost]) rfl ag52 sz52 (heap_cells (o := 0) (hs24.get (r := .pt b5 _ _) (List.mem_cons_of_mem _ (List.mem_cons_of_mem _ List.mem_cons_self)))) .nil)) ⟨_, _, rfl, hs24.toExt, ⟨_, _, rfl, hro.mono (fun k hk _ => hk.elim (fun h => .inl h.1) (fun h => .inr (hdF k h))) (by decide)⟩, ⟨_, _, rfl, row_sl (d := Kd.int) (xs := ts) hrw hRt (fun k hk => hdT k hk)⟩⟩

end Go.Proofs.Ytfhghnhgcdiknaa
