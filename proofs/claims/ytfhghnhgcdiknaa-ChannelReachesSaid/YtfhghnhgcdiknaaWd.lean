/- A partition once more. -/
import Derived.Test.YtfhghnhgcdiknaaWc
namespace Go.Proofs.Ytfhghnhgcdiknaa
open Go.RowKit
def PartSmall (p : TPart) : Prop := p.Memory.length ≤ 100000000 ∧ p.Procs.length ≤ 100000000 ∧ p.Boards.length ≤ 100000000 ∧ p.Buffers.length ≤ 100000000 ∧ p.Semas.length ≤ 100000000 ∧ p.Events.length ≤ 100000000 ∧ p.Samples.length ≤ 100000000 ∧ p.Queues.length ≤ 100000000 ∧ p.Latch.Lines.length ≤ 100000000 ∧ p.Given.length ≤ 100000000 ∧ (∀ x ∈ p.Boards, x.L.length ≤ 100000000) ∧ (∀ x ∈ p.Buffers, x.Values.length ≤ 100000000 ∧ x.L.length ≤ 100000000) ∧ (∀ x ∈ p.Semas, x.L.length ≤ 100000000) ∧ (∀ x ∈ p.Events, x.L.length ≤ 100000000) ∧ (∀ x ∈ p.Queues, x.Values.length ≤ 100000000)
/-- A partition's cells, of which all but the ports' rows lies in blocks of F. -/
def OwnPart (w : World) (F : Nat → Prop) (p : TPart) (cs : List Value) (vS vQ : Value) (csQ : List Value) : Prop :=
  ∃ A3 c3 A4 c4 A5 c5 A6 c6 A7 c7 A8 c8 A12 c12 A14 c14, cs = [.int .i64 p.Mode, .int .i64 p.Begun, .int .i64 p.Next, .slice A3 p.Memory.length c3, .slice A4 p.Procs.length c4, .slice A5 p.Boards.length c5, .slice A6 p.Buffers.length c6, .slice A7 p.Semas.length c7, .slice A8 p.Events.length c8, vS, vQ, .int .i64 p.Latch.Depth, .slice A12 p.Latch.Lines.length c12, .int .i64 p.Latch.Dropped, .slice A14 p.Given.length c14] ∧ Sl Kd.int w F A3 c3 p.Memory ∧ Sl Kd.proc w F A4 c4 p.Procs ∧ Sl Kd.board w F A5 c5 p.Boards ∧ Sl Kd.buffer w F A6 c6 p.Buffers ∧ Sl Kd.sema w F A7 c7 p.Semas ∧ Sl Kd.event w F A8 c8 p.Events ∧ Sl Kd.int w F A12 c12 p.Latch.Lines ∧ Sl Kd.int w F A14 c14 p.Given ∧ Reps Kd.queue w F p.Queues csQ

set_option maxRecDepth 100000 in
theorem waits_any {p : TPart} {ps : List Value} (w : World) {ok : Nat → Prop} (hK : Kd.part.K w ok p ps) (hb : PartSmall p) :
    Calls Try.prog 40 #[.agg ps.toArray, .func (.func 41) #[] #[]] w (fun e w' => ∃ (cs : List Value) (vS vQ : Value) (csS csQ : List Value) (F : Nat → Prop), e = .returned (.agg cs.toArray) ∧ Reps Kd.sample w (fun _ => True) p.Samples csS ∧ St 0 w w' [.row 0 56 3 vS p.Samples.length csS, .row 0 52 3 vQ p.Queues.length csQ, .ro F (fun w' => OwnPart w' F p cs vS vQ csQ)]) := by
  refine q_call (n := 52) (args := [.agg ps.toArray, .func (.func 41) #[] #[]]) Try.func40 rfl rfl rfl ?_
  obtain ⟨A3, c3, A4, c4, A5, c5, A6, c6, A7, c7, A8, c8, A9, c9, A10, c10, A12, c12, A14, c14, rfl, hl3, hl4, hl5, hl6, hl7, hl8, hl9, hl10, hl12, hl14⟩ := hK
  obtain ⟨hn3, hn4, hn5, hn6, hn7, hn8, hn9, hn10, hn12, hn14, hbb5, hbb6, hbb7, hbb8, hbb10⟩ := hb
  have hs0 := St.refl 0 w
  refine s_seq ?_
  refine s_region ?_
  refine l_box rfl rfl rfl hs0 ?_
  intro w1 b2 hb2 hx1 hs1
  refine l_box rfl rfl rfl hs1 ?_
  intro w2 b3 hb3 hx2 hs2
  refine l_alloc zz48 rfl hs2 ?_
  intro w3 b4 hb4 hx3 hs3
  refine l_nil ?_
  refine s_seq ?_
  refine s_region ?_
  refine l_r (r_field rfl fo48_5) rfl ?_
  refine l_r (r_load1p rfl hs3 (Repl.there (Repl.there Repl.here)) ag39 rfl) rfl ?_
  refine l_r (r_makefunc rfl rfl) rfl ?_
  refine l_call rfl rfl fk67 rfl (each67 (f := 68) (cap := [.pointer (some ⟨b3, 0, none⟩)]) w3 fk68 (hl5.on (by decide) hs3) hn5 (do68_ok hbb5 (heap_cell (hs3.get (r := .pt b3 _ _) (List.mem_cons_of_mem _ List.mem_cons_self)) rfl))) ?_
  rintro _ w4 ⟨_, cn5, F5, rfl, hc4⟩
  obtain ⟨D5, e5, rfl, _⟩ := row_slice (hc4.get (r := .row _ _ _ _ _ _) List.mem_cons_self)
  have hs4 := hs3.call hc4
  refine ⟨_, rfl, ?_⟩
  refine l_r (r_field rfl fo48_5) rfl ?_
  refine l_store1 rfl rfl rfl sz39 (Nat.zero_le _) hs4 (Repl.there (Repl.there (Repl.there (Repl.there Repl.here)))) rfl ?_
  intro w5 hz5 hk5 hs5
  refine l_nil ?_
  refine s_seq ?_
  refine s_region ?_
  refine l_r (r_field rfl fo48_6) rfl ?_
  refine l_r (r_load1p rfl hs5 (Repl.there (Repl.there (Repl.there (Repl.there Repl.here)))) ag40 rfl) rfl ?_
  refine l_r (r_makefunc rfl rfl) rfl ?_
  refine l_call rfl rfl fk69 rfl (each69 (f := 70) (cap := [.pointer (some ⟨b3, 0, none⟩)]) w5 fk70 (hl6.on (by decide) hs5) hn6 (do70_ok hbb6 (heap_cell (hs5.get (r := .pt b3 _ _) (List.mem_cons_of_mem _ (List.mem_cons_of_mem _ (List.mem_cons_of_mem _ List.mem_cons_self)))) rfl))) ?_
  rintro _ w6 ⟨_, cn6, F6, rfl, hc6⟩
  obtain ⟨D6, e6, rfl, _⟩ := row_slice (hc6.get (r := .row _ _ _ _ _ _) List.mem_cons_self)
  have hs6 := hs5.call hc6
  refine ⟨_, rfl, ?_⟩
  refine l_r (r_field rfl fo48_6) rfl ?_
  refine l_store1 rfl rfl rfl sz40 (Nat.zero_le _) hs6 (Repl.there (Repl.there (Repl.there (Repl.there (Repl.there (Repl.there Repl.here)))))) rfl ?_
  intro w7 hz7 hk7 hs7
  refine l_nil ?_
  refine s_seq ?_
  refine s_region ?_
  refine l_r (r_field rfl fo48_7) rfl ?_
  refine l_r (r_load1p rfl hs7 (Repl.there (Repl.there (Repl.there (Repl.there (Repl.there (Repl.there Repl.here)))))) ag41 rfl) rfl ?_
  refine l_r (r_makefunc rfl rfl) rfl ?_
  refine l_call rfl rfl fk72 rfl (each72 (f := 73) (cap := [.pointer (some ⟨b3, 0, none⟩)]) w7 fk73 (hl7.on (by decide) hs7) hn7 (do73_ok hbb7 (heap_cell (hs7.get (r := .pt b3 _ _) (List.mem_cons_of_mem _ (List.mem_cons_of_mem _ (List.mem_cons_of_mem _ (List.mem_cons_of_mem _ (List.mem_cons_of_mem _ List.mem_cons_self)))))) rfl))) ?_
  rintro _ w8 ⟨_, cn7, F7, rfl, hc8⟩
  obtain ⟨D7, e7, rfl, _⟩ := row_slice (hc8.get (r := .row _ _ _ _ _ _) List.mem_cons_self)
  have hs8 := hs7.call hc8
  refine ⟨_, rfl, ?_⟩
  refine l_r (r_field rfl fo48_7) rfl ?_
  refine l_store1 rfl rfl rfl sz41 (Nat.zero_le _) hs8 (Repl.there (Repl.there (Repl.there (Repl.there (Repl.there (Repl.there (Repl.there (Repl.there Repl.here)))))))) rfl ?_
  intro w9 hz9 hk9 hs9
  refine l_nil ?_
  refine s_seq ?_
  refine s_region ?_
  refine l_r (r_field rfl fo48_8) rfl ?_
  refine l_r (r_load1p rfl hs9 (Repl.there (Repl.there (Repl.there (Repl.there (Repl.there (Repl.there (Repl.there (Repl.there Repl.here)))))))) ag42 rfl) rfl ?_
  refine l_r (r_makefunc rfl rfl) rfl ?_
  refine l_call rfl rfl fk74 rfl (each74 (f := 75) (cap := [.pointer (some ⟨b3, 0, none⟩)]) w9 fk75 (hl8.on (by decide) hs9) hn8 (do75_ok hbb8 (heap_cell (hs9.get (r := .pt b3 _ _) (List.mem_cons_of_mem _ (List.mem_cons_of_mem _ (List.mem_cons_of_mem _ (List.mem_cons_of_mem _ (List.mem_cons_of_mem _ (List.mem_cons_of_mem _ (List.mem_cons_of_mem _ List.mem_cons_self)))))))) rfl))) ?_
  rintro _ w10 ⟨_, cn8, F8, rfl, hc10⟩
  obtain ⟨D8, e8, rfl, _⟩ := row_slice (hc10.get (r := .row _ _ _ _ _ _) List.mem_cons_self)
  have hs10 := hs9.call hc10
  refine ⟨_, rfl, ?_⟩
  refine l_r (r_field rfl fo48_8) rfl ?_
  refine l_store1 rfl rfl rfl sz42 (Nat.zero_le _) hs10 (Repl.there (Repl.there (Repl.there (Repl.there (Repl.there (Repl.there (Repl.there (Repl.there (Repl.there (Repl.there Repl.here)))))))))) rfl ?_
  intro w11 hz11 hk11 hs11
  refine l_nil ?_
  refine s_seq ?_
  refine s_region ?_
  refine l_r (r_field rfl fo48_10) rfl ?_
  refine l_r (r_load1p rfl hs11 (Repl.there (Repl.there (Repl.there (Repl.there (Repl.there (Repl.there (Repl.there (Repl.there (Repl.there (Repl.there Repl.here)))))))))) ag44 rfl) rfl ?_
  refine l_call rfl rfl fk76 rfl (each76 (f := 77) (cap := []) w11 fk77 (hl10.on (by decide) hs11) hn10 (do77_ok hbb10)) ?_
  rintro _ w12 ⟨_, cn10, F10, rfl, hc12⟩
  obtain ⟨D10, e10, rfl, _⟩ := row_slice (hc12.get (r := .row _ _ _ _ _ _) List.mem_cons_self)
  have hs12 := hs11.call hc12
  refine ⟨_, rfl, ?_⟩
  refine l_r (r_field rfl fo48_10) rfl ?_
  refine l_store1 rfl rfl rfl sz44 (Nat.zero_le _) hs12 (Repl.there (Repl.there (Repl.there (Repl.there (Repl.there (Repl.there (Repl.there (Repl.there (Repl.there (Repl.there (Repl.there (Repl.there Repl.here)))))))))))) rfl ?_
  intro w13 hz13 hk13 hs13
  refine l_nil ?_
  refine s_seq ?_
  refine s_any (by kernel_rfl) (fun _ => True) (fun L' w' => ∃ (cn4 cn9 : List Value) (D4 D9 : Option Addr) (e4 e9 : Nat), Sub [(2, .pointer (some ⟨b2, 0, none⟩)), (4, .pointer (some ⟨b4, 0, none⟩))] L' ∧ Reps Kd.proc w (fun _ => True) p.Procs cn4 ∧ Reps Kd.sample w (fun _ => True) p.Samples cn9 ∧ St 0 w w' [.row 0 56 3 (.slice D9 p.Samples.length e9) p.Samples.length cn9, .row 0 81 18 (.slice D4 p.Procs.length e4) p.Procs.length cn4, .row 0 52 3 (.slice D10 p.Queues.length e10) p.Queues.length cn10, .ro F10 (fun w' => Reps Kd.queue w' F10 p.Queues cn10), .row 0 97 2 (.slice D8 p.Events.length e8) p.Events.length cn8, .ro F8 (fun w' => Reps Kd.event w' F8 p.Events cn8), .row 0 95 4 (.slice D7 p.Semas.length e7) p.Semas.length cn7, .ro F7 (fun w' => Reps Kd.sema w' F7 p.Semas cn7), .row 0 93 4 (.slice D6 p.Buffers.length e6) p.Buffers.length cn6, .ro F6 (fun w' => Reps Kd.buffer w' F6 p.Buffers cn6), .row 0 91 3 (.slice D5 p.Boards.length e5) p.Boards.length cn5, .ro F5 (fun w' => Reps Kd.board w' F5 p.Boards cn5), .pt b4 [.int .i64 0, .int .i64 0, .int .i64 0, .slice none 0 0, .slice none 0 0, .slice none 0 0, .slice none 0 0, .slice none 0 0, .slice none 0 0, .slice none 0 0, .slice none 0 0, .int .i64 0, .slice none 0 0, .int .i64 0, .slice none 0 0] 48, .pt b3 [.func (.func 41) #[] #[]] 100, .pt b2 [.int .i64 p.Mode, .int .i64 p.Begun, .int .i64 p.Next, .slice A3 p.Memory.length c3, .slice D4 p.Procs.length e4, .slice D5 p.Boards.length e5, .slice D6 p.Buffers.length e6, .slice D7 p.Semas.length e7, .slice D8 p.Events.length e8, .slice D9 p.Samples.length e9, .slice D10 p.Queues.length e10, .int .i64 p.Latch.Depth, .slice A12 p.Latch.Lines.length c12, .int .i64 p.Latch.Dropped, .slice A14 p.Given.length c14] 48]) ?_ ?_
  ·
    intro w14 hx14 hh14
    have hs14 := hs13.ext hx14
    refine wa_take 0 rfl (by kernel_rfl) (fun w' hw' => r_field rfl fo48_4) (trivial) rfl ?_
    refine wa_take 3 rfl (by kernel_rfl) (fun w' hw' => r_field rfl fo48_9) (trivial) rfl ?_
    refine wa_one [1, 4] (by kernel_rfl) rfl ?_
    intro i hi
    simp only [List.mem_cons, List.not_mem_nil, or_false] at hi
    rcases hi with rfl | rfl
    ·
      refine ⟨_, rfl, ?_⟩
      refine l_r (r_load1p rfl hs14 (Repl.there (Repl.there (Repl.there (Repl.there (Repl.there (Repl.there (Repl.there (Repl.there (Repl.there (Repl.there (Repl.there (Repl.there Repl.here)))))))))))) ag38 rfl) rfl ?_
      refine l_nil ⟨trivial, ?_⟩
      refine wa_one [2, 4] (by kernel_rfl) rfl ?_
      intro i hi
      simp only [List.mem_cons, List.not_mem_nil, or_false] at hi
      rcases hi with rfl | rfl
      ·
        refine ⟨_, rfl, ?_⟩
        refine l_call rfl rfl fk78 rfl (clone78 w14 (hl4.on (by decide) hs14) hn4) ?_
        rintro _ w15 ⟨_, cn4, rfl, hR4, hc15⟩
        obtain ⟨D4, e4, rfl, _⟩ := row_slice (hc15.get (r := .row _ _ _ _ _ _) List.mem_cons_self)
        have hs15 := hs14.call1 hc15
        refine ⟨_, rfl, ?_⟩
        refine l_nil ⟨trivial, ?_⟩
        refine wa_one [4] (by kernel_rfl) rfl ?_
        intro i hi
        simp only [List.mem_cons, List.not_mem_nil, or_false] at hi
        subst hi
        refine ⟨_, rfl, ?_⟩
        refine l_r (r_load1p rfl hs15 (Repl.there (Repl.there (Repl.there (Repl.there (Repl.there (Repl.there (Repl.there (Repl.there (Repl.there (Repl.there (Repl.there (Repl.there (Repl.there Repl.here))))))))))))) ag43 rfl) rfl ?_
        refine l_nil ⟨trivial, ?_⟩
        refine wa_take 6 rfl (by kernel_rfl) (fun w' hw' => r_field rfl fo48_4) (trivial) rfl ?_
        refine wa_one [5] (by kernel_rfl) rfl ?_
        intro i hi
        simp only [List.mem_cons, List.not_mem_nil, or_false] at hi
        subst hi
        refine ⟨_, rfl, ?_⟩
        refine l_call rfl rfl fk79 rfl (clone79 w15 (hl9.on (by decide) hs15) hn9) ?_
        rintro _ w16 ⟨_, cn9, rfl, hR9, hc16⟩
        obtain ⟨D9, e9, rfl, _⟩ := row_slice (hc16.get (r := .row _ _ _ _ _ _) List.mem_cons_self)
        have hs16 := hs15.call1 hc16
        refine ⟨_, rfl, ?_⟩
        refine l_nil ⟨trivial, ?_⟩
        refine wa_one [7] (by kernel_rfl) rfl ?_
        intro i hi
        simp only [List.mem_cons, List.not_mem_nil, or_false] at hi
        subst hi
        refine ⟨_, rfl, ?_⟩
        refine l_store1 rfl rfl rfl sz38 (Nat.zero_le _) hs16 (Repl.there (Repl.there (Repl.there (Repl.there (Repl.there (Repl.there (Repl.there (Repl.there (Repl.there (Repl.there (Repl.there (Repl.there (Repl.there (Repl.there Repl.here)))))))))))))) rfl ?_
        intro w17 hz17 hk17 hs17
        refine l_nil ⟨trivial, ?_⟩
        refine wa_take 8 rfl (by kernel_rfl) (fun w' hw' => r_field rfl fo48_9) (trivial) rfl ?_
        refine wa_one [9] (by kernel_rfl) rfl ?_
        intro i hi
        simp only [List.mem_cons, List.not_mem_nil, or_false] at hi
        subst hi
        refine ⟨_, rfl, ?_⟩
        refine l_store1 rfl rfl rfl sz43 (Nat.zero_le _) hs17 (Repl.there (Repl.there (Repl.there (Repl.there (Repl.there (Repl.there (Repl.there (Repl.there (Repl.there (Repl.there (Repl.there (Repl.there (Repl.there (Repl.there Repl.here)))))))))))))) rfl ?_
        intro w18 hz18 hk18 hs18
        refine l_nil ⟨trivial, ?_⟩
        exact wa_done (by kernel_rfl) ⟨_, _, _, _, _, _, (.cons rfl (.cons rfl .nil)), rep_any hR4, rep_any hR9, hs18⟩
      ·
        refine ⟨_, rfl, ?_⟩
        refine l_r (r_load1p rfl hs14 (Repl.there (Repl.there (Repl.there (Repl.there (Repl.there (Repl.there (Repl.there (Repl.there (Repl.there (Repl.there (Repl.there (Repl.there Repl.here)))))))))))) ag43 rfl) rfl ?_
        refine l_nil ⟨trivial, ?_⟩
        refine wa_one [2] (by kernel_rfl) rfl ?_
        intro i hi
        simp only [List.mem_cons, List.not_mem_nil, or_false] at hi
        subst hi
        refine ⟨_, rfl, ?_⟩
        refine l_call rfl rfl fk78 rfl (clone78 w14 (hl4.on (by decide) hs14) hn4) ?_
        rintro _ w19 ⟨_, cn4, rfl, hR4, hc19⟩
        obtain ⟨D4, e4, rfl, _⟩ := row_slice (hc19.get (r := .row _ _ _ _ _ _) List.mem_cons_self)
        have hs19 := hs14.call1 hc19
        refine ⟨_, rfl, ?_⟩
        refine l_nil ⟨trivial, ?_⟩
        refine wa_take 6 rfl (by kernel_rfl) (fun w' hw' => r_field rfl fo48_4) (trivial) rfl ?_
        refine wa_one [5] (by kernel_rfl) rfl ?_
        intro i hi
        simp only [List.mem_cons, List.not_mem_nil, or_false] at hi
        subst hi
        refine ⟨_, rfl, ?_⟩
        refine l_call rfl rfl fk79 rfl (clone79 w19 (hl9.on (by decide) hs19) hn9) ?_
        rintro _ w20 ⟨_, cn9, rfl, hR9, hc20⟩
        obtain ⟨D9, e9, rfl, _⟩ := row_slice (hc20.get (r := .row _ _ _ _ _ _) List.mem_cons_self)
        have hs20 := hs19.call1 hc20
        refine ⟨_, rfl, ?_⟩
        refine l_nil ⟨trivial, ?_⟩
        refine wa_one [7] (by kernel_rfl) rfl ?_
        intro i hi
        simp only [List.mem_cons, List.not_mem_nil, or_false] at hi
        subst hi
        refine ⟨_, rfl, ?_⟩
        refine l_store1 rfl rfl rfl sz38 (Nat.zero_le _) hs20 (Repl.there (Repl.there (Repl.there (Repl.there (Repl.there (Repl.there (Repl.there (Repl.there (Repl.there (Repl.there (Repl.there (Repl.there (Repl.there (Repl.there Repl.here)))))))))))))) rfl ?_
        intro w21 hz21 hk21 hs21
        refine l_nil ⟨trivial, ?_⟩
        refine wa_take 8 rfl (by kernel_rfl) (fun w' hw' => r_field rfl fo48_9) (trivial) rfl ?_
        refine wa_one [9] (by kernel_rfl) rfl ?_
        intro i hi
        simp only [List.mem_cons, List.not_mem_nil, or_false] at hi
        subst hi
        refine ⟨_, rfl, ?_⟩
        refine l_store1 rfl rfl rfl sz43 (Nat.zero_le _) hs21 (Repl.there (Repl.there (Repl.there (Repl.there (Repl.there (Repl.there (Repl.there (Repl.there (Repl.there (Repl.there (Repl.there (Repl.there (Repl.there (Repl.there Repl.here)))))))))))))) rfl ?_
        intro w22 hz22 hk22 hs22
        refine l_nil ⟨trivial, ?_⟩
        exact wa_done (by kernel_rfl) ⟨_, _, _, _, _, _, (.cons rfl (.cons rfl .nil)), rep_any hR4, rep_any hR9, hs22⟩
    ·
      refine ⟨_, rfl, ?_⟩
      refine l_r (r_load1p rfl hs14 (Repl.there (Repl.there (Repl.there (Repl.there (Repl.there (Repl.there (Repl.there (Repl.there (Repl.there (Repl.there (Repl.there (Repl.there Repl.here)))))))))))) ag43 rfl) rfl ?_
      refine l_nil ⟨trivial, ?_⟩
      refine wa_one [1] (by kernel_rfl) rfl ?_
      intro i hi
      simp only [List.mem_cons, List.not_mem_nil, or_false] at hi
      subst hi
      refine ⟨_, rfl, ?_⟩
      refine l_r (r_load1p rfl hs14 (Repl.there (Repl.there (Repl.there (Repl.there (Repl.there (Repl.there (Repl.there (Repl.there (Repl.there (Repl.there (Repl.there (Repl.there Repl.here)))))))))))) ag38 rfl) rfl ?_
      refine l_nil ⟨trivial, ?_⟩
      refine wa_one [2] (by kernel_rfl) rfl ?_
      intro i hi
      simp only [List.mem_cons, List.not_mem_nil, or_false] at hi
      subst hi
      refine ⟨_, rfl, ?_⟩
      refine l_call rfl rfl fk78 rfl (clone78 w14 (hl4.on (by decide) hs14) hn4) ?_
      rintro _ w23 ⟨_, cn4, rfl, hR4, hc23⟩
      obtain ⟨D4, e4, rfl, _⟩ := row_slice (hc23.get (r := .row _ _ _ _ _ _) List.mem_cons_self)
      have hs23 := hs14.call1 hc23
      refine ⟨_, rfl, ?_⟩
      refine l_nil ⟨trivial, ?_⟩
      refine wa_take 6 rfl (by kernel_rfl) (fun w' hw' => r_field rfl fo48_4) (trivial) rfl ?_
      refine wa_one [5] (by kernel_rfl) rfl ?_
      intro i hi
      simp only [List.mem_cons, List.not_mem_nil, or_false] at hi
      subst hi
      refine ⟨_, rfl, ?_⟩
      refine l_call rfl rfl fk79 rfl (clone79 w23 (hl9.on (by decide) hs23) hn9) ?_
      rintro _ w24 ⟨_, cn9, rfl, hR9, hc24⟩
      obtain ⟨D9, e9, rfl, _⟩ := row_slice (hc24.get (r := .row _ _ _ _ _ _) List.mem_cons_self)
      have hs24 := hs23.call1 hc24
      refine ⟨_, rfl, ?_⟩
      refine l_nil ⟨trivial, ?_⟩
      refine wa_one [7] (by kernel_rfl) rfl ?_
      intro i hi
      simp only [List.mem_cons, List.not_mem_nil, or_false] at hi
      subst hi
      refine ⟨_, rfl, ?_⟩
      refine l_store1 rfl rfl rfl sz38 (Nat.zero_le _) hs24 (Repl.there (Repl.there (Repl.there (Repl.there (Repl.there (Repl.there (Repl.there (Repl.there (Repl.there (Repl.there (Repl.there (Repl.there (Repl.there (Repl.there Repl.here)))))))))))))) rfl ?_
      intro w25 hz25 hk25 hs25
      refine l_nil ⟨trivial, ?_⟩
      refine wa_take 8 rfl (by kernel_rfl) (fun w' hw' => r_field rfl fo48_9) (trivial) rfl ?_
      refine wa_one [9] (by kernel_rfl) rfl ?_
      intro i hi
      simp only [List.mem_cons, List.not_mem_nil, or_false] at hi
      subst hi
      refine ⟨_, rfl, ?_⟩
      refine l_store1 rfl rfl rfl sz43 (Nat.zero_le _) hs25 (Repl.there (Repl.there (Repl.there (Repl.there (Repl.there (Repl.there (Repl.there (Repl.there (Repl.there (Repl.there (Repl.there (Repl.there (Repl.there (Repl.there Repl.here)))))))))))))) rfl ?_
      intro w26 hz26 hk26 hs26
      refine l_nil ⟨trivial, ?_⟩
      exact wa_done (by kernel_rfl) ⟨_, _, _, _, _, _, (.cons rfl (.cons rfl .nil)), rep_any hR4, rep_any hR9, hs26⟩
  rintro _ w27 ⟨cn4, cn9, D4, D9, e4, e9, hsub, hR4, hR9, hs27⟩
  refine s_sub [(2, .pointer (some ⟨b2, 0, none⟩)), (4, .pointer (some ⟨b4, 0, none⟩))] hsub ?_
  refine s_seq ?_
  refine s_any (by kernel_rfl) (fun _ => True) (fun L' w' => ∃ (cn3 cn14 cn12 : List Value) (D3 D14 D12 : Option Addr) (e3 e14 e12 : Nat), Sub [(2, .pointer (some ⟨b2, 0, none⟩)), (4, .pointer (some ⟨b4, 0, none⟩))] L' ∧ Reps Kd.int w (fun _ => True) p.Memory cn3 ∧ Reps Kd.int w (fun _ => True) p.Given cn14 ∧ Reps Kd.int w (fun _ => True) p.Latch.Lines cn12 ∧ St 0 w w' [.row 0 3 1 (.slice D12 p.Latch.Lines.length e12) p.Latch.Lines.length cn12, .row 0 3 1 (.slice D14 p.Given.length e14) p.Given.length cn14, .row 0 3 1 (.slice D3 p.Memory.length e3) p.Memory.length cn3, .row 0 56 3 (.slice D9 p.Samples.length e9) p.Samples.length cn9, .row 0 81 18 (.slice D4 p.Procs.length e4) p.Procs.length cn4, .row 0 52 3 (.slice D10 p.Queues.length e10) p.Queues.length cn10, .ro F10 (fun w' => Reps Kd.queue w' F10 p.Queues cn10), .row 0 97 2 (.slice D8 p.Events.length e8) p.Events.length cn8, .ro F8 (fun w' => Reps Kd.event w' F8 p.Events cn8), .row 0 95 4 (.slice D7 p.Semas.length e7) p.Semas.length cn7, .ro F7 (fun w' => Reps Kd.sema w' F7 p.Semas cn7), .row 0 93 4 (.slice D6 p.Buffers.length e6) p.Buffers.length cn6, .ro F6 (fun w' => Reps Kd.buffer w' F6 p.Buffers cn6), .row 0 91 3 (.slice D5 p.Boards.length e5) p.Boards.length cn5, .ro F5 (fun w' => Reps Kd.board w' F5 p.Boards cn5), .pt b4 [.int .i64 0, .int .i64 0, .int .i64 0, .slice none 0 0, .slice none 0 0, .slice none 0 0, .slice none 0 0, .slice none 0 0, .slice none 0 0, .slice none 0 0, .slice none 0 0, .int .i64 0, .slice none 0 0, .int .i64 0, .slice none 0 0] 48, .pt b3 [.func (.func 41) #[] #[]] 100, .pt b2 [.int .i64 p.Mode, .int .i64 p.Begun, .int .i64 p.Next, .slice D3 p.Memory.length e3, .slice D4 p.Procs.length e4, .slice D5 p.Boards.length e5, .slice D6 p.Buffers.length e6, .slice D7 p.Semas.length e7, .slice D8 p.Events.length e8, .slice D9 p.Samples.length e9, .slice D10 p.Queues.length e10, .int .i64 p.Latch.Depth, .slice D12 p.Latch.Lines.length e12, .int .i64 p.Latch.Dropped, .slice D14 p.Given.length e14] 48]) ?_ ?_
  ·
    intro w28 hx28 hh28
    have hs28 := hs27.ext hx28
    refine wa_take 0 rfl (by kernel_rfl) (fun w' hw' => r_field rfl fo48_3) (trivial) rfl ?_
    refine wa_take 3 rfl (by kernel_rfl) (fun w' hw' => r_field rfl fo48_12) (trivial) rfl ?_
    refine wa_take 6 rfl (by kernel_rfl) (fun w' hw' => r_field rfl fo48_11) (trivial) rfl ?_
    refine wa_take 7 rfl (by kernel_rfl) (fun w' hw' => r_field rfl fo46_1) (trivial) rfl ?_
    refine wa_one [1, 4, 8] (by kernel_rfl) rfl ?_
    intro i hi
    simp only [List.mem_cons, List.not_mem_nil, or_false] at hi
    rcases hi with rfl | rfl | rfl
    ·
      refine ⟨_, rfl, ?_⟩
      refine l_r (r_load1p rfl hs28 (Repl.there (Repl.there (Repl.there (Repl.there (Repl.there (Repl.there (Repl.there (Repl.there (Repl.there (Repl.there (Repl.there (Repl.there (Repl.there (Repl.there Repl.here)))))))))))))) ag22 rfl) rfl ?_
      refine l_nil ⟨trivial, ?_⟩
      refine wa_one [2, 4, 8] (by kernel_rfl) rfl ?_
      intro i hi
      simp only [List.mem_cons, List.not_mem_nil, or_false] at hi
      rcases hi with rfl | rfl | rfl
      ·
        refine ⟨_, rfl, ?_⟩
        refine l_call rfl rfl fk71 rfl (clone71 w28 (hl3.on (by decide) hs28) hn3) ?_
        rintro _ w29 ⟨_, cn3, rfl, hR3, hc29⟩
        obtain ⟨D3, e3, rfl, _⟩ := row_slice (hc29.get (r := .row _ _ _ _ _ _) List.mem_cons_self)
        have hs29 := hs28.call1 hc29
        refine ⟨_, rfl, ?_⟩
        refine l_nil ⟨trivial, ?_⟩
        refine wa_one [4, 8] (by kernel_rfl) rfl ?_
        intro i hi
        simp only [List.mem_cons, List.not_mem_nil, or_false] at hi
        rcases hi with rfl | rfl
        ·
          refine ⟨_, rfl, ?_⟩
          refine l_r (r_load1p rfl hs29 (Repl.there (Repl.there (Repl.there (Repl.there (Repl.there (Repl.there (Repl.there (Repl.there (Repl.there (Repl.there (Repl.there (Repl.there (Repl.there (Repl.there (Repl.there Repl.here))))))))))))))) ag22 rfl) rfl ?_
          refine l_nil ⟨trivial, ?_⟩
          refine wa_one [5, 8] (by kernel_rfl) rfl ?_
          intro i hi
          simp only [List.mem_cons, List.not_mem_nil, or_false] at hi
          rcases hi with rfl | rfl
          ·
            refine ⟨_, rfl, ?_⟩
            refine l_call rfl rfl fk71 rfl (clone71 w29 (hl14.on (by decide) hs29) hn14) ?_
            rintro _ w30 ⟨_, cn14, rfl, hR14, hc30⟩
            obtain ⟨D14, e14, rfl, _⟩ := row_slice (hc30.get (r := .row _ _ _ _ _ _) List.mem_cons_self)
            have hs30 := hs29.call1 hc30
            refine ⟨_, rfl, ?_⟩
            refine l_nil ⟨trivial, ?_⟩
            refine wa_one [8] (by kernel_rfl) rfl ?_
            intro i hi
            simp only [List.mem_cons, List.not_mem_nil, or_false] at hi
            subst hi
            refine ⟨_, rfl, ?_⟩
            refine l_r (r_load1p rfl hs30 (Repl.there (Repl.there (Repl.there (Repl.there (Repl.there (Repl.there (Repl.there (Repl.there (Repl.there (Repl.there (Repl.there (Repl.there (Repl.there (Repl.there (Repl.there (Repl.there Repl.here)))))))))))))))) ag22 rfl) rfl ?_
            refine l_nil ⟨trivial, ?_⟩
            refine wa_take 10 rfl (by kernel_rfl) (fun w' hw' => r_field rfl fo48_3) (trivial) rfl ?_
            refine wa_one [9] (by kernel_rfl) rfl ?_
            intro i hi
            simp only [List.mem_cons, List.not_mem_nil, or_false] at hi
            subst hi
            refine ⟨_, rfl, ?_⟩
            refine l_call rfl rfl fk71 rfl (clone71 w30 (hl12.on (by decide) hs30) hn12) ?_
            rintro _ w31 ⟨_, cn12, rfl, hR12, hc31⟩
            obtain ⟨D12, e12, rfl, _⟩ := row_slice (hc31.get (r := .row _ _ _ _ _ _) List.mem_cons_self)
            have hs31 := hs30.call1 hc31
            refine ⟨_, rfl, ?_⟩
            refine l_nil ⟨trivial, ?_⟩
            refine wa_one [11] (by kernel_rfl) rfl ?_
            intro i hi
            simp only [List.mem_cons, List.not_mem_nil, or_false] at hi
            subst hi
            refine ⟨_, rfl, ?_⟩
            refine l_store1 rfl rfl rfl sz22 (Nat.zero_le _) hs31 (Repl.there (Repl.there (Repl.there (Repl.there (Repl.there (Repl.there (Repl.there (Repl.there (Repl.there (Repl.there (Repl.there (Repl.there (Repl.there (Repl.there (Repl.there (Repl.there (Repl.there Repl.here))))))))))))))))) rfl ?_
            intro w32 hz32 hk32 hs32
            refine l_nil ⟨trivial, ?_⟩
            refine wa_take 12 rfl (by kernel_rfl) (fun w' hw' => r_field rfl fo48_12) (trivial) rfl ?_
            refine wa_one [13] (by kernel_rfl) rfl ?_
            intro i hi
            simp only [List.mem_cons, List.not_mem_nil, or_false] at hi
            subst hi
            refine ⟨_, rfl, ?_⟩
            refine l_store1 rfl rfl rfl sz22 (Nat.zero_le _) hs32 (Repl.there (Repl.there (Repl.there (Repl.there (Repl.there (Repl.there (Repl.there (Repl.there (Repl.there (Repl.there (Repl.there (Repl.there (Repl.there (Repl.there (Repl.there (Repl.there (Repl.there Repl.here))))))))))))))))) rfl ?_
            intro w33 hz33 hk33 hs33
            refine l_nil ⟨trivial, ?_⟩
            refine wa_take 14 rfl (by kernel_rfl) (fun w' hw' => r_field rfl fo48_11) (trivial) rfl ?_
            refine wa_take 15 rfl (by kernel_rfl) (fun w' hw' => r_field rfl fo46_1) (trivial) rfl ?_
            refine wa_one [16] (by kernel_rfl) rfl ?_
            intro i hi
            simp only [List.mem_cons, List.not_mem_nil, or_false] at hi
            subst hi
            refine ⟨_, rfl, ?_⟩
            refine l_store1 rfl rfl rfl sz22 (Nat.zero_le _) hs33 (Repl.there (Repl.there (Repl.there (Repl.there (Repl.there (Repl.there (Repl.there (Repl.there (Repl.there (Repl.there (Repl.there (Repl.there (Repl.there (Repl.there (Repl.there (Repl.there (Repl.there Repl.here))))))))))))))))) rfl ?_
            intro w34 hz34 hk34 hs34
            refine l_nil ⟨trivial, ?_⟩
            exact wa_done (by kernel_rfl) ⟨_, _, _, _, _, _, _, _, _, (.cons rfl (.cons rfl .nil)), rep_any hR3, rep_any hR14, rep_any hR12, hs34⟩
          ·
            refine ⟨_, rfl, ?_⟩
            refine l_r (r_load1p rfl hs29 (Repl.there (Repl.there (Repl.there (Repl.there (Repl.there (Repl.there (Repl.there (Repl.there (Repl.there (Repl.there (Repl.there (Repl.there (Repl.there (Repl.there (Repl.there Repl.here))))))))))))))) ag22 rfl) rfl ?_
            refine l_nil ⟨trivial, ?_⟩
            refine wa_take 10 rfl (by kernel_rfl) (fun w' hw' => r_field rfl fo48_3) (trivial) rfl ?_
            refine wa_one [5] (by kernel_rfl) rfl ?_
            intro i hi
            simp only [List.mem_cons, List.not_mem_nil, or_false] at hi
            subst hi
            refine ⟨_, rfl, ?_⟩
            refine l_call rfl rfl fk71 rfl (clone71 w29 (hl14.on (by decide) hs29) hn14) ?_
            rintro _ w35 ⟨_, cn14, rfl, hR14, hc35⟩
            obtain ⟨D14, e14, rfl, _⟩ := row_slice (hc35.get (r := .row _ _ _ _ _ _) List.mem_cons_self)
            have hs35 := hs29.call1 hc35
            refine ⟨_, rfl, ?_⟩
            refine l_nil ⟨trivial, ?_⟩
            refine wa_one [9] (by kernel_rfl) rfl ?_
            intro i hi
            simp only [List.mem_cons, List.not_mem_nil, or_false] at hi
            subst hi
            refine ⟨_, rfl, ?_⟩
            refine l_call rfl rfl fk71 rfl (clone71 w35 (hl12.on (by decide) hs35) hn12) ?_
            rintro _ w36 ⟨_, cn12, rfl, hR12, hc36⟩
            obtain ⟨D12, e12, rfl, _⟩ := row_slice (hc36.get (r := .row _ _ _ _ _ _) List.mem_cons_self)
            have hs36 := hs35.call1 hc36
            refine ⟨_, rfl, ?_⟩
            refine l_nil ⟨trivial, ?_⟩
            refine wa_one [11] (by kernel_rfl) rfl ?_
            intro i hi
            simp only [List.mem_cons, List.not_mem_nil, or_false] at hi
            subst hi
            refine ⟨_, rfl, ?_⟩
            refine l_store1 rfl rfl rfl sz22 (Nat.zero_le _) hs36 (Repl.there (Repl.there (Repl.there (Repl.there (Repl.there (Repl.there (Repl.there (Repl.there (Repl.there (Repl.there (Repl.there (Repl.there (Repl.there (Repl.there (Repl.there (Repl.there (Repl.there Repl.here))))))))))))))))) rfl ?_
            intro w37 hz37 hk37 hs37
            refine l_nil ⟨trivial, ?_⟩
            refine wa_take 12 rfl (by kernel_rfl) (fun w' hw' => r_field rfl fo48_12) (trivial) rfl ?_
            refine wa_one [13] (by kernel_rfl) rfl ?_
            intro i hi
            simp only [List.mem_cons, List.not_mem_nil, or_false] at hi
            subst hi
            refine ⟨_, rfl, ?_⟩
            refine l_store1 rfl rfl rfl sz22 (Nat.zero_le _) hs37 (Repl.there (Repl.there (Repl.there (Repl.there (Repl.there (Repl.there (Repl.there (Repl.there (Repl.there (Repl.there (Repl.there (Repl.there (Repl.there (Repl.there (Repl.there (Repl.there (Repl.there Repl.here))))))))))))))))) rfl ?_
            intro w38 hz38 hk38 hs38
            refine l_nil ⟨trivial, ?_⟩
            refine wa_take 14 rfl (by kernel_rfl) (fun w' hw' => r_field rfl fo48_11) (trivial) rfl ?_
            refine wa_take 15 rfl (by kernel_rfl) (fun w' hw' => r_field rfl fo46_1) (trivial) rfl ?_
            refine wa_one [16] (by kernel_rfl) rfl ?_
            intro i hi
            simp only [List.mem_cons, List.not_mem_nil, or_false] at hi
            subst hi
            refine ⟨_, rfl, ?_⟩
            refine l_store1 rfl rfl rfl sz22 (Nat.zero_le _) hs38 (Repl.there (Repl.there (Repl.there (Repl.there (Repl.there (Repl.there (Repl.there (Repl.there (Repl.there (Repl.there (Repl.there (Repl.there (Repl.there (Repl.there (Repl.there (Repl.there (Repl.there Repl.here))))))))))))))))) rfl ?_
            intro w39 hz39 hk39 hs39
            refine l_nil ⟨trivial, ?_⟩
            exact wa_done (by kernel_rfl) ⟨_, _, _, _, _, _, _, _, _, (.cons rfl (.cons rfl .nil)), rep_any hR3, rep_any hR14, rep_any hR12, hs39⟩
        ·
          refine ⟨_, rfl, ?_⟩
          refine l_r (r_load1p rfl hs29 (Repl.there (Repl.there (Repl.there (Repl.there (Repl.there (Repl.there (Repl.there (Repl.there (Repl.there (Repl.there (Repl.there (Repl.there (Repl.there (Repl.there (Repl.there Repl.here))))))))))))))) ag22 rfl) rfl ?_
          refine l_nil ⟨trivial, ?_⟩
          refine wa_one [4] (by kernel_rfl) rfl ?_
          intro i hi
          simp only [List.mem_cons, List.not_mem_nil, or_false] at hi
          subst hi
          refine ⟨_, rfl, ?_⟩
          refine l_r (r_load1p rfl hs29 (Repl.there (Repl.there (Repl.there (Repl.there (Repl.there (Repl.there (Repl.there (Repl.there (Repl.there (Repl.there (Repl.there (Repl.there (Repl.there (Repl.there (Repl.there Repl.here))))))))))))))) ag22 rfl) rfl ?_
          refine l_nil ⟨trivial, ?_⟩
          refine wa_take 10 rfl (by kernel_rfl) (fun w' hw' => r_field rfl fo48_3) (trivial) rfl ?_
          refine wa_one [5] (by kernel_rfl) rfl ?_
          intro i hi
          simp only [List.mem_cons, List.not_mem_nil, or_false] at hi
          subst hi
          refine ⟨_, rfl, ?_⟩
          refine l_call rfl rfl fk71 rfl (clone71 w29 (hl14.on (by decide) hs29) hn14) ?_
          rintro _ w40 ⟨_, cn14, rfl, hR14, hc40⟩
          obtain ⟨D14, e14, rfl, _⟩ := row_slice (hc40.get (r := .row _ _ _ _ _ _) List.mem_cons_self)
          have hs40 := hs29.call1 hc40
          refine ⟨_, rfl, ?_⟩
          refine l_nil ⟨trivial, ?_⟩
          refine wa_one [9] (by kernel_rfl) rfl ?_
          intro i hi
          simp only [List.mem_cons, List.not_mem_nil, or_false] at hi
          subst hi
          refine ⟨_, rfl, ?_⟩
          refine l_call rfl rfl fk71 rfl (clone71 w40 (hl12.on (by decide) hs40) hn12) ?_
          rintro _ w41 ⟨_, cn12, rfl, hR12, hc41⟩
          obtain ⟨D12, e12, rfl, _⟩ := row_slice (hc41.get (r := .row _ _ _ _ _ _) List.mem_cons_self)
          have hs41 := hs40.call1 hc41
          refine ⟨_, rfl, ?_⟩
          refine l_nil ⟨trivial, ?_⟩
          refine wa_one [11] (by kernel_rfl) rfl ?_
          intro i hi
          simp only [List.mem_cons, List.not_mem_nil, or_false] at hi
          subst hi
          refine ⟨_, rfl, ?_⟩
          refine l_store1 rfl rfl rfl sz22 (Nat.zero_le _) hs41 (Repl.there (Repl.there (Repl.there (Repl.there (Repl.there (Repl.there (Repl.there (Repl.there (Repl.there (Repl.there (Repl.there (Repl.there (Repl.there (Repl.there (Repl.there (Repl.there (Repl.there Repl.here))))))))))))))))) rfl ?_
          intro w42 hz42 hk42 hs42
          refine l_nil ⟨trivial, ?_⟩
          refine wa_take 12 rfl (by kernel_rfl) (fun w' hw' => r_field rfl fo48_12) (trivial) rfl ?_
          refine wa_one [13] (by kernel_rfl) rfl ?_
          intro i hi
          simp only [List.mem_cons, List.not_mem_nil, or_false] at hi
          subst hi
          refine ⟨_, rfl, ?_⟩
          refine l_store1 rfl rfl rfl sz22 (Nat.zero_le _) hs42 (Repl.there (Repl.there (Repl.there (Repl.there (Repl.there (Repl.there (Repl.there (Repl.there (Repl.there (Repl.there (Repl.there (Repl.there (Repl.there (Repl.there (Repl.there (Repl.there (Repl.there Repl.here))))))))))))))))) rfl ?_
          intro w43 hz43 hk43 hs43
          refine l_nil ⟨trivial, ?_⟩
          refine wa_take 14 rfl (by kernel_rfl) (fun w' hw' => r_field rfl fo48_11) (trivial) rfl ?_
          refine wa_take 15 rfl (by kernel_rfl) (fun w' hw' => r_field rfl fo46_1) (trivial) rfl ?_
          refine wa_one [16] (by kernel_rfl) rfl ?_
          intro i hi
          simp only [List.mem_cons, List.not_mem_nil, or_false] at hi
          subst hi
          refine ⟨_, rfl, ?_⟩
          refine l_store1 rfl rfl rfl sz22 (Nat.zero_le _) hs43 (Repl.there (Repl.there (Repl.there (Repl.there (Repl.there (Repl.there (Repl.there (Repl.there (Repl.there (Repl.there (Repl.there (Repl.there (Repl.there (Repl.there (Repl.there (Repl.there (Repl.there Repl.here))))))))))))))))) rfl ?_
          intro w44 hz44 hk44 hs44
          refine l_nil ⟨trivial, ?_⟩
          exact wa_done (by kernel_rfl) ⟨_, _, _, _, _, _, _, _, _, (.cons rfl (.cons rfl .nil)), rep_any hR3, rep_any hR14, rep_any hR12, hs44⟩
      ·
        refine ⟨_, rfl, ?_⟩
        refine l_r (r_load1p rfl hs28 (Repl.there (Repl.there (Repl.there (Repl.there (Repl.there (Repl.there (Repl.there (Repl.there (Repl.there (Repl.there (Repl.there (Repl.there (Repl.there (Repl.there Repl.here)))))))))))))) ag22 rfl) rfl ?_
        refine l_nil ⟨trivial, ?_⟩
        refine wa_one [2, 8] (by kernel_rfl) rfl ?_
        intro i hi
        simp only [List.mem_cons, List.not_mem_nil, or_false] at hi
        rcases hi with rfl | rfl
        ·
          refine ⟨_, rfl, ?_⟩
          refine l_call rfl rfl fk71 rfl (clone71 w28 (hl3.on (by decide) hs28) hn3) ?_
          rintro _ w45 ⟨_, cn3, rfl, hR3, hc45⟩
          obtain ⟨D3, e3, rfl, _⟩ := row_slice (hc45.get (r := .row _ _ _ _ _ _) List.mem_cons_self)
          have hs45 := hs28.call1 hc45
          refine ⟨_, rfl, ?_⟩
          refine l_nil ⟨trivial, ?_⟩
          refine wa_one [5, 8] (by kernel_rfl) rfl ?_
          intro i hi
          simp only [List.mem_cons, List.not_mem_nil, or_false] at hi
          rcases hi with rfl | rfl
          ·
            refine ⟨_, rfl, ?_⟩
            refine l_call rfl rfl fk71 rfl (clone71 w45 (hl14.on (by decide) hs45) hn14) ?_
            rintro _ w46 ⟨_, cn14, rfl, hR14, hc46⟩
            obtain ⟨D14, e14, rfl, _⟩ := row_slice (hc46.get (r := .row _ _ _ _ _ _) List.mem_cons_self)
            have hs46 := hs45.call1 hc46
            refine ⟨_, rfl, ?_⟩
            refine l_nil ⟨trivial, ?_⟩
            refine wa_one [8] (by kernel_rfl) rfl ?_
            intro i hi
            simp only [List.mem_cons, List.not_mem_nil, or_false] at hi
            subst hi
            refine ⟨_, rfl, ?_⟩
            refine l_r (r_load1p rfl hs46 (Repl.there (Repl.there (Repl.there (Repl.there (Repl.there (Repl.there (Repl.there (Repl.there (Repl.there (Repl.there (Repl.there (Repl.there (Repl.there (Repl.there (Repl.there (Repl.there Repl.here)))))))))))))))) ag22 rfl) rfl ?_
            refine l_nil ⟨trivial, ?_⟩
            refine wa_take 10 rfl (by kernel_rfl) (fun w' hw' => r_field rfl fo48_3) (trivial) rfl ?_
            refine wa_one [9] (by kernel_rfl) rfl ?_
            intro i hi
            simp only [List.mem_cons, List.not_mem_nil, or_false] at hi
            subst hi
            refine ⟨_, rfl, ?_⟩
            refine l_call rfl rfl fk71 rfl (clone71 w46 (hl12.on (by decide) hs46) hn12) ?_
            rintro _ w47 ⟨_, cn12, rfl, hR12, hc47⟩
            obtain ⟨D12, e12, rfl, _⟩ := row_slice (hc47.get (r := .row _ _ _ _ _ _) List.mem_cons_self)
            have hs47 := hs46.call1 hc47
            refine ⟨_, rfl, ?_⟩
            refine l_nil ⟨trivial, ?_⟩
            refine wa_one [11] (by kernel_rfl) rfl ?_
            intro i hi
            simp only [List.mem_cons, List.not_mem_nil, or_false] at hi
            subst hi
            refine ⟨_, rfl, ?_⟩
            refine l_store1 rfl rfl rfl sz22 (Nat.zero_le _) hs47 (Repl.there (Repl.there (Repl.there (Repl.there (Repl.there (Repl.there (Repl.there (Repl.there (Repl.there (Repl.there (Repl.there (Repl.there (Repl.there (Repl.there (Repl.there (Repl.there (Repl.there Repl.here))))))))))))))))) rfl ?_
            intro w48 hz48 hk48 hs48
            refine l_nil ⟨trivial, ?_⟩
            refine wa_take 12 rfl (by kernel_rfl) (fun w' hw' => r_field rfl fo48_12) (trivial) rfl ?_
            refine wa_one [13] (by kernel_rfl) rfl ?_
            intro i hi
            simp only [List.mem_cons, List.not_mem_nil, or_false] at hi
            subst hi
            refine ⟨_, rfl, ?_⟩
            refine l_store1 rfl rfl rfl sz22 (Nat.zero_le _) hs48 (Repl.there (Repl.there (Repl.there (Repl.there (Repl.there (Repl.there (Repl.there (Repl.there (Repl.there (Repl.there (Repl.there (Repl.there (Repl.there (Repl.there (Repl.there (Repl.there (Repl.there Repl.here))))))))))))))))) rfl ?_
            intro w49 hz49 hk49 hs49
            refine l_nil ⟨trivial, ?_⟩
            refine wa_take 14 rfl (by kernel_rfl) (fun w' hw' => r_field rfl fo48_11) (trivial) rfl ?_
            refine wa_take 15 rfl (by kernel_rfl) (fun w' hw' => r_field rfl fo46_1) (trivial) rfl ?_
            refine wa_one [16] (by kernel_rfl) rfl ?_
            intro i hi
            simp only [List.mem_cons, List.not_mem_nil, or_false] at hi
            subst hi
            refine ⟨_, rfl, ?_⟩
            refine l_store1 rfl rfl rfl sz22 (Nat.zero_le _) hs49 (Repl.there (Repl.there (Repl.there (Repl.there (Repl.there (Repl.there (Repl.there (Repl.there (Repl.there (Repl.there (Repl.there (Repl.there (Repl.there (Repl.there (Repl.there (Repl.there (Repl.there Repl.here))))))))))))))))) rfl ?_
            intro w50 hz50 hk50 hs50
            refine l_nil ⟨trivial, ?_⟩
            exact wa_done (by kernel_rfl) ⟨_, _, _, _, _, _, _, _, _, (.cons rfl (.cons rfl .nil)), rep_any hR3, rep_any hR14, rep_any hR12, hs50⟩
          ·
            refine ⟨_, rfl, ?_⟩
            refine l_r (r_load1p rfl hs45 (Repl.there (Repl.there (Repl.there (Repl.there (Repl.there (Repl.there (Repl.there (Repl.there (Repl.there (Repl.there (Repl.there (Repl.there (Repl.there (Repl.there (Repl.there Repl.here))))))))))))))) ag22 rfl) rfl ?_
            refine l_nil ⟨trivial, ?_⟩
            refine wa_take 10 rfl (by kernel_rfl) (fun w' hw' => r_field rfl fo48_3) (trivial) rfl ?_
            refine wa_one [5] (by kernel_rfl) rfl ?_
            intro i hi
            simp only [List.mem_cons, List.not_mem_nil, or_false] at hi
            subst hi
            refine ⟨_, rfl, ?_⟩
            refine l_call rfl rfl fk71 rfl (clone71 w45 (hl14.on (by decide) hs45) hn14) ?_
            rintro _ w51 ⟨_, cn14, rfl, hR14, hc51⟩
            obtain ⟨D14, e14, rfl, _⟩ := row_slice (hc51.get (r := .row _ _ _ _ _ _) List.mem_cons_self)
            have hs51 := hs45.call1 hc51
            refine ⟨_, rfl, ?_⟩
            refine l_nil ⟨trivial, ?_⟩
            refine wa_one [9] (by kernel_rfl) rfl ?_
            intro i hi
            simp only [List.mem_cons, List.not_mem_nil, or_false] at hi
            subst hi
            refine ⟨_, rfl, ?_⟩
            refine l_call rfl rfl fk71 rfl (clone71 w51 (hl12.on (by decide) hs51) hn12) ?_
            rintro _ w52 ⟨_, cn12, rfl, hR12, hc52⟩
            obtain ⟨D12, e12, rfl, _⟩ := row_slice (hc52.get (r := .row _ _ _ _ _ _) List.mem_cons_self)
            have hs52 := hs51.call1 hc52
            refine ⟨_, rfl, ?_⟩
            refine l_nil ⟨trivial, ?_⟩
            refine wa_one [11] (by kernel_rfl) rfl ?_
            intro i hi
            simp only [List.mem_cons, List.not_mem_nil, or_false] at hi
            subst hi
            refine ⟨_, rfl, ?_⟩
            refine l_store1 rfl rfl rfl sz22 (Nat.zero_le _) hs52 (Repl.there (Repl.there (Repl.there (Repl.there (Repl.there (Repl.there (Repl.there (Repl.there (Repl.there (Repl.there (Repl.there (Repl.there (Repl.there (Repl.there (Repl.there (Repl.there (Repl.there Repl.here))))))))))))))))) rfl ?_
            intro w53 hz53 hk53 hs53
            refine l_nil ⟨trivial, ?_⟩
            refine wa_take 12 rfl (by kernel_rfl) (fun w' hw' => r_field rfl fo48_12) (trivial) rfl ?_
            refine wa_one [13] (by kernel_rfl) rfl ?_
            intro i hi
            simp only [List.mem_cons, List.not_mem_nil, or_false] at hi
            subst hi
            refine ⟨_, rfl, ?_⟩
            refine l_store1 rfl rfl rfl sz22 (Nat.zero_le _) hs53 (Repl.there (Repl.there (Repl.there (Repl.there (Repl.there (Repl.there (Repl.there (Repl.there (Repl.there (Repl.there (Repl.there (Repl.there (Repl.there (Repl.there (Repl.there (Repl.there (Repl.there Repl.here))))))))))))))))) rfl ?_
            intro w54 hz54 hk54 hs54
            refine l_nil ⟨trivial, ?_⟩
            refine wa_take 14 rfl (by kernel_rfl) (fun w' hw' => r_field rfl fo48_11) (trivial) rfl ?_
            refine wa_take 15 rfl (by kernel_rfl) (fun w' hw' => r_field rfl fo46_1) (trivial) rfl ?_
            refine wa_one [16] (by kernel_rfl) rfl ?_
            intro i hi
            simp only [List.mem_cons, List.not_mem_nil, or_false] at hi
            subst hi
            refine ⟨_, rfl, ?_⟩
            refine l_store1 rfl rfl rfl sz22 (Nat.zero_le _) hs54 (Repl.there (Repl.there (Repl.there (Repl.there (Repl.there (Repl.there (Repl.there (Repl.there (Repl.there (Repl.there (Repl.there (Repl.there (Repl.there (Repl.there (Repl.there (Repl.there (Repl.there Repl.here))))))))))))))))) rfl ?_
            intro w55 hz55 hk55 hs55
            refine l_nil ⟨trivial, ?_⟩
            exact wa_done (by kernel_rfl) ⟨_, _, _, _, _, _, _, _, _, (.cons rfl (.cons rfl .nil)), rep_any hR3, rep_any hR14, rep_any hR12, hs55⟩
        ·
          refine ⟨_, rfl, ?_⟩
          refine l_r (r_load1p rfl hs28 (Repl.there (Repl.there (Repl.there (Repl.there (Repl.there (Repl.there (Repl.there (Repl.there (Repl.there (Repl.there (Repl.there (Repl.there (Repl.there (Repl.there Repl.here)))))))))))))) ag22 rfl) rfl ?_
          refine l_nil ⟨trivial, ?_⟩
          refine wa_one [2] (by kernel_rfl) rfl ?_
          intro i hi
          simp only [List.mem_cons, List.not_mem_nil, or_false] at hi
          subst hi
          refine ⟨_, rfl, ?_⟩
          refine l_call rfl rfl fk71 rfl (clone71 w28 (hl3.on (by decide) hs28) hn3) ?_
          rintro _ w56 ⟨_, cn3, rfl, hR3, hc56⟩
          obtain ⟨D3, e3, rfl, _⟩ := row_slice (hc56.get (r := .row _ _ _ _ _ _) List.mem_cons_self)
          have hs56 := hs28.call1 hc56
          refine ⟨_, rfl, ?_⟩
          refine l_nil ⟨trivial, ?_⟩
          refine wa_take 10 rfl (by kernel_rfl) (fun w' hw' => r_field rfl fo48_3) (trivial) rfl ?_
          refine wa_one [5] (by kernel_rfl) rfl ?_
          intro i hi
          simp only [List.mem_cons, List.not_mem_nil, or_false] at hi
          subst hi
          refine ⟨_, rfl, ?_⟩
          refine l_call rfl rfl fk71 rfl (clone71 w56 (hl14.on (by decide) hs56) hn14) ?_
          rintro _ w57 ⟨_, cn14, rfl, hR14, hc57⟩
          obtain ⟨D14, e14, rfl, _⟩ := row_slice (hc57.get (r := .row _ _ _ _ _ _) List.mem_cons_self)
          have hs57 := hs56.call1 hc57
          refine ⟨_, rfl, ?_⟩
          refine l_nil ⟨trivial, ?_⟩
          refine wa_one [9] (by kernel_rfl) rfl ?_
          intro i hi
          simp only [List.mem_cons, List.not_mem_nil, or_false] at hi
          subst hi
          refine ⟨_, rfl, ?_⟩
          refine l_call rfl rfl fk71 rfl (clone71 w57 (hl12.on (by decide) hs57) hn12) ?_
          rintro _ w58 ⟨_, cn12, rfl, hR12, hc58⟩
          obtain ⟨D12, e12, rfl, _⟩ := row_slice (hc58.get (r := .row _ _ _ _ _ _) List.mem_cons_self)
          have hs58 := hs57.call1 hc58
          refine ⟨_, rfl, ?_⟩
          refine l_nil ⟨trivial, ?_⟩
          refine wa_one [11] (by kernel_rfl) rfl ?_
          intro i hi
          simp only [List.mem_cons, List.not_mem_nil, or_false] at hi
          subst hi
          refine ⟨_, rfl, ?_⟩
          refine l_store1 rfl rfl rfl sz22 (Nat.zero_le _) hs58 (Repl.there (Repl.there (Repl.there (Repl.there (Repl.there (Repl.there (Repl.there (Repl.there (Repl.there (Repl.there (Repl.there (Repl.there (Repl.there (Repl.there (Repl.there (Repl.there (Repl.there Repl.here))))))))))))))))) rfl ?_
          intro w59 hz59 hk59 hs59
          refine l_nil ⟨trivial, ?_⟩
          refine wa_take 12 rfl (by kernel_rfl) (fun w' hw' => r_field rfl fo48_12) (trivial) rfl ?_
          refine wa_one [13] (by kernel_rfl) rfl ?_
          intro i hi
          simp only [List.mem_cons, List.not_mem_nil, or_false] at hi
          subst hi
          refine ⟨_, rfl, ?_⟩
          refine l_store1 rfl rfl rfl sz22 (Nat.zero_le _) hs59 (Repl.there (Repl.there (Repl.there (Repl.there (Repl.there (Repl.there (Repl.there (Repl.there (Repl.there (Repl.there (Repl.there (Repl.there (Repl.there (Repl.there (Repl.there (Repl.there (Repl.there Repl.here))))))))))))))))) rfl ?_
          intro w60 hz60 hk60 hs60
          refine l_nil ⟨trivial, ?_⟩
          refine wa_take 14 rfl (by kernel_rfl) (fun w' hw' => r_field rfl fo48_11) (trivial) rfl ?_
          refine wa_take 15 rfl (by kernel_rfl) (fun w' hw' => r_field rfl fo46_1) (trivial) rfl ?_
          refine wa_one [16] (by kernel_rfl) rfl ?_
          intro i hi
          simp only [List.mem_cons, List.not_mem_nil, or_false] at hi
          subst hi
          refine ⟨_, rfl, ?_⟩
          refine l_store1 rfl rfl rfl sz22 (Nat.zero_le _) hs60 (Repl.there (Repl.there (Repl.there (Repl.there (Repl.there (Repl.there (Repl.there (Repl.there (Repl.there (Repl.there (Repl.there (Repl.there (Repl.there (Repl.there (Repl.there (Repl.there (Repl.there Repl.here))))))))))))))))) rfl ?_
          intro w61 hz61 hk61 hs61
          refine l_nil ⟨trivial, ?_⟩
          exact wa_done (by kernel_rfl) ⟨_, _, _, _, _, _, _, _, _, (.cons rfl (.cons rfl .nil)), rep_any hR3, rep_any hR14, rep_any hR12, hs61⟩
      ·
        refine ⟨_, rfl, ?_⟩
        refine l_r (r_load1p rfl hs28 (Repl.there (Repl.there (Repl.there (Repl.there (Repl.there (Repl.there (Repl.there (Repl.there (Repl.there (Repl.there (Repl.there (Repl.there (Repl.there (Repl.there Repl.here)))))))))))))) ag22 rfl) rfl ?_
        refine l_nil ⟨trivial, ?_⟩
        refine wa_one [2, 4] (by kernel_rfl) rfl ?_
        intro i hi
        simp only [List.mem_cons, List.not_mem_nil, or_false] at hi
        rcases hi with rfl | rfl
        ·
          refine ⟨_, rfl, ?_⟩
          refine l_call rfl rfl fk71 rfl (clone71 w28 (hl3.on (by decide) hs28) hn3) ?_
          rintro _ w62 ⟨_, cn3, rfl, hR3, hc62⟩
          obtain ⟨D3, e3, rfl, _⟩ := row_slice (hc62.get (r := .row _ _ _ _ _ _) List.mem_cons_self)
          have hs62 := hs28.call1 hc62
          refine ⟨_, rfl, ?_⟩
          refine l_nil ⟨trivial, ?_⟩
          refine wa_one [4] (by kernel_rfl) rfl ?_
          intro i hi
          simp only [List.mem_cons, List.not_mem_nil, or_false] at hi
          subst hi
          refine ⟨_, rfl, ?_⟩
          refine l_r (r_load1p rfl hs62 (Repl.there (Repl.there (Repl.there (Repl.there (Repl.there (Repl.there (Repl.there (Repl.there (Repl.there (Repl.there (Repl.there (Repl.there (Repl.there (Repl.there (Repl.there Repl.here))))))))))))))) ag22 rfl) rfl ?_
          refine l_nil ⟨trivial, ?_⟩
          refine wa_take 10 rfl (by kernel_rfl) (fun w' hw' => r_field rfl fo48_3) (trivial) rfl ?_
          refine wa_one [5] (by kernel_rfl) rfl ?_
          intro i hi
          simp only [List.mem_cons, List.not_mem_nil, or_false] at hi
          subst hi
          refine ⟨_, rfl, ?_⟩
          refine l_call rfl rfl fk71 rfl (clone71 w62 (hl14.on (by decide) hs62) hn14) ?_
          rintro _ w63 ⟨_, cn14, rfl, hR14, hc63⟩
          obtain ⟨D14, e14, rfl, _⟩ := row_slice (hc63.get (r := .row _ _ _ _ _ _) List.mem_cons_self)
          have hs63 := hs62.call1 hc63
          refine ⟨_, rfl, ?_⟩
          refine l_nil ⟨trivial, ?_⟩
          refine wa_one [9] (by kernel_rfl) rfl ?_
          intro i hi
          simp only [List.mem_cons, List.not_mem_nil, or_false] at hi
          subst hi
          refine ⟨_, rfl, ?_⟩
          refine l_call rfl rfl fk71 rfl (clone71 w63 (hl12.on (by decide) hs63) hn12) ?_
          rintro _ w64 ⟨_, cn12, rfl, hR12, hc64⟩
          obtain ⟨D12, e12, rfl, _⟩ := row_slice (hc64.get (r := .row _ _ _ _ _ _) List.mem_cons_self)
          have hs64 := hs63.call1 hc64
          refine ⟨_, rfl, ?_⟩
          refine l_nil ⟨trivial, ?_⟩
          refine wa_one [11] (by kernel_rfl) rfl ?_
          intro i hi
          simp only [List.mem_cons, List.not_mem_nil, or_false] at hi
          subst hi
          refine ⟨_, rfl, ?_⟩
          refine l_store1 rfl rfl rfl sz22 (Nat.zero_le _) hs64 (Repl.there (Repl.there (Repl.there (Repl.there (Repl.there (Repl.there (Repl.there (Repl.there (Repl.there (Repl.there (Repl.there (Repl.there (Repl.there (Repl.there (Repl.there (Repl.there (Repl.there Repl.here))))))))))))))))) rfl ?_
          intro w65 hz65 hk65 hs65
          refine l_nil ⟨trivial, ?_⟩
          refine wa_take 12 rfl (by kernel_rfl) (fun w' hw' => r_field rfl fo48_12) (trivial) rfl ?_
          refine wa_one [13] (by kernel_rfl) rfl ?_
          intro i hi
          simp only [List.mem_cons, List.not_mem_nil, or_false] at hi
          subst hi
          refine ⟨_, rfl, ?_⟩
          refine l_store1 rfl rfl rfl sz22 (Nat.zero_le _) hs65 (Repl.there (Repl.there (Repl.there (Repl.there (Repl.there (Repl.there (Repl.there (Repl.there (Repl.there (Repl.there (Repl.there (Repl.there (Repl.there (Repl.there (Repl.there (Repl.there (Repl.there Repl.here))))))))))))))))) rfl ?_
          intro w66 hz66 hk66 hs66
          refine l_nil ⟨trivial, ?_⟩
          refine wa_take 14 rfl (by kernel_rfl) (fun w' hw' => r_field rfl fo48_11) (trivial) rfl ?_
          refine wa_take 15 rfl (by kernel_rfl) (fun w' hw' => r_field rfl fo46_1) (trivial) rfl ?_
          refine wa_one [16] (by kernel_rfl) rfl ?_
          intro i hi
          simp only [List.mem_cons, List.not_mem_nil, or_false] at hi
          subst hi
          refine ⟨_, rfl, ?_⟩
          refine l_store1 rfl rfl rfl sz22 (Nat.zero_le _) hs66 (Repl.there (Repl.there (Repl.there (Repl.there (Repl.there (Repl.there (Repl.there (Repl.there (Repl.there (Repl.there (Repl.there (Repl.there (Repl.there (Repl.there (Repl.there (Repl.there (Repl.there Repl.here))))))))))))))))) rfl ?_
          intro w67 hz67 hk67 hs67
          refine l_nil ⟨trivial, ?_⟩
          exact wa_done (by kernel_rfl) ⟨_, _, _, _, _, _, _, _, _, (.cons rfl (.cons rfl .nil)), rep_any hR3, rep_any hR14, rep_any hR12, hs67⟩
        ·
          refine ⟨_, rfl, ?_⟩
          refine l_r (r_load1p rfl hs28 (Repl.there (Repl.there (Repl.there (Repl.there (Repl.there (Repl.there (Repl.there (Repl.there (Repl.there (Repl.there (Repl.there (Repl.there (Repl.there (Repl.there Repl.here)))))))))))))) ag22 rfl) rfl ?_
          refine l_nil ⟨trivial, ?_⟩
          refine wa_one [2] (by kernel_rfl) rfl ?_
          intro i hi
          simp only [List.mem_cons, List.not_mem_nil, or_false] at hi
          subst hi
          refine ⟨_, rfl, ?_⟩
          refine l_call rfl rfl fk71 rfl (clone71 w28 (hl3.on (by decide) hs28) hn3) ?_
          rintro _ w68 ⟨_, cn3, rfl, hR3, hc68⟩
          obtain ⟨D3, e3, rfl, _⟩ := row_slice (hc68.get (r := .row _ _ _ _ _ _) List.mem_cons_self)
          have hs68 := hs28.call1 hc68
          refine ⟨_, rfl, ?_⟩
          refine l_nil ⟨trivial, ?_⟩
          refine wa_take 10 rfl (by kernel_rfl) (fun w' hw' => r_field rfl fo48_3) (trivial) rfl ?_
          refine wa_one [5] (by kernel_rfl) rfl ?_
          intro i hi
          simp only [List.mem_cons, List.not_mem_nil, or_false] at hi
          subst hi
          refine ⟨_, rfl, ?_⟩
          refine l_call rfl rfl fk71 rfl (clone71 w68 (hl14.on (by decide) hs68) hn14) ?_
          rintro _ w69 ⟨_, cn14, rfl, hR14, hc69⟩
          obtain ⟨D14, e14, rfl, _⟩ := row_slice (hc69.get (r := .row _ _ _ _ _ _) List.mem_cons_self)
          have hs69 := hs68.call1 hc69
          refine ⟨_, rfl, ?_⟩
          refine l_nil ⟨trivial, ?_⟩
          refine wa_one [9] (by kernel_rfl) rfl ?_
          intro i hi
          simp only [List.mem_cons, List.not_mem_nil, or_false] at hi
          subst hi
          refine ⟨_, rfl, ?_⟩
          refine l_call rfl rfl fk71 rfl (clone71 w69 (hl12.on (by decide) hs69) hn12) ?_
          rintro _ w70 ⟨_, cn12, rfl, hR12, hc70⟩
          obtain ⟨D12, e12, rfl, _⟩ := row_slice (hc70.get (r := .row _ _ _ _ _ _) List.mem_cons_self)
          have hs70 := hs69.call1 hc70
          refine ⟨_, rfl, ?_⟩
          refine l_nil ⟨trivial, ?_⟩
          refine wa_one [11] (by kernel_rfl) rfl ?_
          intro i hi
          simp only [List.mem_cons, List.not_mem_nil, or_false] at hi
          subst hi
          refine ⟨_, rfl, ?_⟩
          refine l_store1 rfl rfl rfl sz22 (Nat.zero_le _) hs70 (Repl.there (Repl.there (Repl.there (Repl.there (Repl.there (Repl.there (Repl.there (Repl.there (Repl.there (Repl.there (Repl.there (Repl.there (Repl.there (Repl.there (Repl.there (Repl.there (Repl.there Repl.here))))))))))))))))) rfl ?_
          intro w71 hz71 hk71 hs71
          refine l_nil ⟨trivial, ?_⟩
          refine wa_take 12 rfl (by kernel_rfl) (fun w' hw' => r_field rfl fo48_12) (trivial) rfl ?_
          refine wa_one [13] (by kernel_rfl) rfl ?_
          intro i hi
          simp only [List.mem_cons, List.not_mem_nil, or_false] at hi
          subst hi
          refine ⟨_, rfl, ?_⟩
          refine l_store1 rfl rfl rfl sz22 (Nat.zero_le _) hs71 (Repl.there (Repl.there (Repl.there (Repl.there (Repl.there (Repl.there (Repl.there (Repl.there (Repl.there (Repl.there (Repl.there (Repl.there (Repl.there (Repl.there (Repl.there (Repl.there (Repl.there Repl.here))))))))))))))))) rfl ?_
          intro w72 hz72 hk72 hs72
          refine l_nil ⟨trivial, ?_⟩
          refine wa_take 14 rfl (by kernel_rfl) (fun w' hw' => r_field rfl fo48_11) (trivial) rfl ?_
          refine wa_take 15 rfl (by kernel_rfl) (fun w' hw' => r_field rfl fo46_1) (trivial) rfl ?_
          refine wa_one [16] (by kernel_rfl) rfl ?_
          intro i hi
          simp only [List.mem_cons, List.not_mem_nil, or_false] at hi
          subst hi
          refine ⟨_, rfl, ?_⟩
          refine l_store1 rfl rfl rfl sz22 (Nat.zero_le _) hs72 (Repl.there (Repl.there (Repl.there (Repl.there (Repl.there (Repl.there (Repl.there (Repl.there (Repl.there (Repl.there (Repl.there (Repl.there (Repl.there (Repl.there (Repl.there (Repl.there (Repl.there Repl.here))))))))))))))))) rfl ?_
          intro w73 hz73 hk73 hs73
          refine l_nil ⟨trivial, ?_⟩
          exact wa_done (by kernel_rfl) ⟨_, _, _, _, _, _, _, _, _, (.cons rfl (.cons rfl .nil)), rep_any hR3, rep_any hR14, rep_any hR12, hs73⟩
    ·
      refine ⟨_, rfl, ?_⟩
      refine l_r (r_load1p rfl hs28 (Repl.there (Repl.there (Repl.there (Repl.there (Repl.there (Repl.there (Repl.there (Repl.there (Repl.there (Repl.there (Repl.there (Repl.there (Repl.there (Repl.there Repl.here)))))))))))))) ag22 rfl) rfl ?_
      refine l_nil ⟨trivial, ?_⟩
      refine wa_one [1, 8] (by kernel_rfl) rfl ?_
      intro i hi
      simp only [List.mem_cons, List.not_mem_nil, or_false] at hi
      rcases hi with rfl | rfl
      ·
        refine ⟨_, rfl, ?_⟩
        refine l_r (r_load1p rfl hs28 (Repl.there (Repl.there (Repl.there (Repl.there (Repl.there (Repl.there (Repl.there (Repl.there (Repl.there (Repl.there (Repl.there (Repl.there (Repl.there (Repl.there Repl.here)))))))))))))) ag22 rfl) rfl ?_
        refine l_nil ⟨trivial, ?_⟩
        refine wa_one [2, 8] (by kernel_rfl) rfl ?_
        intro i hi
        simp only [List.mem_cons, List.not_mem_nil, or_false] at hi
        rcases hi with rfl | rfl
        ·
          refine ⟨_, rfl, ?_⟩
          refine l_call rfl rfl fk71 rfl (clone71 w28 (hl3.on (by decide) hs28) hn3) ?_
          rintro _ w74 ⟨_, cn3, rfl, hR3, hc74⟩
          obtain ⟨D3, e3, rfl, _⟩ := row_slice (hc74.get (r := .row _ _ _ _ _ _) List.mem_cons_self)
          have hs74 := hs28.call1 hc74
          refine ⟨_, rfl, ?_⟩
          refine l_nil ⟨trivial, ?_⟩
          refine wa_one [5, 8] (by kernel_rfl) rfl ?_
          intro i hi
          simp only [List.mem_cons, List.not_mem_nil, or_false] at hi
          rcases hi with rfl | rfl
          ·
            refine ⟨_, rfl, ?_⟩
            refine l_call rfl rfl fk71 rfl (clone71 w74 (hl14.on (by decide) hs74) hn14) ?_
            rintro _ w75 ⟨_, cn14, rfl, hR14, hc75⟩
            obtain ⟨D14, e14, rfl, _⟩ := row_slice (hc75.get (r := .row _ _ _ _ _ _) List.mem_cons_self)
            have hs75 := hs74.call1 hc75
            refine ⟨_, rfl, ?_⟩
            refine l_nil ⟨trivial, ?_⟩
            refine wa_one [8] (by kernel_rfl) rfl ?_
            intro i hi
            simp only [List.mem_cons, List.not_mem_nil, or_false] at hi
            subst hi
            refine ⟨_, rfl, ?_⟩
            refine l_r (r_load1p rfl hs75 (Repl.there (Repl.there (Repl.there (Repl.there (Repl.there (Repl.there (Repl.there (Repl.there (Repl.there (Repl.there (Repl.there (Repl.there (Repl.there (Repl.there (Repl.there (Repl.there Repl.here)))))))))))))))) ag22 rfl) rfl ?_
            refine l_nil ⟨trivial, ?_⟩
            refine wa_take 10 rfl (by kernel_rfl) (fun w' hw' => r_field rfl fo48_3) (trivial) rfl ?_
            refine wa_one [9] (by kernel_rfl) rfl ?_
            intro i hi
            simp only [List.mem_cons, List.not_mem_nil, or_false] at hi
            subst hi
            refine ⟨_, rfl, ?_⟩
            refine l_call rfl rfl fk71 rfl (clone71 w75 (hl12.on (by decide) hs75) hn12) ?_
            rintro _ w76 ⟨_, cn12, rfl, hR12, hc76⟩
            obtain ⟨D12, e12, rfl, _⟩ := row_slice (hc76.get (r := .row _ _ _ _ _ _) List.mem_cons_self)
            have hs76 := hs75.call1 hc76
            refine ⟨_, rfl, ?_⟩
            refine l_nil ⟨trivial, ?_⟩
            refine wa_one [11] (by kernel_rfl) rfl ?_
            intro i hi
            simp only [List.mem_cons, List.not_mem_nil, or_false] at hi
            subst hi
            refine ⟨_, rfl, ?_⟩
            refine l_store1 rfl rfl rfl sz22 (Nat.zero_le _) hs76 (Repl.there (Repl.there (Repl.there (Repl.there (Repl.there (Repl.there (Repl.there (Repl.there (Repl.there (Repl.there (Repl.there (Repl.there (Repl.there (Repl.there (Repl.there (Repl.there (Repl.there Repl.here))))))))))))))))) rfl ?_
            intro w77 hz77 hk77 hs77
            refine l_nil ⟨trivial, ?_⟩
            refine wa_take 12 rfl (by kernel_rfl) (fun w' hw' => r_field rfl fo48_12) (trivial) rfl ?_
            refine wa_one [13] (by kernel_rfl) rfl ?_
            intro i hi
            simp only [List.mem_cons, List.not_mem_nil, or_false] at hi
            subst hi
            refine ⟨_, rfl, ?_⟩
            refine l_store1 rfl rfl rfl sz22 (Nat.zero_le _) hs77 (Repl.there (Repl.there (Repl.there (Repl.there (Repl.there (Repl.there (Repl.there (Repl.there (Repl.there (Repl.there (Repl.there (Repl.there (Repl.there (Repl.there (Repl.there (Repl.there (Repl.there Repl.here))))))))))))))))) rfl ?_
            intro w78 hz78 hk78 hs78
            refine l_nil ⟨trivial, ?_⟩
            refine wa_take 14 rfl (by kernel_rfl) (fun w' hw' => r_field rfl fo48_11) (trivial) rfl ?_
            refine wa_take 15 rfl (by kernel_rfl) (fun w' hw' => r_field rfl fo46_1) (trivial) rfl ?_
            refine wa_one [16] (by kernel_rfl) rfl ?_
            intro i hi
            simp only [List.mem_cons, List.not_mem_nil, or_false] at hi
            subst hi
            refine ⟨_, rfl, ?_⟩
            refine l_store1 rfl rfl rfl sz22 (Nat.zero_le _) hs78 (Repl.there (Repl.there (Repl.there (Repl.there (Repl.there (Repl.there (Repl.there (Repl.there (Repl.there (Repl.there (Repl.there (Repl.there (Repl.there (Repl.there (Repl.there (Repl.there (Repl.there Repl.here))))))))))))))))) rfl ?_
            intro w79 hz79 hk79 hs79
            refine l_nil ⟨trivial, ?_⟩
            exact wa_done (by kernel_rfl) ⟨_, _, _, _, _, _, _, _, _, (.cons rfl (.cons rfl .nil)), rep_any hR3, rep_any hR14, rep_any hR12, hs79⟩
          ·
            refine ⟨_, rfl, ?_⟩
            refine l_r (r_load1p rfl hs74 (Repl.there (Repl.there (Repl.there (Repl.there (Repl.there (Repl.there (Repl.there (Repl.there (Repl.there (Repl.there (Repl.there (Repl.there (Repl.there (Repl.there (Repl.there Repl.here))))))))))))))) ag22 rfl) rfl ?_
            refine l_nil ⟨trivial, ?_⟩
            refine wa_take 10 rfl (by kernel_rfl) (fun w' hw' => r_field rfl fo48_3) (trivial) rfl ?_
            refine wa_one [5] (by kernel_rfl) rfl ?_
            intro i hi
            simp only [List.mem_cons, List.not_mem_nil, or_false] at hi
            subst hi
            refine ⟨_, rfl, ?_⟩
            refine l_call rfl rfl fk71 rfl (clone71 w74 (hl14.on (by decide) hs74) hn14) ?_
            rintro _ w80 ⟨_, cn14, rfl, hR14, hc80⟩
            obtain ⟨D14, e14, rfl, _⟩ := row_slice (hc80.get (r := .row _ _ _ _ _ _) List.mem_cons_self)
            have hs80 := hs74.call1 hc80
            refine ⟨_, rfl, ?_⟩
            refine l_nil ⟨trivial, ?_⟩
            refine wa_one [9] (by kernel_rfl) rfl ?_
            intro i hi
            simp only [List.mem_cons, List.not_mem_nil, or_false] at hi
            subst hi
            refine ⟨_, rfl, ?_⟩
            refine l_call rfl rfl fk71 rfl (clone71 w80 (hl12.on (by decide) hs80) hn12) ?_
            rintro _ w81 ⟨_, cn12, rfl, hR12, hc81⟩
            obtain ⟨D12, e12, rfl, _⟩ := row_slice (hc81.get (r := .row _ _ _ _ _ _) List.mem_cons_self)
            have hs81 := hs80.call1 hc81
            refine ⟨_, rfl, ?_⟩
            refine l_nil ⟨trivial, ?_⟩
            refine wa_one [11] (by kernel_rfl) rfl ?_
            intro i hi
            simp only [List.mem_cons, List.not_mem_nil, or_false] at hi
            subst hi
            refine ⟨_, rfl, ?_⟩
            refine l_store1 rfl rfl rfl sz22 (Nat.zero_le _) hs81 (Repl.there (Repl.there (Repl.there (Repl.there (Repl.there (Repl.there (Repl.there (Repl.there (Repl.there (Repl.there (Repl.there (Repl.there (Repl.there (Repl.there (Repl.there (Repl.there (Repl.there Repl.here))))))))))))))))) rfl ?_
            intro w82 hz82 hk82 hs82
            refine l_nil ⟨trivial, ?_⟩
            refine wa_take 12 rfl (by kernel_rfl) (fun w' hw' => r_field rfl fo48_12) (trivial) rfl ?_
            refine wa_one [13] (by kernel_rfl) rfl ?_
            intro i hi
            simp only [List.mem_cons, List.not_mem_nil, or_false] at hi
            subst hi
            refine ⟨_, rfl, ?_⟩
            refine l_store1 rfl rfl rfl sz22 (Nat.zero_le _) hs82 (Repl.there (Repl.there (Repl.there (Repl.there (Repl.there (Repl.there (Repl.there (Repl.there (Repl.there (Repl.there (Repl.there (Repl.there (Repl.there (Repl.there (Repl.there (Repl.there (Repl.there Repl.here))))))))))))))))) rfl ?_
            intro w83 hz83 hk83 hs83
            refine l_nil ⟨trivial, ?_⟩
            refine wa_take 14 rfl (by kernel_rfl) (fun w' hw' => r_field rfl fo48_11) (trivial) rfl ?_
            refine wa_take 15 rfl (by kernel_rfl) (fun w' hw' => r_field rfl fo46_1) (trivial) rfl ?_
            refine wa_one [16] (by kernel_rfl) rfl ?_
            intro i hi
            simp only [List.mem_cons, List.not_mem_nil, or_false] at hi
            subst hi
            refine ⟨_, rfl, ?_⟩
            refine l_store1 rfl rfl rfl sz22 (Nat.zero_le _) hs83 (Repl.there (Repl.there (Repl.there (Repl.there (Repl.there (Repl.there (Repl.there (Repl.there (Repl.there (Repl.there (Repl.there (Repl.there (Repl.there (Repl.there (Repl.there (Repl.there (Repl.there Repl.here))))))))))))))))) rfl ?_
            intro w84 hz84 hk84 hs84
            refine l_nil ⟨trivial, ?_⟩
            exact wa_done (by kernel_rfl) ⟨_, _, _, _, _, _, _, _, _, (.cons rfl (.cons rfl .nil)), rep_any hR3, rep_any hR14, rep_any hR12, hs84⟩
        ·
          refine ⟨_, rfl, ?_⟩
          refine l_r (r_load1p rfl hs28 (Repl.there (Repl.there (Repl.there (Repl.there (Repl.there (Repl.there (Repl.there (Repl.there (Repl.there (Repl.there (Repl.there (Repl.there (Repl.there (Repl.there Repl.here)))))))))))))) ag22 rfl) rfl ?_
          refine l_nil ⟨trivial, ?_⟩
          refine wa_one [2] (by kernel_rfl) rfl ?_
          intro i hi
          simp only [List.mem_cons, List.not_mem_nil, or_false] at hi
          subst hi
          refine ⟨_, rfl, ?_⟩
          refine l_call rfl rfl fk71 rfl (clone71 w28 (hl3.on (by decide) hs28) hn3) ?_
          rintro _ w85 ⟨_, cn3, rfl, hR3, hc85⟩
          obtain ⟨D3, e3, rfl, _⟩ := row_slice (hc85.get (r := .row _ _ _ _ _ _) List.mem_cons_self)
          have hs85 := hs28.call1 hc85
          refine ⟨_, rfl, ?_⟩
          refine l_nil ⟨trivial, ?_⟩
          refine wa_take 10 rfl (by kernel_rfl) (fun w' hw' => r_field rfl fo48_3) (trivial) rfl ?_
          refine wa_one [5] (by kernel_rfl) rfl ?_
          intro i hi
          simp only [List.mem_cons, List.not_mem_nil, or_false] at hi
          subst hi
          refine ⟨_, rfl, ?_⟩
          refine l_call rfl rfl fk71 rfl (clone71 w85 (hl14.on (by decide) hs85) hn14) ?_
          rintro _ w86 ⟨_, cn14, rfl, hR14, hc86⟩
          obtain ⟨D14, e14, rfl, _⟩ := row_slice (hc86.get (r := .row _ _ _ _ _ _) List.mem_cons_self)
          have hs86 := hs85.call1 hc86
          refine ⟨_, rfl, ?_⟩
          refine l_nil ⟨trivial, ?_⟩
          refine wa_one [9] (by kernel_rfl) rfl ?_
          intro i hi
          simp only [List.mem_cons, List.not_mem_nil, or_false] at hi
          subst hi
          refine ⟨_, rfl, ?_⟩
          refine l_call rfl rfl fk71 rfl (clone71 w86 (hl12.on (by decide) hs86) hn12) ?_
          rintro _ w87 ⟨_, cn12, rfl, hR12, hc87⟩
          obtain ⟨D12, e12, rfl, _⟩ := row_slice (hc87.get (r := .row _ _ _ _ _ _) List.mem_cons_self)
          have hs87 := hs86.call1 hc87
          refine ⟨_, rfl, ?_⟩
          refine l_nil ⟨trivial, ?_⟩
          refine wa_one [11] (by kernel_rfl) rfl ?_
          intro i hi
          simp only [List.mem_cons, List.not_mem_nil, or_false] at hi
          subst hi
          refine ⟨_, rfl, ?_⟩
          refine l_store1 rfl rfl rfl sz22 (Nat.zero_le _) hs87 (Repl.there (Repl.there (Repl.there (Repl.there (Repl.there (Repl.there (Repl.there (Repl.there (Repl.there (Repl.there (Repl.there (Repl.there (Repl.there (Repl.there (Repl.there (Repl.there (Repl.there Repl.here))))))))))))))))) rfl ?_
          intro w88 hz88 hk88 hs88
          refine l_nil ⟨trivial, ?_⟩
          refine wa_take 12 rfl (by kernel_rfl) (fun w' hw' => r_field rfl fo48_12) (trivial) rfl ?_
          refine wa_one [13] (by kernel_rfl) rfl ?_
          intro i hi
          simp only [List.mem_cons, List.not_mem_nil, or_false] at hi
          subst hi
          refine ⟨_, rfl, ?_⟩
          refine l_store1 rfl rfl rfl sz22 (Nat.zero_le _) hs88 (Repl.there (Repl.there (Repl.there (Repl.there (Repl.there (Repl.there (Repl.there (Repl.there (Repl.there (Repl.there (Repl.there (Repl.there (Repl.there (Repl.there (Repl.there (Repl.there (Repl.there Repl.here))))))))))))))))) rfl ?_
          intro w89 hz89 hk89 hs89
          refine l_nil ⟨trivial, ?_⟩
          refine wa_take 14 rfl (by kernel_rfl) (fun w' hw' => r_field rfl fo48_11) (trivial) rfl ?_
          refine wa_take 15 rfl (by kernel_rfl) (fun w' hw' => r_field rfl fo46_1) (trivial) rfl ?_
          refine wa_one [16] (by kernel_rfl) rfl ?_
          intro i hi
          simp only [List.mem_cons, List.not_mem_nil, or_false] at hi
          subst hi
          refine ⟨_, rfl, ?_⟩
          refine l_store1 rfl rfl rfl sz22 (Nat.zero_le _) hs89 (Repl.there (Repl.there (Repl.there (Repl.there (Repl.there (Repl.there (Repl.there (Repl.there (Repl.there (Repl.there (Repl.there (Repl.there (Repl.there (Repl.there (Repl.there (Repl.there (Repl.there Repl.here))))))))))))))))) rfl ?_
          intro w90 hz90 hk90 hs90
          refine l_nil ⟨trivial, ?_⟩
          exact wa_done (by kernel_rfl) ⟨_, _, _, _, _, _, _, _, _, (.cons rfl (.cons rfl .nil)), rep_any hR3, rep_any hR14, rep_any hR12, hs90⟩
      ·
        refine ⟨_, rfl, ?_⟩
        refine l_r (r_load1p rfl hs28 (Repl.there (Repl.there (Repl.there (Repl.there (Repl.there (Repl.there (Repl.there (Repl.there (Repl.there (Repl.there (Repl.there (Repl.there (Repl.there (Repl.there Repl.here)))))))))))))) ag22 rfl) rfl ?_
        refine l_nil ⟨trivial, ?_⟩
        refine wa_one [1] (by kernel_rfl) rfl ?_
        intro i hi
        simp only [List.mem_cons, List.not_mem_nil, or_false] at hi
        subst hi
        refine ⟨_, rfl, ?_⟩
        refine l_r (r_load1p rfl hs28 (Repl.there (Repl.there (Repl.there (Repl.there (Repl.there (Repl.there (Repl.there (Repl.there (Repl.there (Repl.there (Repl.there (Repl.there (Repl.there (Repl.there Repl.here)))))))))))))) ag22 rfl) rfl ?_
        refine l_nil ⟨trivial, ?_⟩
        refine wa_one [2] (by kernel_rfl) rfl ?_
        intro i hi
        simp only [List.mem_cons, List.not_mem_nil, or_false] at hi
        subst hi
        refine ⟨_, rfl, ?_⟩
        refine l_call rfl rfl fk71 rfl (clone71 w28 (hl3.on (by decide) hs28) hn3) ?_
        rintro _ w91 ⟨_, cn3, rfl, hR3, hc91⟩
        obtain ⟨D3, e3, rfl, _⟩ := row_slice (hc91.get (r := .row _ _ _ _ _ _) List.mem_cons_self)
        have hs91 := hs28.call1 hc91
        refine ⟨_, rfl, ?_⟩
        refine l_nil ⟨trivial, ?_⟩
        refine wa_take 10 rfl (by kernel_rfl) (fun w' hw' => r_field rfl fo48_3) (trivial) rfl ?_
        refine wa_one [5] (by kernel_rfl) rfl ?_
        intro i hi
        simp only [List.mem_cons, List.not_mem_nil, or_false] at hi
        subst hi
        refine ⟨_, rfl, ?_⟩
        refine l_call rfl rfl fk71 rfl (clone71 w91 (hl14.on (by decide) hs91) hn14) ?_
        rintro _ w92 ⟨_, cn14, rfl, hR14, hc92⟩
        obtain ⟨D14, e14, rfl, _⟩ := row_slice (hc92.get (r := .row _ _ _ _ _ _) List.mem_cons_self)
        have hs92 := hs91.call1 hc92
        refine ⟨_, rfl, ?_⟩
        refine l_nil ⟨trivial, ?_⟩
        refine wa_one [9] (by kernel_rfl) rfl ?_
        intro i hi
        simp only [List.mem_cons, List.not_mem_nil, or_false] at hi
        subst hi
        refine ⟨_, rfl, ?_⟩
        refine l_call rfl rfl fk71 rfl (clone71 w92 (hl12.on (by decide) hs92) hn12) ?_
        rintro _ w93 ⟨_, cn12, rfl, hR12, hc93⟩
        obtain ⟨D12, e12, rfl, _⟩ := row_slice (hc93.get (r := .row _ _ _ _ _ _) List.mem_cons_self)
        have hs93 := hs92.call1 hc93
        refine ⟨_, rfl, ?_⟩
        refine l_nil ⟨trivial, ?_⟩
        refine wa_one [11] (by kernel_rfl) rfl ?_
        intro i hi
        simp only [List.mem_cons, List.not_mem_nil, or_false] at hi
        subst hi
        refine ⟨_, rfl, ?_⟩
        refine l_store1 rfl rfl rfl sz22 (Nat.zero_le _) hs93 (Repl.there (Repl.there (Repl.there (Repl.there (Repl.there (Repl.there (Repl.there (Repl.there (Repl.there (Repl.there (Repl.there (Repl.there (Repl.there (Repl.there (Repl.there (Repl.there (Repl.there Repl.here))))))))))))))))) rfl ?_
        intro w94 hz94 hk94 hs94
        refine l_nil ⟨trivial, ?_⟩
        refine wa_take 12 rfl (by kernel_rfl) (fun w' hw' => r_field rfl fo48_12) (trivial) rfl ?_
        refine wa_one [13] (by kernel_rfl) rfl ?_
        intro i hi
        simp only [List.mem_cons, List.not_mem_nil, or_false] at hi
        subst hi
        refine ⟨_, rfl, ?_⟩
        refine l_store1 rfl rfl rfl sz22 (Nat.zero_le _) hs94 (Repl.there (Repl.there (Repl.there (Repl.there (Repl.there (Repl.there (Repl.there (Repl.there (Repl.there (Repl.there (Repl.there (Repl.there (Repl.there (Repl.there (Repl.there (Repl.there (Repl.there Repl.here))))))))))))))))) rfl ?_
        intro w95 hz95 hk95 hs95
        refine l_nil ⟨trivial, ?_⟩
        refine wa_take 14 rfl (by kernel_rfl) (fun w' hw' => r_field rfl fo48_11) (trivial) rfl ?_
        refine wa_take 15 rfl (by kernel_rfl) (fun w' hw' => r_field rfl fo46_1) (trivial) rfl ?_
        refine wa_one [16] (by kernel_rfl) rfl ?_
        intro i hi
        simp only [List.mem_cons, List.not_mem_nil, or_false] at hi
        subst hi
        refine ⟨_, rfl, ?_⟩
        refine l_store1 rfl rfl rfl sz22 (Nat.zero_le _) hs95 (Repl.there (Repl.there (Repl.there (Repl.there (Repl.there (Repl.there (Repl.there (Repl.there (Repl.there (Repl.there (Repl.there (Repl.there (Repl.there (Repl.there (Repl.there (Repl.there (Repl.there Repl.here))))))))))))))))) rfl ?_
        intro w96 hz96 hk96 hs96
        refine l_nil ⟨trivial, ?_⟩
        exact wa_done (by kernel_rfl) ⟨_, _, _, _, _, _, _, _, _, (.cons rfl (.cons rfl .nil)), rep_any hR3, rep_any hR14, rep_any hR12, hs96⟩
    ·
      refine ⟨_, rfl, ?_⟩
      refine l_r (r_load1p rfl hs28 (Repl.there (Repl.there (Repl.there (Repl.there (Repl.there (Repl.there (Repl.there (Repl.there (Repl.there (Repl.there (Repl.there (Repl.there (Repl.there (Repl.there Repl.here)))))))))))))) ag22 rfl) rfl ?_
      refine l_nil ⟨trivial, ?_⟩
      refine wa_one [1, 4] (by kernel_rfl) rfl ?_
      intro i hi
      simp only [List.mem_cons, List.not_mem_nil, or_false] at hi
      rcases hi with rfl | rfl
      ·
        refine ⟨_, rfl, ?_⟩
        refine l_r (r_load1p rfl hs28 (Repl.there (Repl.there (Repl.there (Repl.there (Repl.there (Repl.there (Repl.there (Repl.there (Repl.there (Repl.there (Repl.there (Repl.there (Repl.there (Repl.there Repl.here)))))))))))))) ag22 rfl) rfl ?_
        refine l_nil ⟨trivial, ?_⟩
        refine wa_one [2, 4] (by kernel_rfl) rfl ?_
        intro i hi
        simp only [List.mem_cons, List.not_mem_nil, or_false] at hi
        rcases hi with rfl | rfl
        ·
          refine ⟨_, rfl, ?_⟩
          refine l_call rfl rfl fk71 rfl (clone71 w28 (hl3.on (by decide) hs28) hn3) ?_
          rintro _ w97 ⟨_, cn3, rfl, hR3, hc97⟩
          obtain ⟨D3, e3, rfl, _⟩ := row_slice (hc97.get (r := .row _ _ _ _ _ _) List.mem_cons_self)
          have hs97 := hs28.call1 hc97
          refine ⟨_, rfl, ?_⟩
          refine l_nil ⟨trivial, ?_⟩
          refine wa_one [4] (by kernel_rfl) rfl ?_
          intro i hi
          simp only [List.mem_cons, List.not_mem_nil, or_false] at hi
          subst hi
          refine ⟨_, rfl, ?_⟩
          refine l_r (r_load1p rfl hs97 (Repl.there (Repl.there (Repl.there (Repl.there (Repl.there (Repl.there (Repl.there (Repl.there (Repl.there (Repl.there (Repl.there (Repl.there (Repl.there (Repl.there (Repl.there Repl.here))))))))))))))) ag22 rfl) rfl ?_
          refine l_nil ⟨trivial, ?_⟩
          refine wa_take 10 rfl (by kernel_rfl) (fun w' hw' => r_field rfl fo48_3) (trivial) rfl ?_
          refine wa_one [5] (by kernel_rfl) rfl ?_
          intro i hi
          simp only [List.mem_cons, List.not_mem_nil, or_false] at hi
          subst hi
          refine ⟨_, rfl, ?_⟩
          refine l_call rfl rfl fk71 rfl (clone71 w97 (hl14.on (by decide) hs97) hn14) ?_
          rintro _ w98 ⟨_, cn14, rfl, hR14, hc98⟩
          obtain ⟨D14, e14, rfl, _⟩ := row_slice (hc98.get (r := .row _ _ _ _ _ _) List.mem_cons_self)
          have hs98 := hs97.call1 hc98
          refine ⟨_, rfl, ?_⟩
          refine l_nil ⟨trivial, ?_⟩
          refine wa_one [9] (by kernel_rfl) rfl ?_
          intro i hi
          simp only [List.mem_cons, List.not_mem_nil, or_false] at hi
          subst hi
          refine ⟨_, rfl, ?_⟩
          refine l_call rfl rfl fk71 rfl (clone71 w98 (hl12.on (by decide) hs98) hn12) ?_
          rintro _ w99 ⟨_, cn12, rfl, hR12, hc99⟩
          obtain ⟨D12, e12, rfl, _⟩ := row_slice (hc99.get (r := .row _ _ _ _ _ _) List.mem_cons_self)
          have hs99 := hs98.call1 hc99
          refine ⟨_, rfl, ?_⟩
          refine l_nil ⟨trivial, ?_⟩
          refine wa_one [11] (by kernel_rfl) rfl ?_
          intro i hi
          simp only [List.mem_cons, List.not_mem_nil, or_false] at hi
          subst hi
          refine ⟨_, rfl, ?_⟩
          refine l_store1 rfl rfl rfl sz22 (Nat.zero_le _) hs99 (Repl.there (Repl.there (Repl.there (Repl.there (Repl.there (Repl.there (Repl.there (Repl.there (Repl.there (Repl.there (Repl.there (Repl.there (Repl.there (Repl.there (Repl.there (Repl.there (Repl.there Repl.here))))))))))))))))) rfl ?_
          intro w100 hz100 hk100 hs100
          refine l_nil ⟨trivial, ?_⟩
          refine wa_take 12 rfl (by kernel_rfl) (fun w' hw' => r_field rfl fo48_12) (trivial) rfl ?_
          refine wa_one [13] (by kernel_rfl) rfl ?_
          intro i hi
          simp only [List.mem_cons, List.not_mem_nil, or_false] at hi
          subst hi
          refine ⟨_, rfl, ?_⟩
          refine l_store1 rfl rfl rfl sz22 (Nat.zero_le _) hs100 (Repl.there (Repl.there (Repl.there (Repl.there (Repl.there (Repl.there (Repl.there (Repl.there (Repl.there (Repl.there (Repl.there (Repl.there (Repl.there (Repl.there (Repl.there (Repl.there (Repl.there Repl.here))))))))))))))))) rfl ?_
          intro w101 hz101 hk101 hs101
          refine l_nil ⟨trivial, ?_⟩
          refine wa_take 14 rfl (by kernel_rfl) (fun w' hw' => r_field rfl fo48_11) (trivial) rfl ?_
          refine wa_take 15 rfl (by kernel_rfl) (fun w' hw' => r_field rfl fo46_1) (trivial) rfl ?_
          refine wa_one [16] (by kernel_rfl) rfl ?_
          intro i hi
          simp only [List.mem_cons, List.not_mem_nil, or_false] at hi
          subst hi
          refine ⟨_, rfl, ?_⟩
          refine l_store1 rfl rfl rfl sz22 (Nat.zero_le _) hs101 (Repl.there (Repl.there (Repl.there (Repl.there (Repl.there (Repl.there (Repl.there (Repl.there (Repl.there (Repl.there (Repl.there (Repl.there (Repl.there (Repl.there (Repl.there (Repl.there (Repl.there Repl.here))))))))))))))))) rfl ?_
          intro w102 hz102 hk102 hs102
          refine l_nil ⟨trivial, ?_⟩
          exact wa_done (by kernel_rfl) ⟨_, _, _, _, _, _, _, _, _, (.cons rfl (.cons rfl .nil)), rep_any hR3, rep_any hR14, rep_any hR12, hs102⟩
        ·
          refine ⟨_, rfl, ?_⟩
          refine l_r (r_load1p rfl hs28 (Repl.there (Repl.there (Repl.there (Repl.there (Repl.there (Repl.there (Repl.there (Repl.there (Repl.there (Repl.there (Repl.there (Repl.there (Repl.there (Repl.there Repl.here)))))))))))))) ag22 rfl) rfl ?_
          refine l_nil ⟨trivial, ?_⟩
          refine wa_one [2] (by kernel_rfl) rfl ?_
          intro i hi
          simp only [List.mem_cons, List.not_mem_nil, or_false] at hi
          subst hi
          refine ⟨_, rfl, ?_⟩
          refine l_call rfl rfl fk71 rfl (clone71 w28 (hl3.on (by decide) hs28) hn3) ?_
          rintro _ w103 ⟨_, cn3, rfl, hR3, hc103⟩
          obtain ⟨D3, e3, rfl, _⟩ := row_slice (hc103.get (r := .row _ _ _ _ _ _) List.mem_cons_self)
          have hs103 := hs28.call1 hc103
          refine ⟨_, rfl, ?_⟩
          refine l_nil ⟨trivial, ?_⟩
          refine wa_take 10 rfl (by kernel_rfl) (fun w' hw' => r_field rfl fo48_3) (trivial) rfl ?_
          refine wa_one [5] (by kernel_rfl) rfl ?_
          intro i hi
          simp only [List.mem_cons, List.not_mem_nil, or_false] at hi
          subst hi
          refine ⟨_, rfl, ?_⟩
          refine l_call rfl rfl fk71 rfl (clone71 w103 (hl14.on (by decide) hs103) hn14) ?_
          rintro _ w104 ⟨_, cn14, rfl, hR14, hc104⟩
          obtain ⟨D14, e14, rfl, _⟩ := row_slice (hc104.get (r := .row _ _ _ _ _ _) List.mem_cons_self)
          have hs104 := hs103.call1 hc104
          refine ⟨_, rfl, ?_⟩
          refine l_nil ⟨trivial, ?_⟩
          refine wa_one [9] (by kernel_rfl) rfl ?_
          intro i hi
          simp only [List.mem_cons, List.not_mem_nil, or_false] at hi
          subst hi
          refine ⟨_, rfl, ?_⟩
          refine l_call rfl rfl fk71 rfl (clone71 w104 (hl12.on (by decide) hs104) hn12) ?_
          rintro _ w105 ⟨_, cn12, rfl, hR12, hc105⟩
          obtain ⟨D12, e12, rfl, _⟩ := row_slice (hc105.get (r := .row _ _ _ _ _ _) List.mem_cons_self)
          have hs105 := hs104.call1 hc105
          refine ⟨_, rfl, ?_⟩
          refine l_nil ⟨trivial, ?_⟩
          refine wa_one [11] (by kernel_rfl) rfl ?_
          intro i hi
          simp only [List.mem_cons, List.not_mem_nil, or_false] at hi
          subst hi
          refine ⟨_, rfl, ?_⟩
          refine l_store1 rfl rfl rfl sz22 (Nat.zero_le _) hs105 (Repl.there (Repl.there (Repl.there (Repl.there (Repl.there (Repl.there (Repl.there (Repl.there (Repl.there (Repl.there (Repl.there (Repl.there (Repl.there (Repl.there (Repl.there (Repl.there (Repl.there Repl.here))))))))))))))))) rfl ?_
          intro w106 hz106 hk106 hs106
          refine l_nil ⟨trivial, ?_⟩
          refine wa_take 12 rfl (by kernel_rfl) (fun w' hw' => r_field rfl fo48_12) (trivial) rfl ?_
          refine wa_one [13] (by kernel_rfl) rfl ?_
          intro i hi
          simp only [List.mem_cons, List.not_mem_nil, or_false] at hi
          subst hi
          refine ⟨_, rfl, ?_⟩
          refine l_store1 rfl rfl rfl sz22 (Nat.zero_le _) hs106 (Repl.there (Repl.there (Repl.there (Repl.there (Repl.there (Repl.there (Repl.there (Repl.there (Repl.there (Repl.there (Repl.there (Repl.there (Repl.there (Repl.there (Repl.there (Repl.there (Repl.there Repl.here))))))))))))))))) rfl ?_
          intro w107 hz107 hk107 hs107
          refine l_nil ⟨trivial, ?_⟩
          refine wa_take 14 rfl (by kernel_rfl) (fun w' hw' => r_field rfl fo48_11) (trivial) rfl ?_
          refine wa_take 15 rfl (by kernel_rfl) (fun w' hw' => r_field rfl fo46_1) (trivial) rfl ?_
          refine wa_one [16] (by kernel_rfl) rfl ?_
          intro i hi
          simp only [List.mem_cons, List.not_mem_nil, or_false] at hi
          subst hi
          refine ⟨_, rfl, ?_⟩
          refine l_store1 rfl rfl rfl sz22 (Nat.zero_le _) hs107 (Repl.there (Repl.there (Repl.there (Repl.there (Repl.there (Repl.there (Repl.there (Repl.there (Repl.there (Repl.there (Repl.there (Repl.there (Repl.there (Repl.there (Repl.there (Repl.there (Repl.there Repl.here))))))))))))))))) rfl ?_
          intro w108 hz108 hk108 hs108
          refine l_nil ⟨trivial, ?_⟩
          exact wa_done (by kernel_rfl) ⟨_, _, _, _, _, _, _, _, _, (.cons rfl (.cons rfl .nil)), rep_any hR3, rep_any hR14, rep_any hR12, hs108⟩
      ·
        refine ⟨_, rfl, ?_⟩
        refine l_r (r_load1p rfl hs28 (Repl.there (Repl.there (Repl.there (Repl.there (Repl.there (Repl.there (Repl.there (Repl.there (Repl.there (Repl.there (Repl.there (Repl.there (Repl.there (Repl.there Repl.here)))))))))))))) ag22 rfl) rfl ?_
        refine l_nil ⟨trivial, ?_⟩
        refine wa_one [1] (by kernel_rfl) rfl ?_
        intro i hi
        simp only [List.mem_cons, List.not_mem_nil, or_false] at hi
        subst hi
        refine ⟨_, rfl, ?_⟩
        refine l_r (r_load1p rfl hs28 (Repl.there (Repl.there (Repl.there (Repl.there (Repl.there (Repl.there (Repl.there (Repl.there (Repl.there (Repl.there (Repl.there (Repl.there (Repl.there (Repl.there Repl.here)))))))))))))) ag22 rfl) rfl ?_
        refine l_nil ⟨trivial, ?_⟩
        refine wa_one [2] (by kernel_rfl) rfl ?_
        intro i hi
        simp only [List.mem_cons, List.not_mem_nil, or_false] at hi
        subst hi
        refine ⟨_, rfl, ?_⟩
        refine l_call rfl rfl fk71 rfl (clone71 w28 (hl3.on (by decide) hs28) hn3) ?_
        rintro _ w109 ⟨_, cn3, rfl, hR3, hc109⟩
        obtain ⟨D3, e3, rfl, _⟩ := row_slice (hc109.get (r := .row _ _ _ _ _ _) List.mem_cons_self)
        have hs109 := hs28.call1 hc109
        refine ⟨_, rfl, ?_⟩
        refine l_nil ⟨trivial, ?_⟩
        refine wa_take 10 rfl (by kernel_rfl) (fun w' hw' => r_field rfl fo48_3) (trivial) rfl ?_
        refine wa_one [5] (by kernel_rfl) rfl ?_
        intro i hi
        simp only [List.mem_cons, List.not_mem_nil, or_false] at hi
        subst hi
        refine ⟨_, rfl, ?_⟩
        refine l_call rfl rfl fk71 rfl (clone71 w109 (hl14.on (by decide) hs109) hn14) ?_
        rintro _ w110 ⟨_, cn14, rfl, hR14, hc110⟩
        obtain ⟨D14, e14, rfl, _⟩ := row_slice (hc110.get (r := .row _ _ _ _ _ _) List.mem_cons_self)
        have hs110 := hs109.call1 hc110
        refine ⟨_, rfl, ?_⟩
        refine l_nil ⟨trivial, ?_⟩
        refine wa_one [9] (by kernel_rfl) rfl ?_
        intro i hi
        simp only [List.mem_cons, List.not_mem_nil, or_false] at hi
        subst hi
        refine ⟨_, rfl, ?_⟩
        refine l_call rfl rfl fk71 rfl (clone71 w110 (hl12.on (by decide) hs110) hn12) ?_
        rintro _ w111 ⟨_, cn12, rfl, hR12, hc111⟩
        obtain ⟨D12, e12, rfl, _⟩ := row_slice (hc111.get (r := .row _ _ _ _ _ _) List.mem_cons_self)
        have hs111 := hs110.call1 hc111
        refine ⟨_, rfl, ?_⟩
        refine l_nil ⟨trivial, ?_⟩
        refine wa_one [11] (by kernel_rfl) rfl ?_
        intro i hi
        simp only [List.mem_cons, List.not_mem_nil, or_false] at hi
        subst hi
        refine ⟨_, rfl, ?_⟩
        refine l_store1 rfl rfl rfl sz22 (Nat.zero_le _) hs111 (Repl.there (Repl.there (Repl.there (Repl.there (Repl.there (Repl.there (Repl.there (Repl.there (Repl.there (Repl.there (Repl.there (Repl.there (Repl.there (Repl.there (Repl.there (Repl.there (Repl.there Repl.here))))))))))))))))) rfl ?_
        intro w112 hz112 hk112 hs112
        refine l_nil ⟨trivial, ?_⟩
        refine wa_take 12 rfl (by kernel_rfl) (fun w' hw' => r_field rfl fo48_12) (trivial) rfl ?_
        refine wa_one [13] (by kernel_rfl) rfl ?_
        intro i hi
        simp only [List.mem_cons, List.not_mem_nil, or_false] at hi
        subst hi
        refine ⟨_, rfl, ?_⟩
        refine l_store1 rfl rfl rfl sz22 (Nat.zero_le _) hs112 (Repl.there (Repl.there (Repl.there (Repl.there (Repl.there (Repl.there (Repl.there (Repl.there (Repl.there (Repl.there (Repl.there (Repl.there (Repl.there (Repl.there (Repl.there (Repl.there (Repl.there Repl.here))))))))))))))))) rfl ?_
        intro w113 hz113 hk113 hs113
        refine l_nil ⟨trivial, ?_⟩
        refine wa_take 14 rfl (by kernel_rfl) (fun w' hw' => r_field rfl fo48_11) (trivial) rfl ?_
        refine wa_take 15 rfl (by kernel_rfl) (fun w' hw' => r_field rfl fo46_1) (trivial) rfl ?_
        refine wa_one [16] (by kernel_rfl) rfl ?_
        intro i hi
        simp only [List.mem_cons, List.not_mem_nil, or_false] at hi
        subst hi
        refine ⟨_, rfl, ?_⟩
        refine l_store1 rfl rfl rfl sz22 (Nat.zero_le _) hs113 (Repl.there (Repl.there (Repl.there (Repl.there (Repl.there (Repl.there (Repl.there (Repl.there (Repl.there (Repl.there (Repl.there (Repl.there (Repl.there (Repl.there (Repl.there (Repl.there (Repl.there Repl.here))))))))))))))))) rfl ?_
        intro w114 hz114 hk114 hs114
        refine l_nil ⟨trivial, ?_⟩
        exact wa_done (by kernel_rfl) ⟨_, _, _, _, _, _, _, _, _, (.cons rfl (.cons rfl .nil)), rep_any hR3, rep_any hR14, rep_any hR12, hs114⟩
  rintro _ w115 ⟨cn3, cn14, cn12, D3, D14, D12, e3, e14, e12, hsub, hR3, hR14, hR12, hs115⟩
  refine s_sub [(2, .pointer (some ⟨b2, 0, none⟩)), (4, .pointer (some ⟨b4, 0, none⟩))] hsub ?_
  refine s_seq ?_
  refine s_region ?_
  refine l_r (r_loadNp rfl hs115 (Repl.there (Repl.there (Repl.there (Repl.there (Repl.there (Repl.there (Repl.there (Repl.there (Repl.there (Repl.there (Repl.there (Repl.there (Repl.there (Repl.there (Repl.there (Repl.there (Repl.there Repl.here))))))))))))))))) ag48 sz48) rfl ?_
  refine l_storeAll rfl rfl sz48 (by intro u hu; simp only [List.mem_cons, List.not_mem_nil, or_false] at hu; rcases hu with rfl | rfl | rfl | rfl | rfl | rfl | rfl | rfl | rfl | rfl | rfl | rfl | rfl | rfl | rfl <;> rfl) (Nat.zero_le _) hs115 (Repl.there (Repl.there (Repl.there (Repl.there (Repl.there (Repl.there (Repl.there (Repl.there (Repl.there (Repl.there (Repl.there (Repl.there (Repl.there (Repl.there (Repl.there Repl.here))))))))))))))) rfl ?_
  intro w116 hz116 hk116 hs116
  refine l_nil ?_
  refine s_ret ?_
  have hf : St 0 w w116 (.row 0 56 3 (.slice D9 p.Samples.length e9) p.Samples.length cn9 :: .row 0 52 3 (.slice D10 p.Queues.length e10) p.Queues.length cn10 :: [.row 0 3 1 (.slice D12 p.Latch.Lines.length e12) p.Latch.Lines.length cn12, .row 0 3 1 (.slice D14 p.Given.length e14) p.Given.length cn14, .row 0 3 1 (.slice D3 p.Memory.length e3) p.Memory.length cn3, .row 0 81 18 (.slice D4 p.Procs.length e4) p.Procs.length cn4, .ro F10 (fun w' => Reps Kd.queue w' F10 p.Queues cn10), .row 0 97 2 (.slice D8 p.Events.length e8) p.Events.length cn8, .ro F8 (fun w' => Reps Kd.event w' F8 p.Events cn8), .row 0 95 4 (.slice D7 p.Semas.length e7) p.Semas.length cn7, .ro F7 (fun w' => Reps Kd.sema w' F7 p.Semas cn7), .row 0 93 4 (.slice D6 p.Buffers.length e6) p.Buffers.length cn6, .ro F6 (fun w' => Reps Kd.buffer w' F6 p.Buffers cn6), .row 0 91 3 (.slice D5 p.Boards.length e5) p.Boards.length cn5, .ro F5 (fun w' => Reps Kd.board w' F5 p.Boards cn5), .pt b4 [.int .i64 p.Mode, .int .i64 p.Begun, .int .i64 p.Next, .slice D3 p.Memory.length e3, .slice D4 p.Procs.length e4, .slice D5 p.Boards.length e5, .slice D6 p.Buffers.length e6, .slice D7 p.Semas.length e7, .slice D8 p.Events.length e8, .slice D9 p.Samples.length e9, .slice D10 p.Queues.length e10, .int .i64 p.Latch.Depth, .slice D12 p.Latch.Lines.length e12, .int .i64 p.Latch.Dropped, .slice D14 p.Given.length e14] 48, .pt b3 [.func (.func 41) #[] #[]] 100, .pt b2 [.int .i64 p.Mode, .int .i64 p.Begun, .int .i64 p.Next, .slice D3 p.Memory.length e3, .slice D4 p.Procs.length e4, .slice D5 p.Boards.length e5, .slice D6 p.Buffers.length e6, .slice D7 p.Semas.length e7, .slice D8 p.Events.length e8, .slice D9 p.Samples.length e9, .slice D10 p.Queues.length e10, .int .i64 p.Latch.Depth, .slice D12 p.Latch.Lines.length e12, .int .i64 p.Latch.Dropped, .slice D14 p.Given.length e14] 48]) := (hs116.toFront 5 rfl).toFront 4 rfl
  have hg := hf.keep (K := [_, _]) (fun w' => OwnPart w' (fun k => ∃ r, r ∈ ([.row 0 3 1 (.slice D12 p.Latch.Lines.length e12) p.Latch.Lines.length cn12, .row 0 3 1 (.slice D14 p.Given.length e14) p.Given.length cn14, .row 0 3 1 (.slice D3 p.Memory.length e3) p.Memory.length cn3, .row 0 81 18 (.slice D4 p.Procs.length e4) p.Procs.length cn4, .ro F10 (fun w' => Reps Kd.queue w' F10 p.Queues cn10), .row 0 97 2 (.slice D8 p.Events.length e8) p.Events.length cn8, .ro F8 (fun w' => Reps Kd.event w' F8 p.Events cn8), .row 0 95 4 (.slice D7 p.Semas.length e7) p.Semas.length cn7, .ro F7 (fun w' => Reps Kd.sema w' F7 p.Semas cn7), .row 0 93 4 (.slice D6 p.Buffers.length e6) p.Buffers.length cn6, .ro F6 (fun w' => Reps Kd.buffer w' F6 p.Buffers cn6), .row 0 91 3 (.slice D5 p.Boards.length e5) p.Boards.length cn5, .ro F5 (fun w' => Reps Kd.board w' F5 p.Boards cn5), .pt b4 [.int .i64 p.Mode, .int .i64 p.Begun, .int .i64 p.Next, .slice D3 p.Memory.length e3, .slice D4 p.Procs.length e4, .slice D5 p.Boards.length e5, .slice D6 p.Buffers.length e6, .slice D7 p.Semas.length e7, .slice D8 p.Events.length e8, .slice D9 p.Samples.length e9, .slice D10 p.Queues.length e10, .int .i64 p.Latch.Depth, .slice D12 p.Latch.Lines.length e12, .int .i64 p.Latch.Dropped, .slice D14 p.Given.length e14] 48, .pt b3 [.func (.func 41) #[] #[]] 100, .pt b2 [.int .i64 p.Mode, .int .i64 p.Begun, .int .i64 p.Next, .slice D3 p.Memory.length e3, .slice D4 p.Procs.length e4, .slice D5 p.Boards.length e5, .slice D6 p.Buffers.length e6, .slice D7 p.Semas.length e7, .slice D8 p.Events.length e8, .slice D9 p.Samples.length e9, .slice D10 p.Queues.length e10, .int .i64 p.Latch.Depth, .slice D12 p.Latch.Lines.length e12, .int .i64 p.Latch.Dropped, .slice D14 p.Given.length e14] 48] : List Res) ∧ r.fp k) p [.int .i64 p.Mode, .int .i64 p.Begun, .int .i64 p.Next, .slice D3 p.Memory.length e3, .slice D4 p.Procs.length e4, .slice D5 p.Boards.length e5, .slice D6 p.Buffers.length e6, .slice D7 p.Semas.length e7, .slice D8 p.Events.length e8, .slice D9 p.Samples.length e9, .slice D10 p.Queues.length e10, .int .i64 p.Latch.Depth, .slice D12 p.Latch.Lines.length e12, .int .i64 p.Latch.Dropped, .slice D14 p.Given.length e14] (.slice D9 p.Samples.length e9) (.slice D10 p.Queues.length e10) cn10) (fun w' h => ⟨D3, e3, D4, e4, D5, e5, D6, e6, D7, e7, D8, e8, D12, e12, D14, e14, rfl, row_sl (h (.row 0 3 1 (.slice D3 p.Memory.length e3) p.Memory.length cn3) (List.mem_cons_of_mem _ (List.mem_cons_of_mem _ List.mem_cons_self))) hR3 (fun b hb => ⟨_, (List.mem_cons_of_mem _ (List.mem_cons_of_mem _ List.mem_cons_self)), hb⟩), row_sl (h (.row 0 81 18 (.slice D4 p.Procs.length e4) p.Procs.length cn4) (List.mem_cons_of_mem _ (List.mem_cons_of_mem _ (List.mem_cons_of_mem _ List.mem_cons_self)))) hR4 (fun b hb => ⟨_, (List.mem_cons_of_mem _ (List.mem_cons_of_mem _ (List.mem_cons_of_mem _ List.mem_cons_self))), hb⟩), row_sl2 (h (.row 0 91 3 (.slice D5 p.Boards.length e5) p.Boards.length cn5) (List.mem_cons_of_mem _ (List.mem_cons_of_mem _ (List.mem_cons_of_mem _ (List.mem_cons_of_mem _ (List.mem_cons_of_mem _ (List.mem_cons_of_mem _ (List.mem_cons_of_mem _ (List.mem_cons_of_mem _ (List.mem_cons_of_mem _ (List.mem_cons_of_mem _ (List.mem_cons_of_mem _ List.mem_cons_self)))))))))))) (h (.ro F5 (fun w' => Reps Kd.board w' F5 p.Boards cn5)) (List.mem_cons_of_mem _ (List.mem_cons_of_mem _ (List.mem_cons_of_mem _ (List.mem_cons_of_mem _ (List.mem_cons_of_mem _ (List.mem_cons_of_mem _ (List.mem_cons_of_mem _ (List.mem_cons_of_mem _ (List.mem_cons_of_mem _ (List.mem_cons_of_mem _ (List.mem_cons_of_mem _ (List.mem_cons_of_mem _ List.mem_cons_self))))))))))))) (fun b hb => ⟨_, (List.mem_cons_of_mem _ (List.mem_cons_of_mem _ (List.mem_cons_of_mem _ (List.mem_cons_of_mem _ (List.mem_cons_of_mem _ (List.mem_cons_of_mem _ (List.mem_cons_of_mem _ (List.mem_cons_of_mem _ (List.mem_cons_of_mem _ (List.mem_cons_of_mem _ (List.mem_cons_of_mem _ List.mem_cons_self))))))))))), hb⟩) (fun b hb => ⟨_, (List.mem_cons_of_mem _ (List.mem_cons_of_mem _ (List.mem_cons_of_mem _ (List.mem_cons_of_mem _ (List.mem_cons_of_mem _ (List.mem_cons_of_mem _ (List.mem_cons_of_mem _ (List.mem_cons_of_mem _ (List.mem_cons_of_mem _ (List.mem_cons_of_mem _ (List.mem_cons_of_mem _ (List.mem_cons_of_mem _ List.mem_cons_self)))))))))))), hb⟩), row_sl2 (h (.row 0 93 4 (.slice D6 p.Buffers.length e6) p.Buffers.length cn6) (List.mem_cons_of_mem _ (List.mem_cons_of_mem _ (List.mem_cons_of_mem _ (List.mem_cons_of_mem _ (List.mem_cons_of_mem _ (List.mem_cons_of_mem _ (List.mem_cons_of_mem _ (List.mem_cons_of_mem _ (List.mem_cons_of_mem _ List.mem_cons_self)))))))))) (h (.ro F6 (fun w' => Reps Kd.buffer w' F6 p.Buffers cn6)) (List.mem_cons_of_mem _ (List.mem_cons_of_mem _ (List.mem_cons_of_mem _ (List.mem_cons_of_mem _ (List.mem_cons_of_mem _ (List.mem_cons_of_mem _ (List.mem_cons_of_mem _ (List.mem_cons_of_mem _ (List.mem_cons_of_mem _ (List.mem_cons_of_mem _ List.mem_cons_self))))))))))) (fun b hb => ⟨_, (List.mem_cons_of_mem _ (List.mem_cons_of_mem _ (List.mem_cons_of_mem _ (List.mem_cons_of_mem _ (List.mem_cons_of_mem _ (List.mem_cons_of_mem _ (List.mem_cons_of_mem _ (List.mem_cons_of_mem _ (List.mem_cons_of_mem _ List.mem_cons_self))))))))), hb⟩) (fun b hb => ⟨_, (List.mem_cons_of_mem _ (List.mem_cons_of_mem _ (List.mem_cons_of_mem _ (List.mem_cons_of_mem _ (List.mem_cons_of_mem _ (List.mem_cons_of_mem _ (List.mem_cons_of_mem _ (List.mem_cons_of_mem _ (List.mem_cons_of_mem _ (List.mem_cons_of_mem _ List.mem_cons_self)))))))))), hb⟩), row_sl2 (h (.row 0 95 4 (.slice D7 p.Semas.length e7) p.Semas.length cn7) (List.mem_cons_of_mem _ (List.mem_cons_of_mem _ (List.mem_cons_of_mem _ (List.mem_cons_of_mem _ (List.mem_cons_of_mem _ (List.mem_cons_of_mem _ (List.mem_cons_of_mem _ List.mem_cons_self)))))))) (h (.ro F7 (fun w' => Reps Kd.sema w' F7 p.Semas cn7)) (List.mem_cons_of_mem _ (List.mem_cons_of_mem _ (List.mem_cons_of_mem _ (List.mem_cons_of_mem _ (List.mem_cons_of_mem _ (List.mem_cons_of_mem _ (List.mem_cons_of_mem _ (List.mem_cons_of_mem _ List.mem_cons_self))))))))) (fun b hb => ⟨_, (List.mem_cons_of_mem _ (List.mem_cons_of_mem _ (List.mem_cons_of_mem _ (List.mem_cons_of_mem _ (List.mem_cons_of_mem _ (List.mem_cons_of_mem _ (List.mem_cons_of_mem _ List.mem_cons_self))))))), hb⟩) (fun b hb => ⟨_, (List.mem_cons_of_mem _ (List.mem_cons_of_mem _ (List.mem_cons_of_mem _ (List.mem_cons_of_mem _ (List.mem_cons_of_mem _ (List.mem_cons_of_mem _ (List.mem_cons_of_mem _ (List.mem_cons_of_mem _ List.mem_cons_self)))))))), hb⟩), row_sl2 (h (.row 0 97 2 (.slice D8 p.Events.length e8) p.Events.length cn8) (List.mem_cons_of_mem _ (List.mem_cons_of_mem _ (List.mem_cons_of_mem _ (List.mem_cons_of_mem _ (List.mem_cons_of_mem _ List.mem_cons_self)))))) (h (.ro F8 (fun w' => Reps Kd.event w' F8 p.Events cn8)) (List.mem_cons_of_mem _ (List.mem_cons_of_mem _ (List.mem_cons_of_mem _ (List.mem_cons_of_mem _ (List.mem_cons_of_mem _ (List.mem_cons_of_mem _ List.mem_cons_self))))))) (fun b hb => ⟨_, (List.mem_cons_of_mem _ (List.mem_cons_of_mem _ (List.mem_cons_of_mem _ (List.mem_cons_of_mem _ (List.mem_cons_of_mem _ List.mem_cons_self))))), hb⟩) (fun b hb => ⟨_, (List.mem_cons_of_mem _ (List.mem_cons_of_mem _ (List.mem_cons_of_mem _ (List.mem_cons_of_mem _ (List.mem_cons_of_mem _ (List.mem_cons_of_mem _ List.mem_cons_self)))))), hb⟩), row_sl (h (.row 0 3 1 (.slice D12 p.Latch.Lines.length e12) p.Latch.Lines.length cn12) List.mem_cons_self) hR12 (fun b hb => ⟨_, List.mem_cons_self, hb⟩), row_sl (h (.row 0 3 1 (.slice D14 p.Given.length e14) p.Given.length cn14) (List.mem_cons_of_mem _ List.mem_cons_self)) hR14 (fun b hb => ⟨_, (List.mem_cons_of_mem _ List.mem_cons_self), hb⟩), reps_in (h (.ro F10 (fun w' => Reps Kd.queue w' F10 p.Queues cn10)) (List.mem_cons_of_mem _ (List.mem_cons_of_mem _ (List.mem_cons_of_mem _ (List.mem_cons_of_mem _ List.mem_cons_self))))) (fun b hb => ⟨_, (List.mem_cons_of_mem _ (List.mem_cons_of_mem _ (List.mem_cons_of_mem _ (List.mem_cons_of_mem _ List.mem_cons_self)))), hb⟩)⟩)
  exact q_done (.inr rfl) (.cellN (cs := [.int .i64 p.Mode, .int .i64 p.Begun, .int .i64 p.Next, .slice D3 p.Memory.length e3, .slice D4 p.Procs.length e4, .slice D5 p.Boards.length e5, .slice D6 p.Buffers.length e6, .slice D7 p.Semas.length e7, .slice D8 p.Events.length e8, .slice D9 p.Samples.length e9, .slice D10 p.Queues.length e10, .int .i64 p.Latch.Depth, .slice D12 p.Latch.Lines.length e12, .int .i64 p.Latch.Dropped, .slice D14 p.Given.length e14]) rfl ag48 sz48 (heap_cells (o := 0) ((hs116).get (r := .pt b4 _ _) (List.mem_cons_of_mem _ (List.mem_cons_of_mem _ (List.mem_cons_of_mem _ (List.mem_cons_of_mem _ (List.mem_cons_of_mem _ (List.mem_cons_of_mem _ (List.mem_cons_of_mem _ (List.mem_cons_of_mem _ (List.mem_cons_of_mem _ (List.mem_cons_of_mem _ (List.mem_cons_of_mem _ (List.mem_cons_of_mem _ (List.mem_cons_of_mem _ (List.mem_cons_of_mem _ (List.mem_cons_of_mem _ List.mem_cons_self))))))))))))))))) .nil) ⟨_, _, _, _, _, _, rfl, hR9, hg⟩

theorem row_val {w : World} {base e sz m : Nat} {v : Value} {cs : List Value} (h : w.ownsRow base e sz v m cs) : v.oneCell' = true := by
  obtain ⟨A, c, rfl, _⟩ := row_slice h
  rfl
theorem own_one {w : World} {F : Nat → Prop} {p : TPart} {cs csQ : List Value} {vS vQ : Value} (h : OwnPart w F p cs vS vQ csQ) (hS : vS.oneCell' = true) (hQ : vQ.oneCell' = true) : cs.length = 15 ∧ ∀ u ∈ cs, u.oneCell' = true := by
  obtain ⟨A3, c3, A4, c4, A5, c5, A6, c6, A7, c7, A8, c8, A12, c12, A14, c14, rfl, _⟩ := h
  refine ⟨rfl, fun u hu => ?_⟩
  simp only [List.mem_cons, List.not_mem_nil, or_false] at hu
  rcases hu with rfl | rfl | rfl | rfl | rfl | rfl | rfl | rfl | rfl | rfl | rfl | rfl | rfl | rfl | rfl <;> first | rfl | assumption

set_option maxRecDepth 100000 in
theorem own_any {p : TPart} {ps : List Value} (w : World) {ok : Nat → Prop} (hl : ps.length = 15) (h1 : ∀ u ∈ ps, u.oneCell' = true) (hK : Kd.part.K w ok p ps) (hb : PartSmall p) :
    Calls Try.prog 20 #[.agg ps.toArray] w (fun e w' => ∃ (cs : List Value) (vS vQ : Value) (csS csQ : List Value) (F : Nat → Prop), e = .returned (.agg cs.toArray) ∧ Reps Kd.sample w (fun _ => True) p.Samples csS ∧ St 0 w w' [.row 0 56 3 vS p.Samples.length csS, .row 0 52 3 vQ p.Queues.length csQ, .ro F (fun w' => OwnPart w' F p cs vS vQ csQ)]) := by
  refine q_call (n := 5) (args := [.agg ps.toArray]) Try.func20 rfl rfl rfl ?_
  have hs0 := St.refl 0 w
  have hlz : ps.toArray.toList = ps := rfl
  refine s_seq ?_
  refine s_region ?_
  refine l_box rfl rfl rfl hs0 ?_
  intro w1 b1 hb1 hx1 hs1
  refine l_alloc zz48 rfl hs1 ?_
  intro w2 b2 hb2 hx2 hs2
  refine l_nil ?_
  refine s_seq ?_
  refine s_region ?_
  refine l_r (r_loadNp rfl hs2 (Repl.there Repl.here) ag48 (by rw [hl]; exact sz48)) rfl ?_
  refine l_call rfl rfl fk40 rfl (waits_any w2 (Kd.part.move (fun k hk hlt => (hs2).below.block k hlt) hK) hb) ?_
  rintro _ w3 ⟨cs, vS, vQ, csS, csQ, F, rfl, hR, hc3⟩
  have hs3 := hs2.call hc3
  have hO := hc3.get (r := .ro _ _) (List.mem_cons_of_mem _ (List.mem_cons_of_mem _ List.mem_cons_self))
  obtain ⟨hOl, hO1⟩ := own_one hO (row_val (hc3.get (r := .row _ _ _ _ _ _) List.mem_cons_self)) (row_val (hc3.get (r := .row _ _ _ _ _ _) (List.mem_cons_of_mem _ List.mem_cons_self)))
  refine ⟨_, rfl, ?_⟩
  refine l_storeAll rfl rfl (by rw [hOl]; exact sz48) hO1 (Nat.zero_le _) hs3 (Repl.there (Repl.there (Repl.there Repl.here))) (by rw [hOl]; rfl) ?_
  intro w4 hz4 hk4 hs4
  refine l_nil ?_
  refine s_ret ?_
  exact q_done (.inr rfl) (.cellN (cs := cs) rfl ag48 (by rw [hOl]; exact sz48) (heap_cells (o := 0) (hs4.get (r := .pt b2 _ _) (List.mem_cons_of_mem _ (List.mem_cons_of_mem _ (List.mem_cons_of_mem _ List.mem_cons_self))))) .nil) ⟨_, _, _, _, _, _, rfl, hR, hs4.sub (List.sublist_append_left [_, _, _] _)⟩

end Go.Proofs.Ytfhghnhgcdiknaa
