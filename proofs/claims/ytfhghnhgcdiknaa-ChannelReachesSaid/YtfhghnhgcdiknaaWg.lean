/- What a channel brings from queue to queue. -/
import Derived.Test.YtfhghnhgcdiknaaWf
set_option linter.unusedVariables false
namespace Go.Proofs.Ytfhghnhgcdiknaa
open Go.RowKit
theorem queue_one {w : World} {F : Nat → Prop} {q : TQueue} {cs : List Value} (h : Kd.queue.K w F q cs) : cs.length = 3 ∧ ∀ u ∈ cs, u.oneCell' = true := ⟨Kd.queue.len h, Kd.queue.one h⟩
theorem heap_all {w : World} {b : Nat} {cs : List Value} {T : TypeId} (h : w.heap[b]? = some (.cells cs.toArray T (0, 0))) : Cells w b 0 cs := by simpa using heap_cells h 0

set_option maxRecDepth 100000 in
theorem bring_apart {a b : TQueue} {pa pb : List Value} {ga oa gb ob : Nat} {cga cgb : Array Value} {tga tgb : TypeId} (w : World) {ok ok2 : Nat → Prop} (hca : Cells w ga oa pa) (hcb : Cells w gb ob pb) (hKa : Kd.queue.K w ok a pa) (hKb : Kd.queue.K w ok2 b pb) (hba : a.Values.length ≤ 100000000) (hbb : b.Values.length ≤ 100000000) (hne : (⟨ga, oa, none⟩ : Addr) ≠ ⟨gb, ob, none⟩) (hga : w.heap[ga]? = some (.cells cga tga (0, 0))) (hgb : w.heap[gb]? = some (.cells cgb tgb (0, 0))) :
    Calls Try.prog 43 #[.pointer (some ⟨ga, oa, none⟩), .pointer (some ⟨gb, ob, none⟩)] w (fun e w' => ∃ (ca cb : List Value) (F : Nat → Prop), e = .returned (.tuple #[.agg ca.toArray, .agg cb.toArray]) ∧ St 0 w w' [.ro F (fun w' => Kd.queue.K w' F { a with Values := (moveQ a.Values b.Values b.Depth).1 } ca ∧ Kd.queue.K w' F { b with Values := (moveQ a.Values b.Values b.Depth).2 } cb)]) := by
  refine q_call (n := 24) (args := [.pointer (some ⟨ga, oa, none⟩), .pointer (some ⟨gb, ob, none⟩)]) Try.func43 rfl rfl rfl ?_
  have hla := Kd.queue.len hKa
  have hlb := Kd.queue.len hKb
  have hga0 := (Array.getElem?_eq_some_iff.1 hga).1
  have hgb0 := (Array.getElem?_eq_some_iff.1 hgb).1
  have hs0 := St.refl 0 w
  refine s_seq ?_
  refine s_region ?_
  refine l_alloc zz52 rfl hs0 ?_
  intro w1 b4 hb4 hx1 hs1
  refine l_alloc zz52 rfl hs1 ?_
  intro w2 b5 hb5 hx2 hs2
  refine l_nil ?_
  refine s_seq ?_
  refine s_any (by kernel_rfl) (fun w' => Cells w' ga oa pa ∧ Cells w' gb ob pb) (fun L' w' => ∃ (ca cb : List Value) (F : Nat → Prop) (b6 b7 : Nat), Sub [(0, .pointer (some ⟨ga, oa, none⟩)), (1, .pointer (some ⟨gb, ob, none⟩)), (4, .pointer (some ⟨b4, 0, none⟩)), (5, .pointer (some ⟨b5, 0, none⟩)), (6, .pointer (some ⟨b6, 0, none⟩)), (7, .pointer (some ⟨b7, 0, none⟩))] L' ∧ St 0 w w' [.ro F (fun w' => Kd.queue.K w' F { a with Values := (moveQ a.Values b.Values b.Depth).1 } ca ∧ Kd.queue.K w' F { b with Values := (moveQ a.Values b.Values b.Depth).2 } cb), .pt b6 ca 52, .pt b7 cb 52, .pt b5 [.int .i64 0, .slice none 0 0, .int .i64 0] 52, .pt b4 [.int .i64 0, .slice none 0 0, .int .i64 0] 52]) ?_ ?_
  ·
    intro w3 hx3 hh3
    have hs3 := hs2.ext hx3
    refine wa_take 0 rfl (by kernel_rfl) (fun w' hw' => r_move rfl) (⟨hca.on hs3, hcb.on hs3⟩) rfl ?_
    refine wa_take 1 rfl (by kernel_rfl) (fun w' hw' => r_nilcheck rfl) (⟨hca.on hs3, hcb.on hs3⟩) rfl ?_
    refine wa_take 2 rfl (by kernel_rfl) (fun w' hw' => r_loadN rfl ag52 hw'.1 (by rw [hla]; exact sz52)) (⟨hca.on hs3, hcb.on hs3⟩) rfl ?_
    refine wa_take 3 rfl (by kernel_rfl) (fun w' hw' => r_move rfl) (⟨hca.on hs3, hcb.on hs3⟩) rfl ?_
    refine wa_take 4 rfl (by kernel_rfl) (fun w' hw' => r_nilcheck rfl) (⟨hca.on hs3, hcb.on hs3⟩) rfl ?_
    refine wa_take 5 rfl (by kernel_rfl) (fun w' hw' => r_loadN rfl ag52 hw'.2 (by rw [hlb]; exact sz52)) (⟨hca.on hs3, hcb.on hs3⟩) rfl ?_
    refine wa_one [6, 10, 11] (by kernel_rfl) rfl ?_
    intro i hi
    simp only [List.mem_cons, List.not_mem_nil, or_false] at hi
    rcases hi with rfl | rfl | rfl
    ·
      refine ⟨_, rfl, ?_⟩
      refine l_call rfl rfl fk80 rfl (move80 w3 (Kd.queue.move (fun k _ hk => (hs3).below.block k hk) hKa) (Kd.queue.move (fun k _ hk => (hs3).below.block k hk) hKb) hba hbb) ?_
      rintro _ w4 ⟨ca, cb, F, rfl, hc4⟩
      have hs4 := hs3.call1 hc4
      refine ⟨_, rfl, ?_⟩
      refine l_nil ⟨⟨hca.on hs4, hcb.on hs4⟩, ?_⟩
      refine wa_take 7 rfl (by kernel_rfl) (fun w' hw' => r_move rfl) (⟨hca.on hs4, hcb.on hs4⟩) rfl ?_
      refine wa_take 8 rfl (by kernel_rfl) (fun w' hw' => r_extract rfl rfl) (⟨hca.on hs4, hcb.on hs4⟩) rfl ?_
      refine wa_take 9 rfl (by kernel_rfl) (fun w' hw' => r_extract rfl rfl) (⟨hca.on hs4, hcb.on hs4⟩) rfl ?_
      refine wa_one [10, 11] (by kernel_rfl) rfl ?_
      intro i hi
      simp only [List.mem_cons, List.not_mem_nil, or_false] at hi
      rcases hi with rfl | rfl
      ·
        refine ⟨_, rfl, ?_⟩
        refine l_alloc zz52 rfl hs4 ?_
        intro w5 b6 hb6 hx5 hs5
        refine l_nil ⟨⟨hca.on hs5, hcb.on hs5⟩, ?_⟩
        refine wa_one [11] (by kernel_rfl) rfl ?_
        intro i hi
        simp only [List.mem_cons, List.not_mem_nil, or_false] at hi
        subst hi
        refine ⟨_, rfl, ?_⟩
        refine l_alloc zz52 rfl hs5 ?_
        intro w6 b7 hb7 hx6 hs6
        refine l_nil ⟨⟨hca.on hs6, hcb.on hs6⟩, ?_⟩
        refine wa_one [12] (by kernel_rfl) rfl ?_
        intro i hi
        simp only [List.mem_cons, List.not_mem_nil, or_false] at hi
        subst hi
        refine ⟨_, rfl, ?_⟩
        have hq7 := queue_one (hs6.get (r := .ro F _) (List.mem_cons_of_mem _ (List.mem_cons_of_mem _ List.mem_cons_self))).1
        refine l_storeAll (vs := ca) rfl rfl (by rw [hq7.1]; exact sz52) hq7.2 (Nat.zero_le _) hs6 (Repl.there Repl.here) (by rw [hq7.1]; first | rfl | exact (queue_one (hs6.get (r := .ro F _) (List.mem_cons_of_mem _ (List.mem_cons_of_mem _ List.mem_cons_self))).1).1) ?_
        intro w7 hz7 hk7 hs7
        refine l_nil ⟨⟨hca.on hs7, hcb.on hs7⟩, ?_⟩
        refine wa_one [13] (by kernel_rfl) rfl ?_
        intro i hi
        simp only [List.mem_cons, List.not_mem_nil, or_false] at hi
        subst hi
        refine ⟨_, rfl, ?_⟩
        have hq8 := queue_one (hs7.get (r := .ro F _) (List.mem_cons_of_mem _ (List.mem_cons_of_mem _ List.mem_cons_self))).2
        refine l_storeAll (vs := cb) rfl rfl (by rw [hq8.1]; exact sz52) hq8.2 (Nat.zero_le _) hs7 Repl.here (by rw [hq8.1]; first | rfl | exact (queue_one (hs7.get (r := .ro F _) (List.mem_cons_of_mem _ (List.mem_cons_of_mem _ List.mem_cons_self))).1).1) ?_
        intro w8 hz8 hk8 hs8
        refine l_nil ⟨⟨hca.on hs8, hcb.on hs8⟩, ?_⟩
        exact wa_done (by kernel_rfl) ⟨_, _, _, _, _, (.cons rfl (.cons rfl (.cons rfl (.cons rfl (.cons rfl (.cons rfl .nil)))))), (((((hs8.toFront 4 rfl).toFront 4 rfl).toFront 2 rfl).toFront 3 rfl).toFront 4 rfl)⟩
      ·
        refine ⟨_, rfl, ?_⟩
        refine l_alloc zz52 rfl hs4 ?_
        intro w9 b7 hb7 hx9 hs9
        refine l_nil ⟨⟨hca.on hs9, hcb.on hs9⟩, ?_⟩
        refine wa_one [10] (by kernel_rfl) rfl ?_
        intro i hi
        simp only [List.mem_cons, List.not_mem_nil, or_false] at hi
        subst hi
        refine ⟨_, rfl, ?_⟩
        refine l_alloc zz52 rfl hs9 ?_
        intro w10 b6 hb6 hx10 hs10
        refine l_nil ⟨⟨hca.on hs10, hcb.on hs10⟩, ?_⟩
        refine wa_one [12] (by kernel_rfl) rfl ?_
        intro i hi
        simp only [List.mem_cons, List.not_mem_nil, or_false] at hi
        subst hi
        refine ⟨_, rfl, ?_⟩
        have hq11 := queue_one (hs10.get (r := .ro F _) (List.mem_cons_of_mem _ (List.mem_cons_of_mem _ List.mem_cons_self))).1
        refine l_storeAll (vs := ca) rfl rfl (by rw [hq11.1]; exact sz52) hq11.2 (Nat.zero_le _) hs10 Repl.here (by rw [hq11.1]; first | rfl | exact (queue_one (hs10.get (r := .ro F _) (List.mem_cons_of_mem _ (List.mem_cons_of_mem _ List.mem_cons_self))).1).1) ?_
        intro w11 hz11 hk11 hs11
        refine l_nil ⟨⟨hca.on hs11, hcb.on hs11⟩, ?_⟩
        refine wa_one [13] (by kernel_rfl) rfl ?_
        intro i hi
        simp only [List.mem_cons, List.not_mem_nil, or_false] at hi
        subst hi
        refine ⟨_, rfl, ?_⟩
        have hq12 := queue_one (hs11.get (r := .ro F _) (List.mem_cons_of_mem _ (List.mem_cons_of_mem _ List.mem_cons_self))).2
        refine l_storeAll (vs := cb) rfl rfl (by rw [hq12.1]; exact sz52) hq12.2 (Nat.zero_le _) hs11 (Repl.there Repl.here) (by rw [hq12.1]; first | rfl | exact (queue_one (hs11.get (r := .ro F _) (List.mem_cons_of_mem _ (List.mem_cons_of_mem _ List.mem_cons_self))).1).1) ?_
        intro w12 hz12 hk12 hs12
        refine l_nil ⟨⟨hca.on hs12, hcb.on hs12⟩, ?_⟩
        exact wa_done (by kernel_rfl) ⟨_, _, _, _, _, (.cons rfl (.cons rfl (.cons rfl (.cons rfl (.cons rfl (.cons rfl .nil)))))), (((((hs12.toFront 4 rfl).toFront 4 rfl).toFront 3 rfl).toFront 3 rfl).toFront 4 rfl)⟩
    ·
      refine ⟨_, rfl, ?_⟩
      refine l_alloc zz52 rfl hs3 ?_
      intro w13 b6 hb6 hx13 hs13
      refine l_nil ⟨⟨hca.on hs13, hcb.on hs13⟩, ?_⟩
      refine wa_one [6, 11] (by kernel_rfl) rfl ?_
      intro i hi
      simp only [List.mem_cons, List.not_mem_nil, or_false] at hi
      rcases hi with rfl | rfl
      ·
        refine ⟨_, rfl, ?_⟩
        refine l_call rfl rfl fk80 rfl (move80 w13 (Kd.queue.move (fun k _ hk => (hs13).below.block k hk) hKa) (Kd.queue.move (fun k _ hk => (hs13).below.block k hk) hKb) hba hbb) ?_
        rintro _ w14 ⟨ca, cb, F, rfl, hc14⟩
        have hs14 := hs13.call1 hc14
        refine ⟨_, rfl, ?_⟩
        refine l_nil ⟨⟨hca.on hs14, hcb.on hs14⟩, ?_⟩
        refine wa_take 7 rfl (by kernel_rfl) (fun w' hw' => r_move rfl) (⟨hca.on hs14, hcb.on hs14⟩) rfl ?_
        refine wa_take 8 rfl (by kernel_rfl) (fun w' hw' => r_extract rfl rfl) (⟨hca.on hs14, hcb.on hs14⟩) rfl ?_
        refine wa_take 9 rfl (by kernel_rfl) (fun w' hw' => r_extract rfl rfl) (⟨hca.on hs14, hcb.on hs14⟩) rfl ?_
        refine wa_one [11] (by kernel_rfl) rfl ?_
        intro i hi
        simp only [List.mem_cons, List.not_mem_nil, or_false] at hi
        subst hi
        refine ⟨_, rfl, ?_⟩
        refine l_alloc zz52 rfl hs14 ?_
        intro w15 b7 hb7 hx15 hs15
        refine l_nil ⟨⟨hca.on hs15, hcb.on hs15⟩, ?_⟩
        refine wa_one [12] (by kernel_rfl) rfl ?_
        intro i hi
        simp only [List.mem_cons, List.not_mem_nil, or_false] at hi
        subst hi
        refine ⟨_, rfl, ?_⟩
        have hq16 := queue_one (hs15.get (r := .ro F _) (List.mem_cons_of_mem _ List.mem_cons_self)).1
        refine l_storeAll (vs := ca) rfl rfl (by rw [hq16.1]; exact sz52) hq16.2 (Nat.zero_le _) hs15 (Repl.there (Repl.there Repl.here)) (by rw [hq16.1]; first | rfl | exact (queue_one (hs15.get (r := .ro F _) (List.mem_cons_of_mem _ List.mem_cons_self)).1).1) ?_
        intro w16 hz16 hk16 hs16
        refine l_nil ⟨⟨hca.on hs16, hcb.on hs16⟩, ?_⟩
        refine wa_one [13] (by kernel_rfl) rfl ?_
        intro i hi
        simp only [List.mem_cons, List.not_mem_nil, or_false] at hi
        subst hi
        refine ⟨_, rfl, ?_⟩
        have hq17 := queue_one (hs16.get (r := .ro F _) (List.mem_cons_of_mem _ List.mem_cons_self)).2
        refine l_storeAll (vs := cb) rfl rfl (by rw [hq17.1]; exact sz52) hq17.2 (Nat.zero_le _) hs16 Repl.here (by rw [hq17.1]; first | rfl | exact (queue_one (hs16.get (r := .ro F _) (List.mem_cons_of_mem _ List.mem_cons_self)).1).1) ?_
        intro w17 hz17 hk17 hs17
        refine l_nil ⟨⟨hca.on hs17, hcb.on hs17⟩, ?_⟩
        exact wa_done (by kernel_rfl) ⟨_, _, _, _, _, (.cons rfl (.cons rfl (.cons rfl (.cons rfl (.cons rfl (.cons rfl .nil)))))), (((((hs17.toFront 4 rfl).toFront 4 rfl).toFront 2 rfl).toFront 4 rfl).toFront 4 rfl)⟩
      ·
        refine ⟨_, rfl, ?_⟩
        refine l_alloc zz52 rfl hs13 ?_
        intro w18 b7 hb7 hx18 hs18
        refine l_nil ⟨⟨hca.on hs18, hcb.on hs18⟩, ?_⟩
        refine wa_one [6] (by kernel_rfl) rfl ?_
        intro i hi
        simp only [List.mem_cons, List.not_mem_nil, or_false] at hi
        subst hi
        refine ⟨_, rfl, ?_⟩
        refine l_call rfl rfl fk80 rfl (move80 w18 (Kd.queue.move (fun k _ hk => (hs18).below.block k hk) hKa) (Kd.queue.move (fun k _ hk => (hs18).below.block k hk) hKb) hba hbb) ?_
        rintro _ w19 ⟨ca, cb, F, rfl, hc19⟩
        have hs19 := hs18.call1 hc19
        refine ⟨_, rfl, ?_⟩
        refine l_nil ⟨⟨hca.on hs19, hcb.on hs19⟩, ?_⟩
        refine wa_take 7 rfl (by kernel_rfl) (fun w' hw' => r_move rfl) (⟨hca.on hs19, hcb.on hs19⟩) rfl ?_
        refine wa_take 8 rfl (by kernel_rfl) (fun w' hw' => r_extract rfl rfl) (⟨hca.on hs19, hcb.on hs19⟩) rfl ?_
        refine wa_take 9 rfl (by kernel_rfl) (fun w' hw' => r_extract rfl rfl) (⟨hca.on hs19, hcb.on hs19⟩) rfl ?_
        refine wa_one [12] (by kernel_rfl) rfl ?_
        intro i hi
        simp only [List.mem_cons, List.not_mem_nil, or_false] at hi
        subst hi
        refine ⟨_, rfl, ?_⟩
        have hq20 := queue_one (hs19.get (r := .ro F _) List.mem_cons_self).1
        refine l_storeAll (vs := ca) rfl rfl (by rw [hq20.1]; exact sz52) hq20.2 (Nat.zero_le _) hs19 (Repl.there (Repl.there Repl.here)) (by rw [hq20.1]; first | rfl | exact (queue_one (hs19.get (r := .ro F _) List.mem_cons_self).1).1) ?_
        intro w20 hz20 hk20 hs20
        refine l_nil ⟨⟨hca.on hs20, hcb.on hs20⟩, ?_⟩
        refine wa_one [13] (by kernel_rfl) rfl ?_
        intro i hi
        simp only [List.mem_cons, List.not_mem_nil, or_false] at hi
        subst hi
        refine ⟨_, rfl, ?_⟩
        have hq21 := queue_one (hs20.get (r := .ro F _) List.mem_cons_self).2
        refine l_storeAll (vs := cb) rfl rfl (by rw [hq21.1]; exact sz52) hq21.2 (Nat.zero_le _) hs20 (Repl.there Repl.here) (by rw [hq21.1]; first | rfl | exact (queue_one (hs20.get (r := .ro F _) List.mem_cons_self).1).1) ?_
        intro w21 hz21 hk21 hs21
        refine l_nil ⟨⟨hca.on hs21, hcb.on hs21⟩, ?_⟩
        exact wa_done (by kernel_rfl) ⟨_, _, _, _, _, (.cons rfl (.cons rfl (.cons rfl (.cons rfl (.cons rfl (.cons rfl .nil)))))), (((((hs21.toFront 4 rfl).toFront 4 rfl).toFront 3 rfl).toFront 4 rfl).toFront 4 rfl)⟩
    ·
      refine ⟨_, rfl, ?_⟩
      refine l_alloc zz52 rfl hs3 ?_
      intro w22 b7 hb7 hx22 hs22
      refine l_nil ⟨⟨hca.on hs22, hcb.on hs22⟩, ?_⟩
      refine wa_one [6, 10] (by kernel_rfl) rfl ?_
      intro i hi
      simp only [List.mem_cons, List.not_mem_nil, or_false] at hi
      rcases hi with rfl | rfl
      ·
        refine ⟨_, rfl, ?_⟩
        refine l_call rfl rfl fk80 rfl (move80 w22 (Kd.queue.move (fun k _ hk => (hs22).below.block k hk) hKa) (Kd.queue.move (fun k _ hk => (hs22).below.block k hk) hKb) hba hbb) ?_
        rintro _ w23 ⟨ca, cb, F, rfl, hc23⟩
        have hs23 := hs22.call1 hc23
        refine ⟨_, rfl, ?_⟩
        refine l_nil ⟨⟨hca.on hs23, hcb.on hs23⟩, ?_⟩
        refine wa_take 7 rfl (by kernel_rfl) (fun w' hw' => r_move rfl) (⟨hca.on hs23, hcb.on hs23⟩) rfl ?_
        refine wa_take 8 rfl (by kernel_rfl) (fun w' hw' => r_extract rfl rfl) (⟨hca.on hs23, hcb.on hs23⟩) rfl ?_
        refine wa_take 9 rfl (by kernel_rfl) (fun w' hw' => r_extract rfl rfl) (⟨hca.on hs23, hcb.on hs23⟩) rfl ?_
        refine wa_one [10] (by kernel_rfl) rfl ?_
        intro i hi
        simp only [List.mem_cons, List.not_mem_nil, or_false] at hi
        subst hi
        refine ⟨_, rfl, ?_⟩
        refine l_alloc zz52 rfl hs23 ?_
        intro w24 b6 hb6 hx24 hs24
        refine l_nil ⟨⟨hca.on hs24, hcb.on hs24⟩, ?_⟩
        refine wa_one [12] (by kernel_rfl) rfl ?_
        intro i hi
        simp only [List.mem_cons, List.not_mem_nil, or_false] at hi
        subst hi
        refine ⟨_, rfl, ?_⟩
        have hq25 := queue_one (hs24.get (r := .ro F _) (List.mem_cons_of_mem _ List.mem_cons_self)).1
        refine l_storeAll (vs := ca) rfl rfl (by rw [hq25.1]; exact sz52) hq25.2 (Nat.zero_le _) hs24 Repl.here (by rw [hq25.1]; first | rfl | exact (queue_one (hs24.get (r := .ro F _) (List.mem_cons_of_mem _ List.mem_cons_self)).1).1) ?_
        intro w25 hz25 hk25 hs25
        refine l_nil ⟨⟨hca.on hs25, hcb.on hs25⟩, ?_⟩
        refine wa_one [13] (by kernel_rfl) rfl ?_
        intro i hi
        simp only [List.mem_cons, List.not_mem_nil, or_false] at hi
        subst hi
        refine ⟨_, rfl, ?_⟩
        have hq26 := queue_one (hs25.get (r := .ro F _) (List.mem_cons_of_mem _ List.mem_cons_self)).2
        refine l_storeAll (vs := cb) rfl rfl (by rw [hq26.1]; exact sz52) hq26.2 (Nat.zero_le _) hs25 (Repl.there (Repl.there Repl.here)) (by rw [hq26.1]; first | rfl | exact (queue_one (hs25.get (r := .ro F _) (List.mem_cons_of_mem _ List.mem_cons_self)).1).1) ?_
        intro w26 hz26 hk26 hs26
        refine l_nil ⟨⟨hca.on hs26, hcb.on hs26⟩, ?_⟩
        exact wa_done (by kernel_rfl) ⟨_, _, _, _, _, (.cons rfl (.cons rfl (.cons rfl (.cons rfl (.cons rfl (.cons rfl .nil)))))), (((((hs26.toFront 4 rfl).toFront 4 rfl).toFront 4 rfl).toFront 3 rfl).toFront 4 rfl)⟩
      ·
        refine ⟨_, rfl, ?_⟩
        refine l_alloc zz52 rfl hs22 ?_
        intro w27 b6 hb6 hx27 hs27
        refine l_nil ⟨⟨hca.on hs27, hcb.on hs27⟩, ?_⟩
        refine wa_one [6] (by kernel_rfl) rfl ?_
        intro i hi
        simp only [List.mem_cons, List.not_mem_nil, or_false] at hi
        subst hi
        refine ⟨_, rfl, ?_⟩
        refine l_call rfl rfl fk80 rfl (move80 w27 (Kd.queue.move (fun k _ hk => (hs27).below.block k hk) hKa) (Kd.queue.move (fun k _ hk => (hs27).below.block k hk) hKb) hba hbb) ?_
        rintro _ w28 ⟨ca, cb, F, rfl, hc28⟩
        have hs28 := hs27.call1 hc28
        refine ⟨_, rfl, ?_⟩
        refine l_nil ⟨⟨hca.on hs28, hcb.on hs28⟩, ?_⟩
        refine wa_take 7 rfl (by kernel_rfl) (fun w' hw' => r_move rfl) (⟨hca.on hs28, hcb.on hs28⟩) rfl ?_
        refine wa_take 8 rfl (by kernel_rfl) (fun w' hw' => r_extract rfl rfl) (⟨hca.on hs28, hcb.on hs28⟩) rfl ?_
        refine wa_take 9 rfl (by kernel_rfl) (fun w' hw' => r_extract rfl rfl) (⟨hca.on hs28, hcb.on hs28⟩) rfl ?_
        refine wa_one [12] (by kernel_rfl) rfl ?_
        intro i hi
        simp only [List.mem_cons, List.not_mem_nil, or_false] at hi
        subst hi
        refine ⟨_, rfl, ?_⟩
        have hq29 := queue_one (hs28.get (r := .ro F _) List.mem_cons_self).1
        refine l_storeAll (vs := ca) rfl rfl (by rw [hq29.1]; exact sz52) hq29.2 (Nat.zero_le _) hs28 (Repl.there Repl.here) (by rw [hq29.1]; first | rfl | exact (queue_one (hs28.get (r := .ro F _) List.mem_cons_self).1).1) ?_
        intro w29 hz29 hk29 hs29
        refine l_nil ⟨⟨hca.on hs29, hcb.on hs29⟩, ?_⟩
        refine wa_one [13] (by kernel_rfl) rfl ?_
        intro i hi
        simp only [List.mem_cons, List.not_mem_nil, or_false] at hi
        subst hi
        refine ⟨_, rfl, ?_⟩
        have hq30 := queue_one (hs29.get (r := .ro F _) List.mem_cons_self).2
        refine l_storeAll (vs := cb) rfl rfl (by rw [hq30.1]; exact sz52) hq30.2 (Nat.zero_le _) hs29 (Repl.there (Repl.there Repl.here)) (by rw [hq30.1]; first | rfl | exact (queue_one (hs29.get (r := .ro F _) List.mem_cons_self).1).1) ?_
        intro w30 hz30 hk30 hs30
        refine l_nil ⟨⟨hca.on hs30, hcb.on hs30⟩, ?_⟩
        exact wa_done (by kernel_rfl) ⟨_, _, _, _, _, (.cons rfl (.cons rfl (.cons rfl (.cons rfl (.cons rfl (.cons rfl .nil)))))), (((((hs30.toFront 4 rfl).toFront 4 rfl).toFront 4 rfl).toFront 4 rfl).toFront 4 rfl)⟩
  rintro _ w31 ⟨ca, cb, F, b6, b7, hsub, hs31⟩
  refine s_sub [(0, .pointer (some ⟨ga, oa, none⟩)), (1, .pointer (some ⟨gb, ob, none⟩)), (4, .pointer (some ⟨b4, 0, none⟩)), (5, .pointer (some ⟨b5, 0, none⟩)), (6, .pointer (some ⟨b6, 0, none⟩)), (7, .pointer (some ⟨b7, 0, none⟩))] hsub ?_
  refine s_seq ?_
  refine s_seq ?_
  refine s_region ?_
  refine l_r (r_move rfl) rfl ?_
  refine l_r (r_move rfl) rfl ?_
  refine l_r (r_eqp_other rfl rfl Try.underlying103 sz52 (by decide) hne (ca := cga) (cb := cgb) (ta := tga) (tb := tgb) ((hs31.below.block _ hga0).trans hga) ((hs31.below.block _ hgb0).trans hgb)) rfl ?_
  refine l_nil ?_
  refine s_else rfl ?_
  refine s_skip ?_
  refine s_seq ?_
  have hqA := queue_one (hs31.get (r := .ro F _) List.mem_cons_self).1
  have hqB := queue_one (hs31.get (r := .ro F _) List.mem_cons_self).2
  refine s_any (by kernel_rfl) (fun w' => w'.heap[b6]? = some (.cells (ca).toArray 52 (0, 0)) ∧ w'.heap[b7]? = some (.cells cb.toArray 52 (0, 0))) (fun L' w' => Sub [(4, .pointer (some ⟨b4, 0, none⟩)), (5, .pointer (some ⟨b5, 0, none⟩)), (6, .pointer (some ⟨b6, 0, none⟩)), (7, .pointer (some ⟨b7, 0, none⟩))] L' ∧ St 0 w w' [.ro F (fun w' => Kd.queue.K w' F { a with Values := (moveQ a.Values b.Values b.Depth).1 } ca ∧ Kd.queue.K w' F { b with Values := (moveQ a.Values b.Values b.Depth).2 } cb), .pt b6 ca 52, .pt b7 cb 52, .pt b5 cb 52, .pt b4 ca 52]) ?_ ?_
  ·
    intro w32 hx32 hh32
    have hs32 := hs31.ext hx32
    refine wa_take 0 rfl (by kernel_rfl) (fun w' hw' => r_loadN rfl ag52 (heap_all hw'.1) (by rw [hqA.1]; exact sz52)) (⟨hs32.get (r := .pt b6 _ _) (List.mem_cons_of_mem _ List.mem_cons_self), hs32.get (r := .pt b7 _ _) (List.mem_cons_of_mem _ (List.mem_cons_of_mem _ List.mem_cons_self))⟩) rfl ?_
    refine wa_take 1 rfl (by kernel_rfl) (fun w' hw' => r_loadN rfl ag52 (heap_all hw'.2) (by rw [hqB.1]; exact sz52)) (⟨hs32.get (r := .pt b6 _ _) (List.mem_cons_of_mem _ List.mem_cons_self), hs32.get (r := .pt b7 _ _) (List.mem_cons_of_mem _ (List.mem_cons_of_mem _ List.mem_cons_self))⟩) rfl ?_
    refine wa_one [2] (by kernel_rfl) rfl ?_
    intro i hi
    simp only [List.mem_cons, List.not_mem_nil, or_false] at hi
    subst hi
    refine ⟨_, rfl, ?_⟩
    have hq33 := queue_one (hs32.get (r := .ro F _) List.mem_cons_self).1
    refine l_storeAll (vs := ca) rfl rfl (by rw [hq33.1]; exact sz52) hq33.2 (Nat.zero_le _) hs32 (Repl.there (Repl.there (Repl.there (Repl.there Repl.here)))) (by rw [hq33.1]; first | rfl | exact (queue_one (hs32.get (r := .ro F _) List.mem_cons_self).1).1) ?_
    intro w33 hz33 hk33 hs33
    refine l_nil ⟨⟨hs33.get (r := .pt b6 _ _) (List.mem_cons_of_mem _ List.mem_cons_self), hs33.get (r := .pt b7 _ _) (List.mem_cons_of_mem _ (List.mem_cons_of_mem _ List.mem_cons_self))⟩, ?_⟩
    refine wa_one [3] (by kernel_rfl) rfl ?_
    intro i hi
    simp only [List.mem_cons, List.not_mem_nil, or_false] at hi
    subst hi
    refine ⟨_, rfl, ?_⟩
    have hq34 := queue_one (hs33.get (r := .ro F _) List.mem_cons_self).2
    refine l_storeAll (vs := cb) rfl rfl (by rw [hq34.1]; exact sz52) hq34.2 (Nat.zero_le _) hs33 (Repl.there (Repl.there (Repl.there Repl.here))) (by rw [hq34.1]; first | rfl | exact (queue_one (hs33.get (r := .ro F _) List.mem_cons_self).1).1) ?_
    intro w34 hz34 hk34 hs34
    refine l_nil ⟨⟨hs34.get (r := .pt b6 _ _) (List.mem_cons_of_mem _ List.mem_cons_self), hs34.get (r := .pt b7 _ _) (List.mem_cons_of_mem _ (List.mem_cons_of_mem _ List.mem_cons_self))⟩, ?_⟩
    exact wa_done (by kernel_rfl) ⟨(.cons rfl (.cons rfl (.cons rfl (.cons rfl .nil)))), hs34⟩
  rintro _ w35 ⟨hsub, hs35⟩
  refine s_sub [(4, .pointer (some ⟨b4, 0, none⟩)), (5, .pointer (some ⟨b5, 0, none⟩)), (6, .pointer (some ⟨b6, 0, none⟩)), (7, .pointer (some ⟨b7, 0, none⟩))] hsub ?_
  refine s_ret ?_
  exact q_done (.inr rfl) (.cellN (cs := ca) rfl ag52 (by rw [hqA.1]; exact sz52) (heap_all (hs35.get (r := .pt b4 _ _) (List.mem_cons_of_mem _ (List.mem_cons_of_mem _ (List.mem_cons_of_mem _ (List.mem_cons_of_mem _ List.mem_cons_self)))))) (.cellN (cs := cb) rfl ag52 (by rw [hqB.1]; exact sz52) (heap_all (hs35.get (r := .pt b5 _ _) (List.mem_cons_of_mem _ (List.mem_cons_of_mem _ (List.mem_cons_of_mem _ List.mem_cons_self))))) .nil)) ⟨_, _, F, rfl, hs35.one⟩

set_option maxRecDepth 100000 in
theorem bring_same {a b : TQueue} {pa pb : List Value} {ga oa : Nat} (w : World) {ok ok2 : Nat → Prop} (hca : Cells w ga oa pa) (hcb : Cells w ga oa pb) (hKa : Kd.queue.K w ok a pa) (hKb : Kd.queue.K w ok2 b pb) (hba : a.Values.length ≤ 100000000) (hbb : b.Values.length ≤ 100000000) :
    Calls Try.prog 43 #[.pointer (some ⟨ga, oa, none⟩), .pointer (some ⟨ga, oa, none⟩)] w (fun e w' => ∃ (ca cb : List Value) (F : Nat → Prop), e = .returned (.tuple #[.agg ca.toArray, .agg cb.toArray]) ∧ St 0 w w' [.ro F (fun w' => Kd.queue.K w' F { b with Values := (moveQ a.Values b.Values b.Depth).2 } ca ∧ Kd.queue.K w' F { b with Values := (moveQ a.Values b.Values b.Depth).2 } cb)]) := by
  refine q_call (n := 24) (args := [.pointer (some ⟨ga, oa, none⟩), .pointer (some ⟨ga, oa, none⟩)]) Try.func43 rfl rfl rfl ?_
  have hla := Kd.queue.len hKa
  have hlb := Kd.queue.len hKb
  have hs0 := St.refl 0 w
  refine s_seq ?_
  refine s_region ?_
  refine l_alloc zz52 rfl hs0 ?_
  intro w1 b4 hb4 hx1 hs1
  refine l_alloc zz52 rfl hs1 ?_
  intro w2 b5 hb5 hx2 hs2
  refine l_nil ?_
  refine s_seq ?_
  refine s_any (by kernel_rfl) (fun w' => Cells w' ga oa pa ∧ Cells w' ga oa pb) (fun L' w' => ∃ (ca cb : List Value) (F : Nat → Prop) (b6 b7 : Nat), Sub [(0, .pointer (some ⟨ga, oa, none⟩)), (1, .pointer (some ⟨ga, oa, none⟩)), (4, .pointer (some ⟨b4, 0, none⟩)), (5, .pointer (some ⟨b5, 0, none⟩)), (6, .pointer (some ⟨b6, 0, none⟩)), (7, .pointer (some ⟨b7, 0, none⟩))] L' ∧ St 0 w w' [.ro F (fun w' => Kd.queue.K w' F { a with Values := (moveQ a.Values b.Values b.Depth).1 } ca ∧ Kd.queue.K w' F { b with Values := (moveQ a.Values b.Values b.Depth).2 } cb), .pt b6 ca 52, .pt b7 cb 52, .pt b5 [.int .i64 0, .slice none 0 0, .int .i64 0] 52, .pt b4 [.int .i64 0, .slice none 0 0, .int .i64 0] 52]) ?_ ?_
  ·
    intro w3 hx3 hh3
    have hs3 := hs2.ext hx3
    refine wa_take 0 rfl (by kernel_rfl) (fun w' hw' => r_move rfl) (⟨hca.on hs3, hcb.on hs3⟩) rfl ?_
    refine wa_take 1 rfl (by kernel_rfl) (fun w' hw' => r_nilcheck rfl) (⟨hca.on hs3, hcb.on hs3⟩) rfl ?_
    refine wa_take 2 rfl (by kernel_rfl) (fun w' hw' => r_loadN rfl ag52 hw'.1 (by rw [hla]; exact sz52)) (⟨hca.on hs3, hcb.on hs3⟩) rfl ?_
    refine wa_take 3 rfl (by kernel_rfl) (fun w' hw' => r_move rfl) (⟨hca.on hs3, hcb.on hs3⟩) rfl ?_
    refine wa_take 4 rfl (by kernel_rfl) (fun w' hw' => r_nilcheck rfl) (⟨hca.on hs3, hcb.on hs3⟩) rfl ?_
    refine wa_take 5 rfl (by kernel_rfl) (fun w' hw' => r_loadN rfl ag52 hw'.2 (by rw [hlb]; exact sz52)) (⟨hca.on hs3, hcb.on hs3⟩) rfl ?_
    refine wa_one [6, 10, 11] (by kernel_rfl) rfl ?_
    intro i hi
    simp only [List.mem_cons, List.not_mem_nil, or_false] at hi
    rcases hi with rfl | rfl | rfl
    ·
      refine ⟨_, rfl, ?_⟩
      refine l_call rfl rfl fk80 rfl (move80 w3 (Kd.queue.move (fun k _ hk => (hs3).below.block k hk) hKa) (Kd.queue.move (fun k _ hk => (hs3).below.block k hk) hKb) hba hbb) ?_
      rintro _ w4 ⟨ca, cb, F, rfl, hc4⟩
      have hs4 := hs3.call1 hc4
      refine ⟨_, rfl, ?_⟩
      refine l_nil ⟨⟨hca.on hs4, hcb.on hs4⟩, ?_⟩
      refine wa_take 7 rfl (by kernel_rfl) (fun w' hw' => r_move rfl) (⟨hca.on hs4, hcb.on hs4⟩) rfl ?_
      refine wa_take 8 rfl (by kernel_rfl) (fun w' hw' => r_extract rfl rfl) (⟨hca.on hs4, hcb.on hs4⟩) rfl ?_
      refine wa_take 9 rfl (by kernel_rfl) (fun w' hw' => r_extract rfl rfl) (⟨hca.on hs4, hcb.on hs4⟩) rfl ?_
      refine wa_one [10, 11] (by kernel_rfl) rfl ?_
      intro i hi
      simp only [List.mem_cons, List.not_mem_nil, or_false] at hi
      rcases hi with rfl | rfl
      ·
        refine ⟨_, rfl, ?_⟩
        refine l_alloc zz52 rfl hs4 ?_
        intro w5 b6 hb6 hx5 hs5
        refine l_nil ⟨⟨hca.on hs5, hcb.on hs5⟩, ?_⟩
        refine wa_one [11] (by kernel_rfl) rfl ?_
        intro i hi
        simp only [List.mem_cons, List.not_mem_nil, or_false] at hi
        subst hi
        refine ⟨_, rfl, ?_⟩
        refine l_alloc zz52 rfl hs5 ?_
        intro w6 b7 hb7 hx6 hs6
        refine l_nil ⟨⟨hca.on hs6, hcb.on hs6⟩, ?_⟩
        refine wa_one [12] (by kernel_rfl) rfl ?_
        intro i hi
        simp only [List.mem_cons, List.not_mem_nil, or_false] at hi
        subst hi
        refine ⟨_, rfl, ?_⟩
        have hq7 := queue_one (hs6.get (r := .ro F _) (List.mem_cons_of_mem _ (List.mem_cons_of_mem _ List.mem_cons_self))).1
        refine l_storeAll (vs := ca) rfl rfl (by rw [hq7.1]; exact sz52) hq7.2 (Nat.zero_le _) hs6 (Repl.there Repl.here) (by rw [hq7.1]; first | rfl | exact (queue_one (hs6.get (r := .ro F _) (List.mem_cons_of_mem _ (List.mem_cons_of_mem _ List.mem_cons_self))).1).1) ?_
        intro w7 hz7 hk7 hs7
        refine l_nil ⟨⟨hca.on hs7, hcb.on hs7⟩, ?_⟩
        refine wa_one [13] (by kernel_rfl) rfl ?_
        intro i hi
        simp only [List.mem_cons, List.not_mem_nil, or_false] at hi
        subst hi
        refine ⟨_, rfl, ?_⟩
        have hq8 := queue_one (hs7.get (r := .ro F _) (List.mem_cons_of_mem _ (List.mem_cons_of_mem _ List.mem_cons_self))).2
        refine l_storeAll (vs := cb) rfl rfl (by rw [hq8.1]; exact sz52) hq8.2 (Nat.zero_le _) hs7 Repl.here (by rw [hq8.1]; first | rfl | exact (queue_one (hs7.get (r := .ro F _) (List.mem_cons_of_mem _ (List.mem_cons_of_mem _ List.mem_cons_self))).1).1) ?_
        intro w8 hz8 hk8 hs8
        refine l_nil ⟨⟨hca.on hs8, hcb.on hs8⟩, ?_⟩
        exact wa_done (by kernel_rfl) ⟨_, _, _, _, _, (.cons rfl (.cons rfl (.cons rfl (.cons rfl (.cons rfl (.cons rfl .nil)))))), (((((hs8.toFront 4 rfl).toFront 4 rfl).toFront 2 rfl).toFront 3 rfl).toFront 4 rfl)⟩
      ·
        refine ⟨_, rfl, ?_⟩
        refine l_alloc zz52 rfl hs4 ?_
        intro w9 b7 hb7 hx9 hs9
        refine l_nil ⟨⟨hca.on hs9, hcb.on hs9⟩, ?_⟩
        refine wa_one [10] (by kernel_rfl) rfl ?_
        intro i hi
        simp only [List.mem_cons, List.not_mem_nil, or_false] at hi
        subst hi
        refine ⟨_, rfl, ?_⟩
        refine l_alloc zz52 rfl hs9 ?_
        intro w10 b6 hb6 hx10 hs10
        refine l_nil ⟨⟨hca.on hs10, hcb.on hs10⟩, ?_⟩
        refine wa_one [12] (by kernel_rfl) rfl ?_
        intro i hi
        simp only [List.mem_cons, List.not_mem_nil, or_false] at hi
        subst hi
        refine ⟨_, rfl, ?_⟩
        have hq11 := queue_one (hs10.get (r := .ro F _) (List.mem_cons_of_mem _ (List.mem_cons_of_mem _ List.mem_cons_self))).1
        refine l_storeAll (vs := ca) rfl rfl (by rw [hq11.1]; exact sz52) hq11.2 (Nat.zero_le _) hs10 Repl.here (by rw [hq11.1]; first | rfl | exact (queue_one (hs10.get (r := .ro F _) (List.mem_cons_of_mem _ (List.mem_cons_of_mem _ List.mem_cons_self))).1).1) ?_
        intro w11 hz11 hk11 hs11
        refine l_nil ⟨⟨hca.on hs11, hcb.on hs11⟩, ?_⟩
        refine wa_one [13] (by kernel_rfl) rfl ?_
        intro i hi
        simp only [List.mem_cons, List.not_mem_nil, or_false] at hi
        subst hi
        refine ⟨_, rfl, ?_⟩
        have hq12 := queue_one (hs11.get (r := .ro F _) (List.mem_cons_of_mem _ (List.mem_cons_of_mem _ List.mem_cons_self))).2
        refine l_storeAll (vs := cb) rfl rfl (by rw [hq12.1]; exact sz52) hq12.2 (Nat.zero_le _) hs11 (Repl.there Repl.here) (by rw [hq12.1]; first | rfl | exact (queue_one (hs11.get (r := .ro F _) (List.mem_cons_of_mem _ (List.mem_cons_of_mem _ List.mem_cons_self))).1).1) ?_
        intro w12 hz12 hk12 hs12
        refine l_nil ⟨⟨hca.on hs12, hcb.on hs12⟩, ?_⟩
        exact wa_done (by kernel_rfl) ⟨_, _, _, _, _, (.cons rfl (.cons rfl (.cons rfl (.cons rfl (.cons rfl (.cons rfl .nil)))))), (((((hs12.toFront 4 rfl).toFront 4 rfl).toFront 3 rfl).toFront 3 rfl).toFront 4 rfl)⟩
    ·
      refine ⟨_, rfl, ?_⟩
      refine l_alloc zz52 rfl hs3 ?_
      intro w13 b6 hb6 hx13 hs13
      refine l_nil ⟨⟨hca.on hs13, hcb.on hs13⟩, ?_⟩
      refine wa_one [6, 11] (by kernel_rfl) rfl ?_
      intro i hi
      simp only [List.mem_cons, List.not_mem_nil, or_false] at hi
      rcases hi with rfl | rfl
      ·
        refine ⟨_, rfl, ?_⟩
        refine l_call rfl rfl fk80 rfl (move80 w13 (Kd.queue.move (fun k _ hk => (hs13).below.block k hk) hKa) (Kd.queue.move (fun k _ hk => (hs13).below.block k hk) hKb) hba hbb) ?_
        rintro _ w14 ⟨ca, cb, F, rfl, hc14⟩
        have hs14 := hs13.call1 hc14
        refine ⟨_, rfl, ?_⟩
        refine l_nil ⟨⟨hca.on hs14, hcb.on hs14⟩, ?_⟩
        refine wa_take 7 rfl (by kernel_rfl) (fun w' hw' => r_move rfl) (⟨hca.on hs14, hcb.on hs14⟩) rfl ?_
        refine wa_take 8 rfl (by kernel_rfl) (fun w' hw' => r_extract rfl rfl) (⟨hca.on hs14, hcb.on hs14⟩) rfl ?_
        refine wa_take 9 rfl (by kernel_rfl) (fun w' hw' => r_extract rfl rfl) (⟨hca.on hs14, hcb.on hs14⟩) rfl ?_
        refine wa_one [11] (by kernel_rfl) rfl ?_
        intro i hi
        simp only [List.mem_cons, List.not_mem_nil, or_false] at hi
        subst hi
        refine ⟨_, rfl, ?_⟩
        refine l_alloc zz52 rfl hs14 ?_
        intro w15 b7 hb7 hx15 hs15
        refine l_nil ⟨⟨hca.on hs15, hcb.on hs15⟩, ?_⟩
        refine wa_one [12] (by kernel_rfl) rfl ?_
        intro i hi
        simp only [List.mem_cons, List.not_mem_nil, or_false] at hi
        subst hi
        refine ⟨_, rfl, ?_⟩
        have hq16 := queue_one (hs15.get (r := .ro F _) (List.mem_cons_of_mem _ List.mem_cons_self)).1
        refine l_storeAll (vs := ca) rfl rfl (by rw [hq16.1]; exact sz52) hq16.2 (Nat.zero_le _) hs15 (Repl.there (Repl.there Repl.here)) (by rw [hq16.1]; first | rfl | exact (queue_one (hs15.get (r := .ro F _) (List.mem_cons_of_mem _ List.mem_cons_self)).1).1) ?_
        intro w16 hz16 hk16 hs16
        refine l_nil ⟨⟨hca.on hs16, hcb.on hs16⟩, ?_⟩
        refine wa_one [13] (by kernel_rfl) rfl ?_
        intro i hi
        simp only [List.mem_cons, List.not_mem_nil, or_false] at hi
        subst hi
        refine ⟨_, rfl, ?_⟩
        have hq17 := queue_one (hs16.get (r := .ro F _) (List.mem_cons_of_mem _ List.mem_cons_self)).2
        refine l_storeAll (vs := cb) rfl rfl (by rw [hq17.1]; exact sz52) hq17.2 (Nat.zero_le _) hs16 Repl.here (by rw [hq17.1]; first | rfl | exact (queue_one (hs16.get (r := .ro F _) (List.mem_cons_of_mem _ List.mem_cons_self)).1).1) ?_
        intro w17 hz17 hk17 hs17
        refine l_nil ⟨⟨hca.on hs17, hcb.on hs17⟩, ?_⟩
        exact wa_done (by kernel_rfl) ⟨_, _, _, _, _, (.cons rfl (.cons rfl (.cons rfl (.cons rfl (.cons rfl (.cons rfl .nil)))))), (((((hs17.toFront 4 rfl).toFront 4 rfl).toFront 2 rfl).toFront 4 rfl).toFront 4 rfl)⟩
      ·
        refine ⟨_, rfl, ?_⟩
        refine l_alloc zz52 rfl hs13 ?_
        intro w18 b7 hb7 hx18 hs18
        refine l_nil ⟨⟨hca.on hs18, hcb.on hs18⟩, ?_⟩
        refine wa_one [6] (by kernel_rfl) rfl ?_
        intro i hi
        simp only [List.mem_cons, List.not_mem_nil, or_false] at hi
        subst hi
        refine ⟨_, rfl, ?_⟩
        refine l_call rfl rfl fk80 rfl (move80 w18 (Kd.queue.move (fun k _ hk => (hs18).below.block k hk) hKa) (Kd.queue.move (fun k _ hk => (hs18).below.block k hk) hKb) hba hbb) ?_
        rintro _ w19 ⟨ca, cb, F, rfl, hc19⟩
        have hs19 := hs18.call1 hc19
        refine ⟨_, rfl, ?_⟩
        refine l_nil ⟨⟨hca.on hs19, hcb.on hs19⟩, ?_⟩
        refine wa_take 7 rfl (by kernel_rfl) (fun w' hw' => r_move rfl) (⟨hca.on hs19, hcb.on hs19⟩) rfl ?_
        refine wa_take 8 rfl (by kernel_rfl) (fun w' hw' => r_extract rfl rfl) (⟨hca.on hs19, hcb.on hs19⟩) rfl ?_
        refine wa_take 9 rfl (by kernel_rfl) (fun w' hw' => r_extract rfl rfl) (⟨hca.on hs19, hcb.on hs19⟩) rfl ?_
        refine wa_one [12] (by kernel_rfl) rfl ?_
        intro i hi
        simp only [List.mem_cons, List.not_mem_nil, or_false] at hi
        subst hi
        refine ⟨_, rfl, ?_⟩
        have hq20 := queue_one (hs19.get (r := .ro F _) List.mem_cons_self).1
        refine l_storeAll (vs := ca) rfl rfl (by rw [hq20.1]; exact sz52) hq20.2 (Nat.zero_le _) hs19 (Repl.there (Repl.there Repl.here)) (by rw [hq20.1]; first | rfl | exact (queue_one (hs19.get (r := .ro F _) List.mem_cons_self).1).1) ?_
        intro w20 hz20 hk20 hs20
        refine l_nil ⟨⟨hca.on hs20, hcb.on hs20⟩, ?_⟩
        refine wa_one [13] (by kernel_rfl) rfl ?_
        intro i hi
        simp only [List.mem_cons, List.not_mem_nil, or_false] at hi
        subst hi
        refine ⟨_, rfl, ?_⟩
        have hq21 := queue_one (hs20.get (r := .ro F _) List.mem_cons_self).2
        refine l_storeAll (vs := cb) rfl rfl (by rw [hq21.1]; exact sz52) hq21.2 (Nat.zero_le _) hs20 (Repl.there Repl.here) (by rw [hq21.1]; first | rfl | exact (queue_one (hs20.get (r := .ro F _) List.mem_cons_self).1).1) ?_
        intro w21 hz21 hk21 hs21
        refine l_nil ⟨⟨hca.on hs21, hcb.on hs21⟩, ?_⟩
        exact wa_done (by kernel_rfl) ⟨_, _, _, _, _, (.cons rfl (.cons rfl (.cons rfl (.cons rfl (.cons rfl (.cons rfl .nil)))))), (((((hs21.toFront 4 rfl).toFront 4 rfl).toFront 3 rfl).toFront 4 rfl).toFront 4 rfl)⟩
    ·
      refine ⟨_, rfl, ?_⟩
      refine l_alloc zz52 rfl hs3 ?_
      intro w22 b7 hb7 hx22 hs22
      refine l_nil ⟨⟨hca.on hs22, hcb.on hs22⟩, ?_⟩
      refine wa_one [6, 10] (by kernel_rfl) rfl ?_
      intro i hi
      simp only [List.mem_cons, List.not_mem_nil, or_false] at hi
      rcases hi with rfl | rfl
      ·
        refine ⟨_, rfl, ?_⟩
        refine l_call rfl rfl fk80 rfl (move80 w22 (Kd.queue.move (fun k _ hk => (hs22).below.block k hk) hKa) (Kd.queue.move (fun k _ hk => (hs22).below.block k hk) hKb) hba hbb) ?_
        rintro _ w23 ⟨ca, cb, F, rfl, hc23⟩
        have hs23 := hs22.call1 hc23
        refine ⟨_, rfl, ?_⟩
        refine l_nil ⟨⟨hca.on hs23, hcb.on hs23⟩, ?_⟩
        refine wa_take 7 rfl (by kernel_rfl) (fun w' hw' => r_move rfl) (⟨hca.on hs23, hcb.on hs23⟩) rfl ?_
        refine wa_take 8 rfl (by kernel_rfl) (fun w' hw' => r_extract rfl rfl) (⟨hca.on hs23, hcb.on hs23⟩) rfl ?_
        refine wa_take 9 rfl (by kernel_rfl) (fun w' hw' => r_extract rfl rfl) (⟨hca.on hs23, hcb.on hs23⟩) rfl ?_
        refine wa_one [10] (by kernel_rfl) rfl ?_
        intro i hi
        simp only [List.mem_cons, List.not_mem_nil, or_false] at hi
        subst hi
        refine ⟨_, rfl, ?_⟩
        refine l_alloc zz52 rfl hs23 ?_
        intro w24 b6 hb6 hx24 hs24
        refine l_nil ⟨⟨hca.on hs24, hcb.on hs24⟩, ?_⟩
        refine wa_one [12] (by kernel_rfl) rfl ?_
        intro i hi
        simp only [List.mem_cons, List.not_mem_nil, or_false] at hi
        subst hi
        refine ⟨_, rfl, ?_⟩
        have hq25 := queue_one (hs24.get (r := .ro F _) (List.mem_cons_of_mem _ List.mem_cons_self)).1
        refine l_storeAll (vs := ca) rfl rfl (by rw [hq25.1]; exact sz52) hq25.2 (Nat.zero_le _) hs24 Repl.here (by rw [hq25.1]; first | rfl | exact (queue_one (hs24.get (r := .ro F _) (List.mem_cons_of_mem _ List.mem_cons_self)).1).1) ?_
        intro w25 hz25 hk25 hs25
        refine l_nil ⟨⟨hca.on hs25, hcb.on hs25⟩, ?_⟩
        refine wa_one [13] (by kernel_rfl) rfl ?_
        intro i hi
        simp only [List.mem_cons, List.not_mem_nil, or_false] at hi
        subst hi
        refine ⟨_, rfl, ?_⟩
        have hq26 := queue_one (hs25.get (r := .ro F _) (List.mem_cons_of_mem _ List.mem_cons_self)).2
        refine l_storeAll (vs := cb) rfl rfl (by rw [hq26.1]; exact sz52) hq26.2 (Nat.zero_le _) hs25 (Repl.there (Repl.there Repl.here)) (by rw [hq26.1]; first | rfl | exact (queue_one (hs25.get (r := .ro F _) (List.mem_cons_of_mem _ List.mem_cons_self)).1).1) ?_
        intro w26 hz26 hk26 hs26
        refine l_nil ⟨⟨hca.on hs26, hcb.on hs26⟩, ?_⟩
        exact wa_done (by kernel_rfl) ⟨_, _, _, _, _, (.cons rfl (.cons rfl (.cons rfl (.cons rfl (.cons rfl (.cons rfl .nil)))))), (((((hs26.toFront 4 rfl).toFront 4 rfl).toFront 4 rfl).toFront 3 rfl).toFront 4 rfl)⟩
      ·
        refine ⟨_, rfl, ?_⟩
        refine l_alloc zz52 rfl hs22 ?_
        intro w27 b6 hb6 hx27 hs27
        refine l_nil ⟨⟨hca.on hs27, hcb.on hs27⟩, ?_⟩
        refine wa_one [6] (by kernel_rfl) rfl ?_
        intro i hi
        simp only [List.mem_cons, List.not_mem_nil, or_false] at hi
        subst hi
        refine ⟨_, rfl, ?_⟩
        refine l_call rfl rfl fk80 rfl (move80 w27 (Kd.queue.move (fun k _ hk => (hs27).below.block k hk) hKa) (Kd.queue.move (fun k _ hk => (hs27).below.block k hk) hKb) hba hbb) ?_
        rintro _ w28 ⟨ca, cb, F, rfl, hc28⟩
        have hs28 := hs27.call1 hc28
        refine ⟨_, rfl, ?_⟩
        refine l_nil ⟨⟨hca.on hs28, hcb.on hs28⟩, ?_⟩
        refine wa_take 7 rfl (by kernel_rfl) (fun w' hw' => r_move rfl) (⟨hca.on hs28, hcb.on hs28⟩) rfl ?_
        refine wa_take 8 rfl (by kernel_rfl) (fun w' hw' => r_extract rfl rfl) (⟨hca.on hs28, hcb.on hs28⟩) rfl ?_
        refine wa_take 9 rfl (by kernel_rfl) (fun w' hw' => r_extract rfl rfl) (⟨hca.on hs28, hcb.on hs28⟩) rfl ?_
        refine wa_one [12] (by kernel_rfl) rfl ?_
        intro i hi
        simp only [List.mem_cons, List.not_mem_nil, or_false] at hi
        subst hi
        refine ⟨_, rfl, ?_⟩
        have hq29 := queue_one (hs28.get (r := .ro F _) List.mem_cons_self).1
        refine l_storeAll (vs := ca) rfl rfl (by rw [hq29.1]; exact sz52) hq29.2 (Nat.zero_le _) hs28 (Repl.there Repl.here) (by rw [hq29.1]; first | rfl | exact (queue_one (hs28.get (r := .ro F _) List.mem_cons_self).1).1) ?_
        intro w29 hz29 hk29 hs29
        refine l_nil ⟨⟨hca.on hs29, hcb.on hs29⟩, ?_⟩
        refine wa_one [13] (by kernel_rfl) rfl ?_
        intro i hi
        simp only [List.mem_cons, List.not_mem_nil, or_false] at hi
        subst hi
        refine ⟨_, rfl, ?_⟩
        have hq30 := queue_one (hs29.get (r := .ro F _) List.mem_cons_self).2
        refine l_storeAll (vs := cb) rfl rfl (by rw [hq30.1]; exact sz52) hq30.2 (Nat.zero_le _) hs29 (Repl.there (Repl.there Repl.here)) (by rw [hq30.1]; first | rfl | exact (queue_one (hs29.get (r := .ro F _) List.mem_cons_self).1).1) ?_
        intro w30 hz30 hk30 hs30
        refine l_nil ⟨⟨hca.on hs30, hcb.on hs30⟩, ?_⟩
        exact wa_done (by kernel_rfl) ⟨_, _, _, _, _, (.cons rfl (.cons rfl (.cons rfl (.cons rfl (.cons rfl (.cons rfl .nil)))))), (((((hs30.toFront 4 rfl).toFront 4 rfl).toFront 4 rfl).toFront 4 rfl).toFront 4 rfl)⟩
  rintro _ w31 ⟨ca, cb, F, b6, b7, hsub, hs31⟩
  refine s_sub [(0, .pointer (some ⟨ga, oa, none⟩)), (1, .pointer (some ⟨ga, oa, none⟩)), (4, .pointer (some ⟨b4, 0, none⟩)), (5, .pointer (some ⟨b5, 0, none⟩)), (6, .pointer (some ⟨b6, 0, none⟩)), (7, .pointer (some ⟨b7, 0, none⟩))] hsub ?_
  refine s_seq ?_
  refine s_seq ?_
  refine s_region ?_
  refine l_r (r_move rfl) rfl ?_
  refine l_r (r_move rfl) rfl ?_
  refine l_r (r_eqp_same rfl rfl Try.underlying103 rfl) rfl ?_
  refine l_nil ?_
  refine s_then rfl ?_
  refine s_region ?_
  have hqb := queue_one (hs31.get (r := .ro F _) List.mem_cons_self).2
  refine l_r (r_loadNp rfl hs31 (Repl.there (Repl.there Repl.here)) ag52 (by rw [hqb.1]; exact sz52)) rfl ?_
  have hq32 := queue_one (hs31.get (r := .ro F _) List.mem_cons_self).2
  refine l_storeAll (vs := cb) rfl rfl (by rw [hq32.1]; exact sz52) hq32.2 (Nat.zero_le _) hs31 (Repl.there Repl.here) (by rw [hq32.1]; first | rfl | exact (queue_one (hs31.get (r := .ro F _) List.mem_cons_self).1).1) ?_
  intro w32 hz32 hk32 hs32
  refine l_nil ?_
  refine s_seq ?_
  have hqA := queue_one (hs32.get (r := .ro F _) List.mem_cons_self).2
  have hqB := queue_one (hs32.get (r := .ro F _) List.mem_cons_self).2
  refine s_any (by kernel_rfl) (fun w' => w'.heap[b6]? = some (.cells (cb).toArray 52 (0, 0)) ∧ w'.heap[b7]? = some (.cells cb.toArray 52 (0, 0))) (fun L' w' => Sub [(4, .pointer (some ⟨b4, 0, none⟩)), (5, .pointer (some ⟨b5, 0, none⟩)), (6, .pointer (some ⟨b6, 0, none⟩)), (7, .pointer (some ⟨b7, 0, none⟩))] L' ∧ St 0 w w' [.ro F (fun w' => Kd.queue.K w' F { a with Values := (moveQ a.Values b.Values b.Depth).1 } ca ∧ Kd.queue.K w' F { b with Values := (moveQ a.Values b.Values b.Depth).2 } cb), .pt b6 cb 52, .pt b7 cb 52, .pt b5 cb 52, .pt b4 cb 52]) ?_ ?_
  ·
    intro w33 hx33 hh33
    have hs33 := hs32.ext hx33
    refine wa_take 0 rfl (by kernel_rfl) (fun w' hw' => r_loadN rfl ag52 (heap_all hw'.1) (by rw [hqA.1]; exact sz52)) (⟨hs33.get (r := .pt b6 _ _) (List.mem_cons_of_mem _ List.mem_cons_self), hs33.get (r := .pt b7 _ _) (List.mem_cons_of_mem _ (List.mem_cons_of_mem _ List.mem_cons_self))⟩) rfl ?_
    refine wa_take 1 rfl (by kernel_rfl) (fun w' hw' => r_loadN rfl ag52 (heap_all hw'.2) (by rw [hqB.1]; exact sz52)) (⟨hs33.get (r := .pt b6 _ _) (List.mem_cons_of_mem _ List.mem_cons_self), hs33.get (r := .pt b7 _ _) (List.mem_cons_of_mem _ (List.mem_cons_of_mem _ List.mem_cons_self))⟩) rfl ?_
    refine wa_one [2] (by kernel_rfl) rfl ?_
    intro i hi
    simp only [List.mem_cons, List.not_mem_nil, or_false] at hi
    subst hi
    refine ⟨_, rfl, ?_⟩
    have hq34 := queue_one (hs33.get (r := .ro F _) List.mem_cons_self).2
    refine l_storeAll (vs := cb) rfl rfl (by rw [hq34.1]; exact sz52) hq34.2 (Nat.zero_le _) hs33 (Repl.there (Repl.there (Repl.there (Repl.there Repl.here)))) (by rw [hq34.1]; first | rfl | exact (queue_one (hs33.get (r := .ro F _) List.mem_cons_self).1).1) ?_
    intro w34 hz34 hk34 hs34
    refine l_nil ⟨⟨hs34.get (r := .pt b6 _ _) (List.mem_cons_of_mem _ List.mem_cons_self), hs34.get (r := .pt b7 _ _) (List.mem_cons_of_mem _ (List.mem_cons_of_mem _ List.mem_cons_self))⟩, ?_⟩
    refine wa_one [3] (by kernel_rfl) rfl ?_
    intro i hi
    simp only [List.mem_cons, List.not_mem_nil, or_false] at hi
    subst hi
    refine ⟨_, rfl, ?_⟩
    have hq35 := queue_one (hs34.get (r := .ro F _) List.mem_cons_self).2
    refine l_storeAll (vs := cb) rfl rfl (by rw [hq35.1]; exact sz52) hq35.2 (Nat.zero_le _) hs34 (Repl.there (Repl.there (Repl.there Repl.here))) (by rw [hq35.1]; first | rfl | exact (queue_one (hs34.get (r := .ro F _) List.mem_cons_self).1).1) ?_
    intro w35 hz35 hk35 hs35
    refine l_nil ⟨⟨hs35.get (r := .pt b6 _ _) (List.mem_cons_of_mem _ List.mem_cons_self), hs35.get (r := .pt b7 _ _) (List.mem_cons_of_mem _ (List.mem_cons_of_mem _ List.mem_cons_self))⟩, ?_⟩
    exact wa_done (by kernel_rfl) ⟨(.cons rfl (.cons rfl (.cons rfl (.cons rfl .nil)))), hs35⟩
  rintro _ w36 ⟨hsub, hs36⟩
  refine s_sub [(4, .pointer (some ⟨b4, 0, none⟩)), (5, .pointer (some ⟨b5, 0, none⟩)), (6, .pointer (some ⟨b6, 0, none⟩)), (7, .pointer (some ⟨b7, 0, none⟩))] hsub ?_
  refine s_ret ?_
  exact q_done (.inr rfl) (.cellN (cs := cb) rfl ag52 (by rw [hqA.1]; exact sz52) (heap_all (hs36.get (r := .pt b4 _ _) (List.mem_cons_of_mem _ (List.mem_cons_of_mem _ (List.mem_cons_of_mem _ (List.mem_cons_of_mem _ List.mem_cons_self)))))) (.cellN (cs := cb) rfl ag52 (by rw [hqB.1]; exact sz52) (heap_all (hs36.get (r := .pt b5 _ _) (List.mem_cons_of_mem _ (List.mem_cons_of_mem _ (List.mem_cons_of_mem _ List.mem_cons_self))))) .nil)) ⟨_, _, F, rfl, hs36.one.hide (fun w' => Kd.queue.K w' F { b with Values := (moveQ a.Values b.Values b.Depth).2 } cb ∧ Kd.queue.K w' F { b with Values := (moveQ a.Values b.Values b.Depth).2 } cb) (fun w' h => ⟨h.2, h.2⟩)⟩

end Go.Proofs.Ytfhghnhgcdiknaa
