/- The chapter's examples. -/
import Derived.Test.YtfhghnhgcdiknaaWza
set_option linter.unusedVariables false
namespace Go.Proofs.Ytfhghnhgcdiknaa
open Go.RowKit
def awPC : TPartConf := ⟨0, [], [], 0, [], [], 0, [], [], 0, []⟩
def awX : TChannel := ⟨false, 0, 0, 1, 0⟩
def awY : TChannel := ⟨true, 0, 0, 1, 0⟩
def awC : TConfig := ⟨0, 0, [], [awPC, awPC], [], [awX]⟩
def awD : TConfig := ⟨0, 0, [], [awPC, awPC], [], [awY]⟩
def awS : TSample := ⟨true, 5, 0⟩
def awZ : TSample := ⟨false, 0, 0⟩
def awP (s : TSample) : TPart := ⟨0, 0, 0, [], [], [], [], [], [], [s], [], ⟨0, [], 0⟩, []⟩
def awP1 : TPart := awP awS
def awL : List TPart := [awP awS, awP awZ]
def awM : List TPart := [awP1, awP1]
theorem awC1 : reachV awC 1 = [true, true] := (reachV_iter ⟨by decide, by decide⟩).trans rfl
theorem awC0 : reachV awC 0 = [true, false] := (reachV_iter ⟨by decide, by decide⟩).trans rfl
theorem awD0 : reachV awD 0 = [true, true] := (reachV_iter ⟨by decide, by decide⟩).trans rfl
theorem awM_ : moveL awC awL = awM := rfl
def awZC : List Value := [.int .i64 0, .slice none 0 0, .slice none 0 0, .int .i64 0, .slice none 0 0, .slice none 0 0, .int .i64 0, .slice none 0 0, .slice none 0 0, .int .i64 0, .slice none 0 0]
theorem awPC_K (w : World) : Kd.partConf.K w (fun _ => True) awPC awZC := ⟨none, 0, none, 0, none, 0, none, 0, none, 0, none, 0, none, 0, rfl, Sl.nil _ _ _ _ (by decide), Sl.nil _ _ _ _ (by decide), Sl.nil _ _ _ _ (by decide), Sl.nil _ _ _ _ (by decide), Sl.nil _ _ _ _ (by decide), Sl.nil _ _ _ _ (by decide), Sl.nil _ _ _ _ (by decide)⟩
theorem reps1 {α : Type} {d : Kd α} {w : World} {ok : Nat → Prop} {x : α} {cs : List Value} (h : d.K w ok x cs) : Reps d w ok [x] cs := by simpa using (Reps.nil d w ok).snoc h
theorem reps2 {α : Type} {d : Kd α} {w : World} {ok : Nat → Prop} {x y : α} {cs cs2 : List Value} (h : d.K w ok x cs) (h2 : d.K w ok y cs2) : Reps d w ok [x, y] (cs ++ cs2) := (reps1 h).snoc h2
theorem awConf_K {w : World} {x : TChannel} {a b : Nat} {ca cb : List Value} (ha : w.heap[a]? = some (.cells ca.toArray 75 (0, 0))) (hca : ca = awZC ++ awZC) (hb : w.heap[b]? = some (.cells cb.toArray 32 (0, 0))) (hx : Kd.channel.K w (fun _ => True) x cb) : Kd.config.K w (fun _ => True) ⟨0, 0, [], [awPC, awPC], [], [x]⟩ [.int .i64 0, .int .i64 0, .slice none 0 0, .slice (some ⟨a, 0, none⟩) 2 2, .slice none 0 0, .slice (some ⟨b, 0, none⟩) 1 1] :=
  ⟨none, 0, some ⟨a, 0, none⟩, 2, none, 0, some ⟨b, 0, none⟩, 1, rfl, Sl.nil _ _ _ _ (by decide), sl_of_pt (d := Kd.partConf) ha (by rw [hca]; exact reps2 (awPC_K w) (awPC_K w)) trivial (show (2 : Nat) ≤ 9223372036854775807 by decide), Sl.nil _ _ _ _ (by decide), sl_of_pt (d := Kd.channel) hb (reps1 hx) trivial (show (1 : Nat) ≤ 9223372036854775807 by decide)⟩
theorem awP_K {w : World} {s : TSample} {b : Nat} {cs : List Value} (hb : w.heap[b]? = some (.cells cs.toArray 56 (0, 0))) (hs : Kd.sample.K w (fun _ => True) s cs) : Kd.part.K w (fun _ => True) (awP s) [.int .i64 0, .int .i64 0, .int .i64 0, .slice none 0 0, .slice none 0 0, .slice none 0 0, .slice none 0 0, .slice none 0 0, .slice none 0 0, .slice (some ⟨b, 0, none⟩) 1 1, .slice none 0 0, .int .i64 0, .slice none 0 0, .int .i64 0, .slice none 0 0] :=
  ⟨none, 0, none, 0, none, 0, none, 0, none, 0, none, 0, some ⟨b, 0, none⟩, 1, none, 0, none, 0, none, 0, rfl, Sl.nil _ _ _ _ (by decide), Sl.nil _ _ _ _ (by decide), Sl.nil _ _ _ _ (by decide), Sl.nil _ _ _ _ (by decide), Sl.nil _ _ _ _ (by decide), Sl.nil _ _ _ _ (by decide), sl_of_pt (d := Kd.sample) hb (reps1 hs) trivial (show (1 : Nat) ≤ 9223372036854775807 by decide), Sl.nil _ _ _ _ (by decide), Sl.nil _ _ _ _ (by decide), Sl.nil _ _ _ _ (by decide)⟩
theorem awL_K {w : World} {a b l : Nat} {cl : List Value} (ha : w.heap[a]? = some (.cells ([.bool true, .int .i64 5, .int .i64 0] : List Value).toArray 56 (0, 0))) (hb : w.heap[b]? = some (.cells ([.bool false, .int .i64 0, .int .i64 0] : List Value).toArray 56 (0, 0))) (hl : w.heap[l]? = some (.cells cl.toArray 48 (0, 0))) (hcl : cl = [.int .i64 0, .int .i64 0, .int .i64 0, .slice none 0 0, .slice none 0 0, .slice none 0 0, .slice none 0 0, .slice none 0 0, .slice none 0 0, .slice (some ⟨a, 0, none⟩) 1 1, .slice none 0 0, .int .i64 0, .slice none 0 0, .int .i64 0, .slice none 0 0] ++ [.int .i64 0, .int .i64 0, .int .i64 0, .slice none 0 0, .slice none 0 0, .slice none 0 0, .slice none 0 0, .slice none 0 0, .slice none 0 0, .slice (some ⟨b, 0, none⟩) 1 1, .slice none 0 0, .int .i64 0, .slice none 0 0, .int .i64 0, .slice none 0 0]) : Sl Kd.part w (fun _ => True) (some ⟨l, 0, none⟩) awL.length awL :=
  sl_of_pt (d := Kd.part) (xs := awL) hl (by rw [hcl]; exact reps2 (awP_K (s := awS) ha rfl) (awP_K (s := awZ) hb rfl)) trivial (by decide)
theorem awL_small : ∀ p, p ∈ awL → PartSmall p := by
  intro p hp
  simp only [awL, List.mem_cons, List.not_mem_nil, or_false] at hp
  rcases hp with rfl | rfl <;> simp [PartSmall, awP]
theorem awL_QB : QB awL 0 := by
  intro p hp q hq
  simp only [awL, List.mem_cons, List.not_mem_nil, or_false] at hp
  rcases hp with rfl | rfl <;> simp [awP] at hq

set_option maxRecDepth 100000 in
set_option maxHeartbeats 1000000 in
theorem awake_ok (w : World) :
    Calls Try.prog 9 #[] w (fun e w' => e = .returned (.bool true) ∧ Ext w w') := by
  refine q_call (n := 92) (args := []) Try.func9 rfl rfl rfl ?_
  have hs0 := St.refl 0 w
  refine s_seq ?_
  refine s_region ?_
  refine l_r (r_assign rfl) rfl ?_
  refine l_nil ?_
  refine s_seq ?_
  refine s_region ?_
  refine l_makeN (m := 2) (cs := [.int .i64 0, .slice none 0 0, .slice none 0 0, .int .i64 0, .slice none 0 0, .slice none 0 0, .int .i64 0, .slice none 0 0, .slice none 0 0, .int .i64 0, .slice none 0 0, .int .i64 0, .slice none 0 0, .slice none 0 0, .int .i64 0, .slice none 0 0, .slice none 0 0, .int .i64 0, .slice none 0 0, .slice none 0 0, .int .i64 0, .slice none 0 0]) rfl rfl Try.underlying23 rw75 (by kernel_rfl) (by decide) (by decide) rfl hs0 ?_
  intro w1 b7 hb7 hx1 hs1
  refine l_r (r_build (v := .agg ([.bool false, .int .i64 0, .int .i64 0, .int .i64 1, .int .i64 0] : List Value).toArray) rfl (by kernel_rfl)) rfl ?_
  refine l_bsN (m := 1) Try.underlying25 sz32 (by rw [zz32]; rfl) rfl rfl (by
      intro v hv
      simp only [List.mem_cons, List.not_mem_nil, or_false] at hv
      subst hv
      rfl) rfl (by decide) rfl hs1 ?_
  intro w2 b9 hb9 hx2 hs2
  refine l_r (r_build (v := .agg ([.int .i64 0, .int .i64 0, .slice none 0 0, .slice (some ⟨b7, 0, none⟩) 2 2, .slice none 0 0, .slice (some ⟨b9, 0, none⟩) 1 1] : List Value).toArray) rfl (by kernel_rfl)) rfl ?_
  refine l_alloc zz27 rfl hs2 ?_
  intro w3 b1 hb1 hx3 hs3
  refine l_storeAll rfl rfl sz27 (one_all rfl) (Nat.zero_le _) hs3 Repl.here rfl ?_
  intro w4 hz4 hk4 hs4
  refine l_nil ?_
  refine s_seq ?_
  refine s_region ?_
  refine l_makeN (m := 2) (cs := [.int .i64 0, .slice none 0 0, .slice none 0 0, .int .i64 0, .slice none 0 0, .slice none 0 0, .int .i64 0, .slice none 0 0, .slice none 0 0, .int .i64 0, .slice none 0 0, .int .i64 0, .slice none 0 0, .slice none 0 0, .int .i64 0, .slice none 0 0, .slice none 0 0, .int .i64 0, .slice none 0 0, .slice none 0 0, .int .i64 0, .slice none 0 0]) rfl rfl Try.underlying23 rw75 (by kernel_rfl) (by decide) (by decide) rfl hs4 ?_
  intro w5 b11 hb11 hx5 hs5
  refine l_r (r_build (v := .agg ([.bool true, .int .i64 0, .int .i64 0, .int .i64 1, .int .i64 0] : List Value).toArray) rfl (by kernel_rfl)) rfl ?_
  refine l_bsN (m := 1) Try.underlying25 sz32 (by rw [zz32]; rfl) rfl rfl (by
      intro v hv
      simp only [List.mem_cons, List.not_mem_nil, or_false] at hv
      subst hv
      rfl) rfl (by decide) rfl hs5 ?_
  intro w6 b13 hb13 hx6 hs6
  refine l_r (r_build (v := .agg ([.int .i64 0, .int .i64 0, .slice none 0 0, .slice (some ⟨b11, 0, none⟩) 2 2, .slice none 0 0, .slice (some ⟨b13, 0, none⟩) 1 1] : List Value).toArray) rfl (by kernel_rfl)) rfl ?_
  refine l_alloc zz27 rfl hs6 ?_
  intro w7 b2 hb2 hx7 hs7
  refine l_storeAll rfl rfl sz27 (one_all rfl) (Nat.zero_le _) hs7 Repl.here rfl ?_
  intro w8 hz8 hk8 hs8
  refine l_nil ?_
  refine s_seq ?_
  refine s_region ?_
  refine l_r (r_loadNp rfl hs8 (Repl.there (Repl.there (Repl.there Repl.here))) ag27 sz27) rfl ?_
  have hC : Kd.config.K w8 (fun _ => True) awC [.int .i64 0, .int .i64 0, .slice none 0 0, .slice (some ⟨b7, 0, none⟩) 2 2, .slice none 0 0, .slice (some ⟨b9, 0, none⟩) 1 1] := awConf_K (x := awX) (hs8.get (r := .pt b7 _ _) (List.mem_cons_of_mem _ (List.mem_cons_of_mem _ (List.mem_cons_of_mem _ (List.mem_cons_of_mem _ (List.mem_cons_of_mem _ List.mem_cons_self)))))) rfl (hs8.get (r := .pt b9 _ _) (List.mem_cons_of_mem _ (List.mem_cons_of_mem _ (List.mem_cons_of_mem _ (List.mem_cons_of_mem _ List.mem_cons_self))))) rfl
  have hD : Kd.config.K w8 (fun _ => True) awD [.int .i64 0, .int .i64 0, .slice none 0 0, .slice (some ⟨b11, 0, none⟩) 2 2, .slice none 0 0, .slice (some ⟨b13, 0, none⟩) 1 1] := awConf_K (x := awY) (hs8.get (r := .pt b11 _ _) (List.mem_cons_of_mem _ (List.mem_cons_of_mem _ List.mem_cons_self))) rfl (hs8.get (r := .pt b13 _ _) (List.mem_cons_of_mem _ List.mem_cons_self)) rfl
  have hcall := reach_val (part := 1) w8 hC (by decide)
  rw [awC1] at hcall
  refine l_call rfl rfl fk14 rfl hcall ?_
  rintro _ w9 ⟨Ar, cr, rfl, hx9, hr⟩
  have hs9 := hs8.ext hx9
  refine ⟨_, rfl, ?_⟩
  have hC := Kd.config.on hC ((St.refl 0 _).ext hx9)
  have hD := Kd.config.on hD ((St.refl 0 _).ext hx9)
  have hcb2 : Cells w9 b2 0 [.int .i64 0, .int .i64 0, .slice none 0 0, .slice (some ⟨b11, 0, none⟩) 2 2, .slice none 0 0, .slice (some ⟨b13, 0, none⟩) 1 1] := heap_all (hs9.get (r := .pt b2 _ _) List.mem_cons_self)
  have hcb1 : Cells w9 b1 0 [.int .i64 0, .int .i64 0, .slice none 0 0, .slice (some ⟨b7, 0, none⟩) 2 2, .slice none 0 0, .slice (some ⟨b9, 0, none⟩) 1 1] := heap_all (hs9.get (r := .pt b1 _ _) (List.mem_cons_of_mem _ (List.mem_cons_of_mem _ (List.mem_cons_of_mem _ List.mem_cons_self))))
  have hxb := hs9.toExt
  have hs10 := St.refl w9.heap.size w9
  refine l_r (r_assign rfl) rfl ?_
  refine l_nil ?_
  refine s_seq ?_
  refine s_region ?_
  refine l_r (r_loadN rfl ag27 (hcb1.on hs10) sz27) rfl ?_
  have hcall := reach_val (part := 0) w9 hC (by decide)
  rw [awC0] at hcall
  refine l_call rfl rfl fk14 rfl hcall ?_
  rintro _ w11 ⟨As, cs, rfl, hx11, hs⟩
  have hs11 := hs10.ext hx11
  refine ⟨_, rfl, ?_⟩
  have hC := Kd.config.on hC ((St.refl 0 _).ext hx11)
  have hD := Kd.config.on hD ((St.refl 0 _).ext hx11)
  have hcb1 := hcb1.on hs11
  have hcb2 := hcb2.on hs11
  have hr := (hr.onk hs11).all_ (by decide)
  have hxb := hxb.trans hs11.toExt
  have hs12 := St.refl w11.heap.size w11
  refine l_r (r_assign rfl) rfl ?_
  refine l_nil ?_
  refine s_seq ?_
  refine s_region ?_
  refine l_r (r_loadN rfl ag27 (hcb2.on hs12) sz27) rfl ?_
  have hcall := reach_val (part := 0) w11 hD (by decide)
  rw [awD0] at hcall
  refine l_call rfl rfl fk14 rfl hcall ?_
  rintro _ w13 ⟨Au, cu, rfl, hx13, hu⟩
  have hs13 := hs12.ext hx13
  refine ⟨_, rfl, ?_⟩
  have hC := Kd.config.on hC ((St.refl 0 _).ext hx13)
  have hD := Kd.config.on hD ((St.refl 0 _).ext hx13)
  have hcb1 := hcb1.on hs13
  have hcb2 := hcb2.on hs13
  have hr := (hr.onk hs13).all_ (by decide)
  have hs := (hs.onk hs13).all_ (by decide)
  have hxb := hxb.trans hs13.toExt
  have hs14 := St.refl w13.heap.size w13
  refine l_r (r_assign rfl) rfl ?_
  refine l_nil ?_
  refine s_seq ?_
  refine s_region ?_
  refine l_r (r_loadN rfl ag27 (hcb1.on hs14) sz27) rfl ?_
  refine l_r (r_build (v := .agg ([.bool true, .int .i64 5, .int .i64 0] : List Value).toArray) rfl (by kernel_rfl)) rfl ?_
  refine l_bsN (m := 1) Try.underlying43 sz56 (by rw [zz56]; rfl) rfl rfl (by
      intro v hv
      simp only [List.mem_cons, List.not_mem_nil, or_false] at hv
      subst hv
      rfl) rfl (by decide) rfl hs14 ?_
  intro w15 b23 hb23 hx15 hs15
  refine l_r (r_build (v := .agg ([.int .i64 0, .int .i64 0, .int .i64 0, .slice none 0 0, .slice none 0 0, .slice none 0 0, .slice none 0 0, .slice none 0 0, .slice none 0 0, .slice (some ⟨b23, 0, none⟩) 1 1, .slice none 0 0, .int .i64 0, .slice none 0 0, .int .i64 0, .slice none 0 0] : List Value).toArray) rfl (by kernel_rfl)) rfl ?_
  refine l_r (r_build (v := .agg ([.bool false, .int .i64 0, .int .i64 0] : List Value).toArray) rfl (by kernel_rfl)) rfl ?_
  refine l_bsN (m := 1) Try.underlying43 sz56 (by rw [zz56]; rfl) rfl rfl (by
      intro v hv
      simp only [List.mem_cons, List.not_mem_nil, or_false] at hv
      subst hv
      rfl) rfl (by decide) rfl hs15 ?_
  intro w16 b26 hb26 hx16 hs16
  refine l_r (r_build (v := .agg ([.int .i64 0, .int .i64 0, .int .i64 0, .slice none 0 0, .slice none 0 0, .slice none 0 0, .slice none 0 0, .slice none 0 0, .slice none 0 0, .slice (some ⟨b26, 0, none⟩) 1 1, .slice none 0 0, .int .i64 0, .slice none 0 0, .int .i64 0, .slice none 0 0] : List Value).toArray) rfl (by kernel_rfl)) rfl ?_
  refine l_bsN (m := 2) Try.underlying28 sz48 (by rw [zz48]; rfl) rfl rfl (by
      intro v hv
      simp only [List.mem_cons, List.not_mem_nil, or_false] at hv
      rcases hv with rfl | rfl <;> rfl) rfl (by decide) rfl hs16 ?_
  intro w17 b28 hb28 hx17 hs17
  have hcall := move_val w17 (Kd.config.on hC hs17) (awL_K (hs17.get (r := .pt b23 _ _) (List.mem_cons_of_mem _ (List.mem_cons_of_mem _ List.mem_cons_self))) (hs17.get (r := .pt b26 _ _) (List.mem_cons_of_mem _ List.mem_cons_self)) (hs17.get (r := .pt b28 _ _) List.mem_cons_self) rfl) (by decide) awL_small awL_QB (by decide)
  rw [awM_] at hcall
  refine l_call rfl rfl fk12 rfl hcall ?_
  rintro _ w18 ⟨Am, cm, rfl, hx18, hm⟩
  have hs18 := hs17.ext hx18
  refine ⟨_, rfl, ?_⟩
  have hcb1 := hcb1.on hs18
  have hcb2 := hcb2.on hs18
  have hr := (hr.onk hs18).all_ (by decide)
  have hs := (hs.onk hs18).all_ (by decide)
  have hu := (hu.onk hs18).all_ (by decide)
  have hxb := hxb.trans hs18.toExt
  have hs19 := St.refl w18.heap.size w18
  refine l_r (r_assign rfl) rfl ?_
  refine l_nil ?_
  refine s_seq ?_
  refine s_region ?_
  refine l_r (r_move rfl) rfl ?_
  refine l_r (r_len rfl el35) rfl ?_
  refine l_r (r_cmp rfl rfl (b := true) (congrArg some (beq_iff_eq.2 rfl))) rfl ?_
  refine l_r (r_move rfl) rfl ?_
  refine l_on (dj := 33) rfl rfl rfl ?_
  refine l_r (r_move rfl) rfl ?_
  refine l_on (dj := 33) rfl rfl rfl ?_
  obtain ⟨e20x, e20h, e20b, e20o, e20cs, e20A, _, e20K, e20c⟩ := hr.get_ (i := 0) (by decide)
  obtain rfl : e20x = true := (Option.some.inj e20h).symm
  obtain rfl : e20cs = [.bool true] := e20K
  refine l_r (r_indexA rfl e20A rfl (by decide) (by decide) el35) rfl ?_
  refine l_on (dj := 33) rfl rfl rfl ?_
  refine l_r (r_load1 rfl ag4 ((e20c.on hs19).get (j := 0) rfl)) rfl ?_
  refine l_r (r_pick_t rfl rfl) rfl ?_
  refine l_r (r_move rfl) rfl ?_
  refine l_on (dj := 38) rfl rfl rfl ?_
  refine l_r (r_move rfl) rfl ?_
  refine l_on (dj := 38) rfl rfl rfl ?_
  obtain ⟨e21x, e21h, e21b, e21o, e21cs, e21A, _, e21K, e21c⟩ := hr.get_ (i := 1) (by decide)
  obtain rfl : e21x = true := (Option.some.inj e21h).symm
  obtain rfl : e21cs = [.bool true] := e21K
  refine l_r (r_indexA rfl e21A rfl (by decide) (by decide) el35) rfl ?_
  refine l_on (dj := 38) rfl rfl rfl ?_
  refine l_r (r_load1 rfl ag4 ((e21c.on hs19).get (j := 0) rfl)) rfl ?_
  refine l_r (r_pick_t rfl rfl) rfl ?_
  refine l_r (r_move rfl) rfl ?_
  refine l_on (dj := 43) rfl rfl rfl ?_
  refine l_r (r_move rfl) rfl ?_
  refine l_on (dj := 43) rfl rfl rfl ?_
  refine l_r (r_len rfl el35) rfl ?_
  refine l_on (dj := 43) rfl rfl rfl ?_
  refine l_r (r_cmp rfl rfl (b := true) (congrArg some (beq_iff_eq.2 rfl))) rfl ?_
  refine l_r (r_pick_t rfl rfl) rfl ?_
  refine l_r (r_move rfl) rfl ?_
  refine l_on (dj := 48) rfl rfl rfl ?_
  refine l_r (r_move rfl) rfl ?_
  refine l_on (dj := 48) rfl rfl rfl ?_
  obtain ⟨e22x, e22h, e22b, e22o, e22cs, e22A, _, e22K, e22c⟩ := hs.get_ (i := 0) (by decide)
  obtain rfl : e22x = true := (Option.some.inj e22h).symm
  obtain rfl : e22cs = [.bool true] := e22K
  refine l_r (r_indexA rfl e22A rfl (by decide) (by decide) el35) rfl ?_
  refine l_on (dj := 48) rfl rfl rfl ?_
  refine l_r (r_load1 rfl ag4 ((e22c.on hs19).get (j := 0) rfl)) rfl ?_
  refine l_r (r_pick_t rfl rfl) rfl ?_
  refine l_r (r_move rfl) rfl ?_
  refine l_on (dj := 53) rfl rfl rfl ?_
  refine l_r (r_move rfl) rfl ?_
  refine l_on (dj := 53) rfl rfl rfl ?_
  obtain ⟨e23x, e23h, e23b, e23o, e23cs, e23A, _, e23K, e23c⟩ := hs.get_ (i := 1) (by decide)
  obtain rfl : e23x = false := (Option.some.inj e23h).symm
  obtain rfl : e23cs = [.bool false] := e23K
  refine l_r (r_indexA rfl e23A rfl (by decide) (by decide) el35) rfl ?_
  refine l_on (dj := 53) rfl rfl rfl ?_
  refine l_r (r_load1 rfl ag4 ((e23c.on hs19).get (j := 0) rfl)) rfl ?_
  refine l_on (dj := 53) rfl rfl rfl ?_
  refine l_r (r_not rfl) rfl ?_
  refine l_r (r_pick_t rfl rfl) rfl ?_
  refine l_r (r_move rfl) rfl ?_
  refine l_on (dj := 59) rfl rfl rfl ?_
  refine l_r (r_move rfl) rfl ?_
  refine l_on (dj := 59) rfl rfl rfl ?_
  refine l_r (r_len rfl el35) rfl ?_
  refine l_on (dj := 59) rfl rfl rfl ?_
  refine l_r (r_cmp rfl rfl (b := true) (congrArg some (beq_iff_eq.2 rfl))) rfl ?_
  refine l_r (r_pick_t rfl rfl) rfl ?_
  refine l_r (r_move rfl) rfl ?_
  refine l_on (dj := 64) rfl rfl rfl ?_
  refine l_r (r_move rfl) rfl ?_
  refine l_on (dj := 64) rfl rfl rfl ?_
  obtain ⟨e24b, e24o, e24cs, e24A, _, e24K, e24c⟩ := hu.2.2 _ _ e21h
  obtain rfl : e24cs = [.bool true] := e24K
  refine l_r (r_indexA rfl e24A rfl (by decide) (by decide) el35) rfl ?_
  refine l_on (dj := 64) rfl rfl rfl ?_
  refine l_r (r_load1 rfl ag4 ((e24c.on hs19).get (j := 0) rfl)) rfl ?_
  refine l_r (r_pick_t rfl rfl) rfl ?_
  refine l_r (r_move rfl) rfl ?_
  refine l_on (dj := 69) rfl rfl rfl ?_
  refine l_r (r_move rfl) rfl ?_
  refine l_on (dj := 69) rfl rfl rfl ?_
  refine l_r (r_len rfl el28) rfl ?_
  refine l_on (dj := 69) rfl rfl rfl ?_
  refine l_r (r_cmp rfl rfl (b := true) (congrArg some (beq_iff_eq.2 rfl))) rfl ?_
  refine l_r (r_pick_t rfl rfl) rfl ?_
  refine l_r (r_move rfl) rfl ?_
  refine l_on (dj := 74) rfl rfl rfl ?_
  refine l_r (r_move rfl) rfl ?_
  refine l_on (dj := 74) rfl rfl rfl ?_
  obtain ⟨e25x, e25h, e25b, e25o, e25cs, e25A, _, e25K, e25c⟩ := hm.get_ (i := 1) (by decide)
  obtain rfl : e25x = awP1 := (Option.some.inj e25h).symm
  have e25K0 := e25K
  obtain ⟨Ae25_3, ce25_3, Ae25_4, ce25_4, Ae25_5, ce25_5, Ae25_6, ce25_6, Ae25_7, ce25_7, Ae25_8, ce25_8, Ae25_9, ce25_9, Ae25_10, ce25_10, Ae25_12, ce25_12, Ae25_14, ce25_14, rfl, he25_3, he25_4, he25_5, he25_6, he25_7, he25_8, he25_9, he25_10, he25_12, he25_14⟩ := e25K
  refine l_r (r_indexA rfl e25A rfl (by decide) (by decide) el28) rfl ?_
  refine l_on (dj := 74) rfl rfl rfl ?_
  refine l_r (r_field rfl fo48_9) rfl ?_
  refine l_on (dj := 74) rfl rfl rfl ?_
  refine l_r (r_load1 rfl ag43 ((e25c.on hs19).get (j := 9) rfl)) rfl ?_
  refine l_on (dj := 74) rfl rfl rfl ?_
  refine l_r (r_len rfl el43) rfl ?_
  refine l_on (dj := 74) rfl rfl rfl ?_
  refine l_r (r_cmp rfl rfl (b := true) (congrArg some (beq_iff_eq.2 rfl))) rfl ?_
  refine l_r (r_pick_t rfl rfl) rfl ?_
  refine l_r (r_move rfl) rfl ?_
  refine l_on (dj := 82) rfl rfl rfl ?_
  refine l_r (r_move rfl) rfl ?_
  refine l_on (dj := 82) rfl rfl rfl ?_
  refine l_r (r_indexA rfl e25A rfl (by decide) (by decide) el28) rfl ?_
  refine l_on (dj := 82) rfl rfl rfl ?_
  refine l_r (r_field rfl fo48_9) rfl ?_
  refine l_on (dj := 82) rfl rfl rfl ?_
  refine l_r (r_load1 rfl ag43 ((e25c.on hs19).get (j := 9) rfl)) rfl ?_
  refine l_on (dj := 82) rfl rfl rfl ?_
  obtain ⟨e26x, e26h, e26b, e26o, e26cs, e26A, _, e26K, e26c⟩ := he25_9.get_ (i := 0) (by decide)
  obtain rfl : e26x = awS := (Option.some.inj e26h).symm
  obtain rfl : e26cs = [.bool awS.Is, .int .i64 awS.Value, .int .i64 awS.At] := e26K
  refine l_r (r_indexA rfl e26A rfl (by decide) (by decide) el43) rfl ?_
  refine l_on (dj := 82) rfl rfl rfl ?_
  refine l_r (r_field rfl fo56_1) rfl ?_
  refine l_on (dj := 82) rfl rfl rfl ?_
  refine l_r (r_load1 rfl ag3 ((e26c.on hs19).get (j := 1) rfl)) rfl ?_
  refine l_on (dj := 82) rfl rfl rfl ?_
  refine l_r (r_cmp rfl rfl (b := true) (congrArg some (beq_iff_eq.2 rfl))) rfl ?_
  refine l_r (r_pick_t rfl rfl) rfl ?_
  refine l_r (r_assign rfl) rfl ?_
  refine l_nil ?_
  refine s_ret ?_
  exact q_done (.inr rfl) (.tmp rfl .nil) ⟨rfl, hxb.trans hs19.toExt⟩

end Go.Proofs.Ytfhghnhgcdiknaa
