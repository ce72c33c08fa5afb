/- The document's Move, walked. -/
import Derived.Test.YtfhghnhgcdiknaaWw
set_option linter.unusedVariables false
namespace Go.Proofs.Ytfhghnhgcdiknaa
open Go.RowKit
set_option maxRecDepth 100000 in
set_option maxHeartbeats 4000000 in
theorem refmove_all {cf : TConfig} {pl : List Value} {ps : List TPart} {A : Option Addr} {c : Nat} (w : World) {ok ok2 : Nat → Prop} (hKl : Kd.config.K w ok cf pl) (hx : Sl Kd.part w ok2 A c ps) (hn : ps.length ≤ 100000000) (hsm : ∀ p, p ∈ ps → PartSmall p) {M : Nat} (hM : QB ps M) (hMb : M * 2 ^ cf.Channels.length ≤ 100000000) :
    Calls Try.prog 13 #[.agg pl.toArray, .slice A ps.length c] w (fun e w' => ∃ A' c', e = .returned (.slice A' ps.length c') ∧ Ext w w' ∧ Sl Kd.part w' (fun _ => True) A' c' (moveL cf ps)) := by
  refine q_call (n := 114) (args := [.agg pl.toArray, .slice A ps.length c]) Try.func13 rfl rfl rfl ?_
  have hs0 := St.refl 0 w
  have hKl0 := hKl
  obtain ⟨Al_2, cl_2, Al_3, cl_3, Al_4, cl_4, Al_5, cl_5, rfl, hl_2, hl_3, hl_4, hl_5⟩ := hKl
  have hlx := hx.len
  have hle2 := hl_2.len
  have hle3 := hl_3.len
  have hle4 := hl_4.len
  have hle5 := hl_5.len
  refine s_seq ?_
  refine s_region ?_
  refine l_box rfl rfl rfl hs0 ?_
  intro w1 b2 hb2 hx1 hs1
  refine l_r (r_assign rfl) rfl ?_
  refine l_nil ?_
  refine s_seq ?_
  refine s_seq ?_
  refine s_region ?_
  refine l_r (r_assign rfl) rfl ?_
  refine l_nil ?_
  refine s_block ?_
  have hcb2 : Cells w1 b2 0 [.int .i64 cf.Frame, .int .i64 cf.Switch, .slice Al_2 cf.Lines.length cl_2, .slice Al_3 cf.Parts.length cl_3, .slice Al_4 cf.Windows.length cl_4, .slice Al_5 cf.Channels.length cl_5] := heap_all (hs1.get (r := .pt b2 _ _) List.mem_cons_self)
  have hl_2 := (hl_2.onk hs1).all_ (by decide)
  have hl_3 := (hl_3.onk hs1).all_ (by decide)
  have hl_4 := (hl_4.onk hs1).all_ (by decide)
  have hl_5 := (hl_5.onk hs1).all_ (by decide)
  have hx := (hx.onk hs1).all_ (by decide)
  have hxb := hs1.toExt
  have hs2 := St.refl w1.heap.size w1
  refine s_loop (fun m L wl => ∃ (k : Nat) (xs : List TPart) (A2 : Option Addr) (c2 : Nat), L = [(5, .int .i64 ((k : Nat) : Int)), (1, .slice A2 xs.length c2), (2, .pointer (some ⟨b2, 0 + 0, none⟩)), (4, .slice none 0 0)] ∧ m = cf.Channels.length - k ∧ k ≤ cf.Channels.length ∧ xs = (cf.Channels.take k).foldl stepL ps ∧ Sl Kd.part wl (fun _ => True) A2 c2 xs ∧ Ext w wl ∧ Cells wl b2 (0) [.int .i64 cf.Frame, .int .i64 cf.Switch, .slice Al_2 cf.Lines.length cl_2, .slice Al_3 cf.Parts.length cl_3, .slice Al_4 cf.Windows.length cl_4, .slice Al_5 cf.Channels.length cl_5] ∧ Sl Kd.int wl (fun _ => True) Al_2 cl_2 cf.Lines ∧ Sl Kd.partConf wl (fun _ => True) Al_3 cl_3 cf.Parts ∧ Sl Kd.window wl (fun _ => True) Al_4 cl_4 cf.Windows ∧ Sl Kd.channel wl (fun _ => True) Al_5 cl_5 cf.Channels) _ [(5, .int .i64 ((0 : Nat) : Int)), (1, .slice A ps.length c), (2, .pointer (some ⟨b2, 0 + 0, none⟩)), (4, .slice none 0 0)] (.cons rfl (.cons rfl (.cons rfl (.cons rfl .nil)))) ⟨0, ps, A, c, rfl, rfl, Nat.zero_le _, rfl, hx, hxb, hcb2, hl_2, hl_3, hl_4, hl_5⟩ ?_
  rintro _ _ w3 ⟨k, xs, A2, c2, rfl, rfl, hkk, hxe, hxs, hxb, hcb2, hl_2, hl_3, hl_4, hl_5⟩
  have hs3 := St.refl w3.heap.size w3
  have hQB : QB xs 100000000 := by rw [hxe]; exact (fold_QB _ _ _ hM).mono (Nat.le_trans (Nat.mul_le_mul_left _ (Nat.pow_le_pow_right (by decide) (by rw [List.length_take]; omega))) hMb)
  have hQL : QL xs 100000000 := by rw [hxe]; exact fold_QL _ _ _ (.of_small hsm)
  have hxln : xs.length = ps.length := by rw [hxe, fold_len]
  refine s_seq ?_
  refine s_seq ?_
  refine s_region ?_
  refine l_r (r_move rfl) rfl ?_
  refine l_r (r_field rfl fo27_5) rfl ?_
  refine l_r (r_load1 rfl ag25 ((hcb2.on hs3).get (j := 5) rfl)) rfl ?_
  refine l_r (r_len rfl el25) rfl ?_
  refine l_r (r_cmp rfl rfl rfl) rfl ?_
  refine l_nil ?_
  refine s_part (dj := 15) rfl (fun hc4 => ?_) (fun hc4 => ?_)
  ·
    have hc4p := of_decide_eq_true hc4
    refine s_then rfl ?_
    refine s_skip ?_
    refine s_seq ?_
    refine s_block ?_
    refine s_seq ?_
    refine s_region ?_
    refine l_r (r_field rfl fo27_5) rfl ?_
    refine l_r (r_load1 rfl ag25 ((hcb2.on hs3).get (j := 5) rfl)) rfl ?_
    refine l_r (r_move rfl) rfl ?_
    obtain ⟨e5x, e5h, e5b, e5o, e5cs, e5A, _, e5K, e5c⟩ := hl_5.get_ (i := k) (by omega)
    obtain rfl : e5cs = [.bool e5x.Queuing, .int .i64 e5x.From, .int .i64 e5x.A, .int .i64 e5x.To, .int .i64 e5x.B] := e5K
    refine l_r (r_indexA rfl e5A rfl (by omega) (by omega) el25) rfl ?_
    refine l_r (r_loadN rfl ag32 (e5c.on hs3) sz32) rfl ?_
    refine l_alloc zz32 rfl hs3 ?_
    intro w6 b6 hb6 hx6 hs6
    refine l_storeAll rfl rfl sz32 (one_all rfl) (Nat.le_refl _) hs6 Repl.here rfl ?_
    intro w7 hz7 hk7 hs7
    refine l_nil ?_
    refine s_seq ?_
    skip
    refine s_region ?_
    refine l_r (r_move rfl) rfl ?_
    refine l_r (r_field rfl fo32_0) rfl ?_
    refine l_r (r_load1p rfl hs7 Repl.here ag4 rfl) rfl ?_
    refine l_r (r_field rfl fo32_1) rfl ?_
    refine l_r (r_load1p rfl hs7 Repl.here ag3 rfl) rfl ?_
    refine l_r (r_field rfl fo32_2) rfl ?_
    refine l_r (r_load1p rfl hs7 Repl.here ag3 rfl) rfl ?_
    refine l_call rfl rfl fk24 rfl (refport w7 (hxs.onk hs7)) ?_
    rintro _ w8 ⟨rfl, hc8⟩
    have hs8 := hs7.call0 hc8
    refine ⟨_, rfl, ?_⟩
    refine l_r (r_assign rfl) rfl ?_
    refine l_nil ?_
    refine s_seq ?_
    refine s_region ?_
    refine l_r (r_move rfl) rfl ?_
    refine l_r (r_field rfl fo32_0) rfl ?_
    refine l_r (r_load1p rfl hs8 Repl.here ag4 rfl) rfl ?_
    refine l_r (r_field rfl fo32_3) rfl ?_
    refine l_r (r_load1p rfl hs8 Repl.here ag3 rfl) rfl ?_
    refine l_r (r_field rfl fo32_4) rfl ?_
    refine l_r (r_load1p rfl hs8 Repl.here ag3 rfl) rfl ?_
    refine l_call rfl rfl fk24 rfl (refport w8 (hxs.onk hs8)) ?_
    rintro _ w9 ⟨rfl, hc9⟩
    have hs9 := hs8.call0 hc9
    refine ⟨_, rfl, ?_⟩
    refine l_r (r_assign rfl) rfl ?_
    refine l_nil ?_
    refine s_seq ?_
    refine s_seq ?_
    refine s_region ?_
    refine l_r (r_move rfl) rfl ?_
    refine l_r (r_not rfl) rfl ?_
    refine l_r (r_move rfl) rfl ?_
    refine l_part (dj := 41) rfl (fun hc10 => ?_) (fun hc10 => ?_)
    ·
      have hc10n := Bool.not_eq_true' _ |>.mp hc10
      refine l_off (dj := 41) (b := true) rfl rfl rfl rfl rfl ?_
      refine l_off (dj := 41) (b := true) rfl rfl rfl rfl rfl ?_
      refine l_r (r_pick_t rfl rfl) rfl ?_
      refine l_nil ?_
      refine s_then rfl ?_
      refine s_exit rfl ?_
      refine s_region ?_
      refine l_r (r_move rfl) rfl ?_
      refine l_r (r_inc rfl (by omega)) rfl ?_
      refine l_r (r_assign rfl) rfl ?_
      refine l_nil ?_
      refine s_again ?_
      exact ⟨_, [(5, .int .i64 (((k + 1) : Nat) : Int)), (1, .slice A2 xs.length c2), (2, .pointer (some ⟨b2, 0 + 0, none⟩)), (4, .slice none 0 0)], by omega, (.cons rfl (.cons rfl (.cons rfl (.cons rfl .nil)))), ⟨(k + 1), xs, A2, c2, rfl, rfl, by omega, (by rw [fold_take e5h, refstep_none (.inl (by rw [← hxe]; exact hc10n))]; exact hxe), (hxs.onk hs9), hxb.trans hs9.toExt, (hcb2.on hs9), (hl_2.onk hs9), (hl_3.onk hs9), (hl_4.onk hs9), (hl_5.onk hs9)⟩⟩
    ·
      have hc10n := Bool.not_eq_false' _ |>.mp hc10
      refine l_on (dj := 41) rfl rfl rfl ?_
      refine l_r (r_move rfl) rfl ?_
      refine l_on (dj := 41) rfl rfl rfl ?_
      refine l_r (r_not rfl) rfl ?_
      refine l_r (r_pick_f rfl rfl) rfl ?_
      refine l_nil ?_
      refine s_part (dj := 44) rfl (fun hc11 => ?_) (fun hc11 => ?_)
      ·
        have hc11n := Bool.not_eq_true' _ |>.mp hc11
        refine s_then rfl ?_
        refine s_exit rfl ?_
        refine s_region ?_
        refine l_r (r_move rfl) rfl ?_
        refine l_r (r_inc rfl (by omega)) rfl ?_
        refine l_r (r_assign rfl) rfl ?_
        refine l_nil ?_
        refine s_again ?_
        exact ⟨_, [(5, .int .i64 (((k + 1) : Nat) : Int)), (1, .slice A2 xs.length c2), (2, .pointer (some ⟨b2, 0 + 0, none⟩)), (4, .slice none 0 0)], by omega, (.cons rfl (.cons rfl (.cons rfl (.cons rfl .nil)))), ⟨(k + 1), xs, A2, c2, rfl, rfl, by omega, (by rw [fold_take e5h, refstep_none (.inr (by rw [← hxe]; exact hc11n))]; exact hxe), (hxs.onk hs9), hxb.trans hs9.toExt, (hcb2.on hs9), (hl_2.onk hs9), (hl_3.onk hs9), (hl_4.onk hs9), (hl_5.onk hs9)⟩⟩
      ·
        have hc11n := Bool.not_eq_false' _ |>.mp hc11
        refine s_else rfl ?_
        refine s_skip ?_
        refine s_seq ?_
        obtain ⟨p, hp, hp0, hp1, hpl, hp2⟩ := portL_true hc10n
        obtain ⟨q, hq, hq0, hq1, hql, hq2⟩ := portL_true hc11n
        have hpm := hQL p (List.mem_of_getElem? hp)
        have hqm := hQL q (List.mem_of_getElem? hq)
        refine s_region ?_
        refine l_r (r_field rfl fo32_0) rfl ?_
        refine l_r (r_load1p rfl hs9 Repl.here ag4 rfl) rfl ?_
        refine l_nil ?_
        refine s_part (dj := 46) rfl (fun hc12 => ?_) (fun hc12 => ?_)
        ·
          refine s_then rfl ?_
          refine s_seq ?_
          rw [hc12] at hp2 hq2
          simp only [if_true, Bool.false_eq_true, if_false] at hp2 hq2
          have hcb6 : Cells w9 b6 0 [.bool e5x.Queuing, .int .i64 e5x.From, .int .i64 e5x.A, .int .i64 e5x.To, .int .i64 e5x.B] := heap_all (hs9.get (r := .pt b6 _ _) List.mem_cons_self)
          have hxs := (hxs.onk hs9).all_ (by decide)
          have hcb2 := hcb2.on hs9
          have hl_2 := (hl_2.onk hs9).all_ (by decide)
          have hl_3 := (hl_3.onk hs9).all_ (by decide)
          have hl_4 := (hl_4.onk hs9).all_ (by decide)
          have hl_5 := (hl_5.onk hs9).all_ (by decide)
          have e5c := e5c.on hs9
          have hxb := hxb.trans hs9.toExt
          have hs13 := St.refl w9.heap.size w9
          obtain ⟨e14b, e14o, e14cs, e14A, _, e14K, e14c⟩ := hxs.2.2 _ _ hp
          have e14K0 := e14K
          obtain ⟨Ae14_3, ce14_3, Ae14_4, ce14_4, Ae14_5, ce14_5, Ae14_6, ce14_6, Ae14_7, ce14_7, Ae14_8, ce14_8, Ae14_9, ce14_9, Ae14_10, ce14_10, Ae14_12, ce14_12, Ae14_14, ce14_14, rfl, he14_3, he14_4, he14_5, he14_6, he14_7, he14_8, he14_9, he14_10, he14_12, he14_14⟩ := e14K
          obtain ⟨e15b, e15o, e15cs, e15A, _, e15K, e15c⟩ := hxs.2.2 _ _ hq
          have e15K0 := e15K
          obtain ⟨Ae15_3, ce15_3, Ae15_4, ce15_4, Ae15_5, ce15_5, Ae15_6, ce15_6, Ae15_7, ce15_7, Ae15_8, ce15_8, Ae15_9, ce15_9, Ae15_10, ce15_10, Ae15_12, ce15_12, Ae15_14, ce15_14, rfl, he15_3, he15_4, he15_5, he15_6, he15_7, he15_8, he15_9, he15_10, he15_12, he15_14⟩ := e15K
          obtain ⟨e16x, e16h, e16b, e16o, e16cs, e16A, _, e16K, e16c⟩ := he14_10.get_ (i := e5x.A.toNat) (by omega)
          have e16K0 := e16K
          obtain ⟨Ae16_1, ce16_1, rfl, he16_1⟩ := e16K
          obtain ⟨e17x, e17h, e17b, e17o, e17cs, e17A, _, e17K, e17c⟩ := he15_10.get_ (i := e5x.B.toNat) (by omega)
          have e17K0 := e17K
          obtain ⟨Ae17_1, ce17_1, rfl, he17_1⟩ := e17K
          have hqa := hQB p (List.mem_of_getElem? hp) _ (List.mem_of_getElem? e16h)
          have hqb := hQB q (List.mem_of_getElem? hq) _ (List.mem_of_getElem? e17h)
          refine s_any (by kernel_rfl) (fun w' => Ext w9 w') (fun L' w' => ∃ (b9 b10 : Nat) (ca cb : List Value) (F : Nat → Prop), Sub [(1, .slice A2 xs.length c2), (9, .pointer (some ⟨b9, 0, none⟩)), (10, .pointer (some ⟨b10, 0, none⟩)), (2, .pointer (some ⟨b2, 0 + 0, none⟩)), (4, .slice none 0 0), (5, .int .i64 (((k : Nat) : Int))), (6, .pointer (some ⟨b6, 0 + 0, none⟩))] L' ∧ St w9.heap.size w9 w' [.pt b9 ca 52, .pt b10 cb 52, .ro F (fun w' => Kd.queue.K w' (fun _ => True) { e16x with Values := (moveQ e16x.Values e17x.Values e17x.Depth).1 } ca ∧ Kd.queue.K w' (fun _ => True) { e17x with Values := (moveQ e16x.Values e17x.Values e17x.Depth).2 } cb)]) ?_ ?_
          ·
            intro w18 hx18 hh18
            have hs18 := hs13.ext hx18
            refine wa_take 0 rfl (by kernel_rfl) (fun w' hw' => r_move rfl) (hs18.toExt) rfl ?_
            refine wa_take 1 rfl (by kernel_rfl) (fun w' hw' => r_field rfl fo32_1) (hs18.toExt) rfl ?_
            refine wa_take 2 rfl (by kernel_rfl) (fun w' hw' => r_load1 rfl ag3 ((hcb6.on ((St.refl w9.heap.size w9).ext hw')).get (j := 1) rfl)) (hs18.toExt) rfl ?_
            refine wa_take 3 rfl (by kernel_rfl) (fun w' hw' => r_indexA rfl e14A rfl (by omega) (by omega) el28) (hs18.toExt) rfl ?_
            refine wa_take 4 rfl (by kernel_rfl) (fun w' hw' => r_field rfl fo48_10) (hs18.toExt) rfl ?_
            refine wa_take 5 rfl (by kernel_rfl) (fun w' hw' => r_load1 rfl ag44 ((e14c.on ((St.refl w9.heap.size w9).ext hw')).get (j := 10) rfl)) (hs18.toExt) rfl ?_
            refine wa_take 6 rfl (by kernel_rfl) (fun w' hw' => r_field rfl fo32_2) (hs18.toExt) rfl ?_
            refine wa_take 7 rfl (by kernel_rfl) (fun w' hw' => r_load1 rfl ag3 ((hcb6.on ((St.refl w9.heap.size w9).ext hw')).get (j := 2) rfl)) (hs18.toExt) rfl ?_
            refine wa_take 8 rfl (by kernel_rfl) (fun w' hw' => r_indexA rfl e16A rfl (by omega) (by omega) el44) (hs18.toExt) rfl ?_
            refine wa_take 9 rfl (by kernel_rfl) (fun w' hw' => r_loadN rfl ag52 (e16c.on ((St.refl w9.heap.size w9).ext hw')) sz52) (hs18.toExt) rfl ?_
            refine wa_take 10 rfl (by kernel_rfl) (fun w' hw' => r_move rfl) (hs18.toExt) rfl ?_
            refine wa_take 11 rfl (by kernel_rfl) (fun w' hw' => r_field rfl fo32_3) (hs18.toExt) rfl ?_
            refine wa_take 12 rfl (by kernel_rfl) (fun w' hw' => r_load1 rfl ag3 ((hcb6.on ((St.refl w9.heap.size w9).ext hw')).get (j := 3) rfl)) (hs18.toExt) rfl ?_
            refine wa_take 13 rfl (by kernel_rfl) (fun w' hw' => r_indexA rfl e15A rfl (by omega) (by omega) el28) (hs18.toExt) rfl ?_
            refine wa_take 14 rfl (by kernel_rfl) (fun w' hw' => r_field rfl fo48_10) (hs18.toExt) rfl ?_
            refine wa_take 15 rfl (by kernel_rfl) (fun w' hw' => r_load1 rfl ag44 ((e15c.on ((St.refl w9.heap.size w9).ext hw')).get (j := 10) rfl)) (hs18.toExt) rfl ?_
            refine wa_take 16 rfl (by kernel_rfl) (fun w' hw' => r_field rfl fo32_4) (hs18.toExt) rfl ?_
            refine wa_take 17 rfl (by kernel_rfl) (fun w' hw' => r_load1 rfl ag3 ((hcb6.on ((St.refl w9.heap.size w9).ext hw')).get (j := 4) rfl)) (hs18.toExt) rfl ?_
            refine wa_take 18 rfl (by kernel_rfl) (fun w' hw' => r_indexA rfl e17A rfl (by omega) (by omega) el44) (hs18.toExt) rfl ?_
            refine wa_take 19 rfl (by kernel_rfl) (fun w' hw' => r_loadN rfl ag52 (e17c.on ((St.refl w9.heap.size w9).ext hw')) sz52) (hs18.toExt) rfl ?_
            refine wa_one [20, 24, 25] (by kernel_rfl) rfl ?_
            intro i hi
            simp only [List.mem_cons, List.not_mem_nil, or_false] at hi
            rcases hi with rfl | rfl | rfl
            ·
              refine ⟨_, rfl, ?_⟩
              refine l_call rfl rfl fk25 rfl (refmove w18 (Kd.queue.lt_ e16K0 |> fun h => Kd.queue.on h hs18) (Kd.queue.lt_ e17K0 |> fun h => Kd.queue.on h hs18) hqa hqb) ?_
              rintro _ w19 ⟨ca, cb, rfl, hx19, hKa, hKb⟩
              have hs19 := hs18.callK2 Kd.queue Kd.queue hx19 hKa hKb (fun k hk => hk) (fun k hk => .inr hk)
              refine ⟨_, rfl, ?_⟩
              refine l_nil ⟨hs19.toExt, ?_⟩
              refine wa_take 21 rfl (by kernel_rfl) (fun w' hw' => r_move rfl) (hs19.toExt) rfl ?_
              refine wa_take 22 rfl (by kernel_rfl) (fun w' hw' => r_extract rfl rfl) (hs19.toExt) rfl ?_
              refine wa_take 23 rfl (by kernel_rfl) (fun w' hw' => r_extract rfl rfl) (hs19.toExt) rfl ?_
              refine wa_one [24, 25] (by kernel_rfl) rfl ?_
              intro i hi
              simp only [List.mem_cons, List.not_mem_nil, or_false] at hi
              rcases hi with rfl | rfl
              ·
                refine ⟨_, rfl, ?_⟩
                refine l_alloc zz52 rfl hs19 ?_
                intro w20 b9 hb9 hx20 hs20
                refine l_nil ⟨hs20.toExt, ?_⟩
                refine wa_one [25] (by kernel_rfl) rfl ?_
                intro i hi
                simp only [List.mem_cons, List.not_mem_nil, or_false] at hi
                subst hi
                refine ⟨_, rfl, ?_⟩
                refine l_alloc zz52 rfl hs20 ?_
                intro w21 b10 hb10 hx21 hs21
                refine l_nil ⟨hs21.toExt, ?_⟩
                refine wa_one [26] (by kernel_rfl) rfl ?_
                intro i hi
                simp only [List.mem_cons, List.not_mem_nil, or_false] at hi
                subst hi
                refine ⟨_, rfl, ?_⟩
                have hkca := (hs21.get (r := .ro _ (fun w' => Kd.queue.K w' (fun _ => True) { e16x with Values := (moveQ e16x.Values e17x.Values e17x.Depth).1 } ca ∧ Kd.queue.K w' (fun _ => True) { e17x with Values := (moveQ e16x.Values e17x.Values e17x.Depth).2 } cb)) (List.mem_cons_of_mem _ (List.mem_cons_of_mem _ List.mem_cons_self))).1
                refine l_storeAll rfl rfl (by rw [Kd.queue.len hkca]; exact sz52) (Kd.queue.one hkca) (Nat.le_refl _) hs21 (Repl.there Repl.here) (by rw [Kd.queue.len hkca]; rfl) ?_
                intro w22 hz22 hk22 hs22
                refine l_nil ⟨hs22.toExt, ?_⟩
                refine wa_one [27] (by kernel_rfl) rfl ?_
                intro i hi
                simp only [List.mem_cons, List.not_mem_nil, or_false] at hi
                subst hi
                refine ⟨_, rfl, ?_⟩
                have hkcb := (hs22.get (r := .ro _ (fun w' => Kd.queue.K w' (fun _ => True) { e16x with Values := (moveQ e16x.Values e17x.Values e17x.Depth).1 } ca ∧ Kd.queue.K w' (fun _ => True) { e17x with Values := (moveQ e16x.Values e17x.Values e17x.Depth).2 } cb)) (List.mem_cons_of_mem _ (List.mem_cons_of_mem _ List.mem_cons_self))).2
                refine l_storeAll rfl rfl (by rw [Kd.queue.len hkcb]; exact sz52) (Kd.queue.one hkcb) (Nat.le_refl _) hs22 Repl.here (by rw [Kd.queue.len hkcb]; rfl) ?_
                intro w23 hz23 hk23 hs23
                refine l_nil ⟨hs23.toExt, ?_⟩
                exact wa_done (by kernel_rfl) ⟨_, _, _, _, _, (.cons rfl (.cons rfl (.cons rfl (.cons rfl (.cons rfl (.cons rfl (.cons rfl .nil))))))), (((hs23.toFront 2 rfl).toFront 1 rfl).toFront 2 rfl)⟩
              ·
                refine ⟨_, rfl, ?_⟩
                refine l_alloc zz52 rfl hs19 ?_
                intro w24 b10 hb10 hx24 hs24
                refine l_nil ⟨hs24.toExt, ?_⟩
                refine wa_one [24] (by kernel_rfl) rfl ?_
                intro i hi
                simp only [List.mem_cons, List.not_mem_nil, or_false] at hi
                subst hi
                refine ⟨_, rfl, ?_⟩
                refine l_alloc zz52 rfl hs24 ?_
                intro w25 b9 hb9 hx25 hs25
                refine l_nil ⟨hs25.toExt, ?_⟩
                refine wa_one [26] (by kernel_rfl) rfl ?_
                intro i hi
                simp only [List.mem_cons, List.not_mem_nil, or_false] at hi
                subst hi
                refine ⟨_, rfl, ?_⟩
                have hkca := (hs25.get (r := .ro _ (fun w' => Kd.queue.K w' (fun _ => True) { e16x with Values := (moveQ e16x.Values e17x.Values e17x.Depth).1 } ca ∧ Kd.queue.K w' (fun _ => True) { e17x with Values := (moveQ e16x.Values e17x.Values e17x.Depth).2 } cb)) (List.mem_cons_of_mem _ (List.mem_cons_of_mem _ List.mem_cons_self))).1
                refine l_storeAll rfl rfl (by rw [Kd.queue.len hkca]; exact sz52) (Kd.queue.one hkca) (Nat.le_refl _) hs25 Repl.here (by rw [Kd.queue.len hkca]; rfl) ?_
                intro w26 hz26 hk26 hs26
                refine l_nil ⟨hs26.toExt, ?_⟩
                refine wa_one [27] (by kernel_rfl) rfl ?_
                intro i hi
                simp only [List.mem_cons, List.not_mem_nil, or_false] at hi
                subst hi
                refine ⟨_, rfl, ?_⟩
                have hkcb := (hs26.get (r := .ro _ (fun w' => Kd.queue.K w' (fun _ => True) { e16x with Values := (moveQ e16x.Values e17x.Values e17x.Depth).1 } ca ∧ Kd.queue.K w' (fun _ => True) { e17x with Values := (moveQ e16x.Values e17x.Values e17x.Depth).2 } cb)) (List.mem_cons_of_mem _ (List.mem_cons_of_mem _ List.mem_cons_self))).2
                refine l_storeAll rfl rfl (by rw [Kd.queue.len hkcb]; exact sz52) (Kd.queue.one hkcb) (Nat.le_refl _) hs26 (Repl.there Repl.here) (by rw [Kd.queue.len hkcb]; rfl) ?_
                intro w27 hz27 hk27 hs27
                refine l_nil ⟨hs27.toExt, ?_⟩
                exact wa_done (by kernel_rfl) ⟨_, _, _, _, _, (.cons rfl (.cons rfl (.cons rfl (.cons rfl (.cons rfl (.cons rfl (.cons rfl .nil))))))), (((hs27.toFront 2 rfl).toFront 2 rfl).toFront 2 rfl)⟩
            ·
              refine ⟨_, rfl, ?_⟩
              refine l_alloc zz52 rfl hs18 ?_
              intro w28 b9 hb9 hx28 hs28
              refine l_nil ⟨hs28.toExt, ?_⟩
              refine wa_one [20, 25] (by kernel_rfl) rfl ?_
              intro i hi
              simp only [List.mem_cons, List.not_mem_nil, or_false] at hi
              rcases hi with rfl | rfl
              ·
                refine ⟨_, rfl, ?_⟩
                refine l_call rfl rfl fk25 rfl (refmove w28 (Kd.queue.lt_ e16K0 |> fun h => Kd.queue.on h hs28) (Kd.queue.lt_ e17K0 |> fun h => Kd.queue.on h hs28) hqa hqb) ?_
                rintro _ w29 ⟨ca, cb, rfl, hx29, hKa, hKb⟩
                have hs29 := hs28.callK2 Kd.queue Kd.queue hx29 hKa hKb (fun k hk => hk) (fun k hk => .inr hk)
                refine ⟨_, rfl, ?_⟩
                refine l_nil ⟨hs29.toExt, ?_⟩
                refine wa_take 21 rfl (by kernel_rfl) (fun w' hw' => r_move rfl) (hs29.toExt) rfl ?_
                refine wa_take 22 rfl (by kernel_rfl) (fun w' hw' => r_extract rfl rfl) (hs29.toExt) rfl ?_
                refine wa_take 23 rfl (by kernel_rfl) (fun w' hw' => r_extract rfl rfl) (hs29.toExt) rfl ?_
                refine wa_one [25] (by kernel_rfl) rfl ?_
                intro i hi
                simp only [List.mem_cons, List.not_mem_nil, or_false] at hi
                subst hi
                refine ⟨_, rfl, ?_⟩
                refine l_alloc zz52 rfl hs29 ?_
                intro w30 b10 hb10 hx30 hs30
                refine l_nil ⟨hs30.toExt, ?_⟩
                refine wa_one [26] (by kernel_rfl) rfl ?_
                intro i hi
                simp only [List.mem_cons, List.not_mem_nil, or_false] at hi
                subst hi
                refine ⟨_, rfl, ?_⟩
                have hkca := (hs30.get (r := .ro _ (fun w' => Kd.queue.K w' (fun _ => True) { e16x with Values := (moveQ e16x.Values e17x.Values e17x.Depth).1 } ca ∧ Kd.queue.K w' (fun _ => True) { e17x with Values := (moveQ e16x.Values e17x.Values e17x.Depth).2 } cb)) (List.mem_cons_of_mem _ List.mem_cons_self)).1
                refine l_storeAll rfl rfl (by rw [Kd.queue.len hkca]; exact sz52) (Kd.queue.one hkca) (Nat.le_refl _) hs30 (Repl.there (Repl.there Repl.here)) (by rw [Kd.queue.len hkca]; rfl) ?_
                intro w31 hz31 hk31 hs31
                refine l_nil ⟨hs31.toExt, ?_⟩
                refine wa_one [27] (by kernel_rfl) rfl ?_
                intro i hi
                simp only [List.mem_cons, List.not_mem_nil, or_false] at hi
                subst hi
                refine ⟨_, rfl, ?_⟩
                have hkcb := (hs31.get (r := .ro _ (fun w' => Kd.queue.K w' (fun _ => True) { e16x with Values := (moveQ e16x.Values e17x.Values e17x.Depth).1 } ca ∧ Kd.queue.K w' (fun _ => True) { e17x with Values := (moveQ e16x.Values e17x.Values e17x.Depth).2 } cb)) (List.mem_cons_of_mem _ List.mem_cons_self)).2
                refine l_storeAll rfl rfl (by rw [Kd.queue.len hkcb]; exact sz52) (Kd.queue.one hkcb) (Nat.le_refl _) hs31 Repl.here (by rw [Kd.queue.len hkcb]; rfl) ?_
                intro w32 hz32 hk32 hs32
                refine l_nil ⟨hs32.toExt, ?_⟩
                exact wa_done (by kernel_rfl) ⟨_, _, _, _, _, (.cons rfl (.cons rfl (.cons rfl (.cons rfl (.cons rfl (.cons rfl (.cons rfl .nil))))))), (((hs32.toFront 1 rfl).toFront 1 rfl).toFront 2 rfl)⟩
              ·
                refine ⟨_, rfl, ?_⟩
                refine l_alloc zz52 rfl hs28 ?_
                intro w33 b10 hb10 hx33 hs33
                refine l_nil ⟨hs33.toExt, ?_⟩
                refine wa_one [20] (by kernel_rfl) rfl ?_
                intro i hi
                simp only [List.mem_cons, List.not_mem_nil, or_false] at hi
                subst hi
                refine ⟨_, rfl, ?_⟩
                refine l_call rfl rfl fk25 rfl (refmove w33 (Kd.queue.lt_ e16K0 |> fun h => Kd.queue.on h hs33) (Kd.queue.lt_ e17K0 |> fun h => Kd.queue.on h hs33) hqa hqb) ?_
                rintro _ w34 ⟨ca, cb, rfl, hx34, hKa, hKb⟩
                have hs34 := hs33.callK2 Kd.queue Kd.queue hx34 hKa hKb (fun k hk => hk) (fun k hk => .inr hk)
                refine ⟨_, rfl, ?_⟩
                refine l_nil ⟨hs34.toExt, ?_⟩
                refine wa_take 21 rfl (by kernel_rfl) (fun w' hw' => r_move rfl) (hs34.toExt) rfl ?_
                refine wa_take 22 rfl (by kernel_rfl) (fun w' hw' => r_extract rfl rfl) (hs34.toExt) rfl ?_
                refine wa_take 23 rfl (by kernel_rfl) (fun w' hw' => r_extract rfl rfl) (hs34.toExt) rfl ?_
                refine wa_one [26] (by kernel_rfl) rfl ?_
                intro i hi
                simp only [List.mem_cons, List.not_mem_nil, or_false] at hi
                subst hi
                refine ⟨_, rfl, ?_⟩
                have hkca := (hs34.get (r := .ro _ (fun w' => Kd.queue.K w' (fun _ => True) { e16x with Values := (moveQ e16x.Values e17x.Values e17x.Depth).1 } ca ∧ Kd.queue.K w' (fun _ => True) { e17x with Values := (moveQ e16x.Values e17x.Values e17x.Depth).2 } cb)) List.mem_cons_self).1
                refine l_storeAll rfl rfl (by rw [Kd.queue.len hkca]; exact sz52) (Kd.queue.one hkca) (Nat.le_refl _) hs34 (Repl.there (Repl.there Repl.here)) (by rw [Kd.queue.len hkca]; rfl) ?_
                intro w35 hz35 hk35 hs35
                refine l_nil ⟨hs35.toExt, ?_⟩
                refine wa_one [27] (by kernel_rfl) rfl ?_
                intro i hi
                simp only [List.mem_cons, List.not_mem_nil, or_false] at hi
                subst hi
                refine ⟨_, rfl, ?_⟩
                have hkcb := (hs35.get (r := .ro _ (fun w' => Kd.queue.K w' (fun _ => True) { e16x with Values := (moveQ e16x.Values e17x.Values e17x.Depth).1 } ca ∧ Kd.queue.K w' (fun _ => True) { e17x with Values := (moveQ e16x.Values e17x.Values e17x.Depth).2 } cb)) List.mem_cons_self).2
                refine l_storeAll rfl rfl (by rw [Kd.queue.len hkcb]; exact sz52) (Kd.queue.one hkcb) (Nat.le_refl _) hs35 (Repl.there Repl.here) (by rw [Kd.queue.len hkcb]; rfl) ?_
                intro w36 hz36 hk36 hs36
                refine l_nil ⟨hs36.toExt, ?_⟩
                exact wa_done (by kernel_rfl) ⟨_, _, _, _, _, (.cons rfl (.cons rfl (.cons rfl (.cons rfl (.cons rfl (.cons rfl (.cons rfl .nil))))))), ((hs36.toFront 1 rfl).toFront 2 rfl)⟩
            ·
              refine ⟨_, rfl, ?_⟩
              refine l_alloc zz52 rfl hs18 ?_
              intro w37 b10 hb10 hx37 hs37
              refine l_nil ⟨hs37.toExt, ?_⟩
              refine wa_one [20, 24] (by kernel_rfl) rfl ?_
              intro i hi
              simp only [List.mem_cons, List.not_mem_nil, or_false] at hi
              rcases hi with rfl | rfl
              ·
                refine ⟨_, rfl, ?_⟩
                refine l_call rfl rfl fk25 rfl (refmove w37 (Kd.queue.lt_ e16K0 |> fun h => Kd.queue.on h hs37) (Kd.queue.lt_ e17K0 |> fun h => Kd.queue.on h hs37) hqa hqb) ?_
                rintro _ w38 ⟨ca, cb, rfl, hx38, hKa, hKb⟩
                have hs38 := hs37.callK2 Kd.queue Kd.queue hx38 hKa hKb (fun k hk => hk) (fun k hk => .inr hk)
                refine ⟨_, rfl, ?_⟩
                refine l_nil ⟨hs38.toExt, ?_⟩
                refine wa_take 21 rfl (by kernel_rfl) (fun w' hw' => r_move rfl) (hs38.toExt) rfl ?_
                refine wa_take 22 rfl (by kernel_rfl) (fun w' hw' => r_extract rfl rfl) (hs38.toExt) rfl ?_
                refine wa_take 23 rfl (by kernel_rfl) (fun w' hw' => r_extract rfl rfl) (hs38.toExt) rfl ?_
                refine wa_one [24] (by kernel_rfl) rfl ?_
                intro i hi
                simp only [List.mem_cons, List.not_mem_nil, or_false] at hi
                subst hi
                refine ⟨_, rfl, ?_⟩
                refine l_alloc zz52 rfl hs38 ?_
                intro w39 b9 hb9 hx39 hs39
                refine l_nil ⟨hs39.toExt, ?_⟩
                refine wa_one [26] (by kernel_rfl) rfl ?_
                intro i hi
                simp only [List.mem_cons, List.not_mem_nil, or_false] at hi
                subst hi
                refine ⟨_, rfl, ?_⟩
                have hkca := (hs39.get (r := .ro _ (fun w' => Kd.queue.K w' (fun _ => True) { e16x with Values := (moveQ e16x.Values e17x.Values e17x.Depth).1 } ca ∧ Kd.queue.K w' (fun _ => True) { e17x with Values := (moveQ e16x.Values e17x.Values e17x.Depth).2 } cb)) (List.mem_cons_of_mem _ List.mem_cons_self)).1
                refine l_storeAll rfl rfl (by rw [Kd.queue.len hkca]; exact sz52) (Kd.queue.one hkca) (Nat.le_refl _) hs39 Repl.here (by rw [Kd.queue.len hkca]; rfl) ?_
                intro w40 hz40 hk40 hs40
                refine l_nil ⟨hs40.toExt, ?_⟩
                refine wa_one [27] (by kernel_rfl) rfl ?_
                intro i hi
                simp only [List.mem_cons, List.not_mem_nil, or_false] at hi
                subst hi
                refine ⟨_, rfl, ?_⟩
                have hkcb := (hs40.get (r := .ro _ (fun w' => Kd.queue.K w' (fun _ => True) { e16x with Values := (moveQ e16x.Values e17x.Values e17x.Depth).1 } ca ∧ Kd.queue.K w' (fun _ => True) { e17x with Values := (moveQ e16x.Values e17x.Values e17x.Depth).2 } cb)) (List.mem_cons_of_mem _ List.mem_cons_self)).2
                refine l_storeAll rfl rfl (by rw [Kd.queue.len hkcb]; exact sz52) (Kd.queue.one hkcb) (Nat.le_refl _) hs40 (Repl.there (Repl.there Repl.here)) (by rw [Kd.queue.len hkcb]; rfl) ?_
                intro w41 hz41 hk41 hs41
                refine l_nil ⟨hs41.toExt, ?_⟩
                exact wa_done (by kernel_rfl) ⟨_, _, _, _, _, (.cons rfl (.cons rfl (.cons rfl (.cons rfl (.cons rfl (.cons rfl (.cons rfl .nil))))))), (((hs41.toFront 1 rfl).toFront 2 rfl).toFront 2 rfl)⟩
              ·
                refine ⟨_, rfl, ?_⟩
                refine l_alloc zz52 rfl hs37 ?_
                intro w42 b9 hb9 hx42 hs42
                refine l_nil ⟨hs42.toExt, ?_⟩
                refine wa_one [20] (by kernel_rfl) rfl ?_
                intro i hi
                simp only [List.mem_cons, List.not_mem_nil, or_false] at hi
                subst hi
                refine ⟨_, rfl, ?_⟩
                refine l_call rfl rfl fk25 rfl (refmove w42 (Kd.queue.lt_ e16K0 |> fun h => Kd.queue.on h hs42) (Kd.queue.lt_ e17K0 |> fun h => Kd.queue.on h hs42) hqa hqb) ?_
                rintro _ w43 ⟨ca, cb, rfl, hx43, hKa, hKb⟩
                have hs43 := hs42.callK2 Kd.queue Kd.queue hx43 hKa hKb (fun k hk => hk) (fun k hk => .inr hk)
                refine ⟨_, rfl, ?_⟩
                refine l_nil ⟨hs43.toExt, ?_⟩
                refine wa_take 21 rfl (by kernel_rfl) (fun w' hw' => r_move rfl) (hs43.toExt) rfl ?_
                refine wa_take 22 rfl (by kernel_rfl) (fun w' hw' => r_extract rfl rfl) (hs43.toExt) rfl ?_
                refine wa_take 23 rfl (by kernel_rfl) (fun w' hw' => r_extract rfl rfl) (hs43.toExt) rfl ?_
                refine wa_one [26] (by kernel_rfl) rfl ?_
                intro i hi
                simp only [List.mem_cons, List.not_mem_nil, or_false] at hi
                subst hi
                refine ⟨_, rfl, ?_⟩
                have hkca := (hs43.get (r := .ro _ (fun w' => Kd.queue.K w' (fun _ => True) { e16x with Values := (moveQ e16x.Values e17x.Values e17x.Depth).1 } ca ∧ Kd.queue.K w' (fun _ => True) { e17x with Values := (moveQ e16x.Values e17x.Values e17x.Depth).2 } cb)) List.mem_cons_self).1
                refine l_storeAll rfl rfl (by rw [Kd.queue.len hkca]; exact sz52) (Kd.queue.one hkca) (Nat.le_refl _) hs43 (Repl.there Repl.here) (by rw [Kd.queue.len hkca]; rfl) ?_
                intro w44 hz44 hk44 hs44
                refine l_nil ⟨hs44.toExt, ?_⟩
                refine wa_one [27] (by kernel_rfl) rfl ?_
                intro i hi
                simp only [List.mem_cons, List.not_mem_nil, or_false] at hi
                subst hi
                refine ⟨_, rfl, ?_⟩
                have hkcb := (hs44.get (r := .ro _ (fun w' => Kd.queue.K w' (fun _ => True) { e16x with Values := (moveQ e16x.Values e17x.Values e17x.Depth).1 } ca ∧ Kd.queue.K w' (fun _ => True) { e17x with Values := (moveQ e16x.Values e17x.Values e17x.Depth).2 } cb)) List.mem_cons_self).2
                refine l_storeAll rfl rfl (by rw [Kd.queue.len hkcb]; exact sz52) (Kd.queue.one hkcb) (Nat.le_refl _) hs44 (Repl.there (Repl.there Repl.here)) (by rw [Kd.queue.len hkcb]; rfl) ?_
                intro w45 hz45 hk45 hs45
                refine l_nil ⟨hs45.toExt, ?_⟩
                exact wa_done (by kernel_rfl) ⟨_, _, _, _, _, (.cons rfl (.cons rfl (.cons rfl (.cons rfl (.cons rfl (.cons rfl (.cons rfl .nil))))))), ((hs45.toFront 2 rfl).toFront 2 rfl)⟩
          rintro _ w46 ⟨b9, b10, ca, cb, F, hsub, hs46⟩
          refine s_sub [(1, .slice A2 xs.length c2), (9, .pointer (some ⟨b9, 0, none⟩)), (10, .pointer (some ⟨b10, 0, none⟩)), (2, .pointer (some ⟨b2, 0 + 0, none⟩)), (4, .slice none 0 0), (5, .int .i64 (((k : Nat) : Int))), (6, .pointer (some ⟨b6, 0 + 0, none⟩))] hsub ?_
          have hKab := hs46.get (r := .ro F (fun w' => Kd.queue.K w' (fun _ => True) { e16x with Values := (moveQ e16x.Values e17x.Values e17x.Depth).1 } ca ∧ Kd.queue.K w' (fun _ => True) { e17x with Values := (moveQ e16x.Values e17x.Values e17x.Depth).2 } cb)) (List.mem_cons_of_mem _ (List.mem_cons_of_mem _ List.mem_cons_self))
          obtain ⟨hKa, hKb⟩ := hKab
          have hcb9 : Cells w46 b9 0 ca := heap_all (hs46.get (r := .pt b9 ca 52) List.mem_cons_self)
          have hcb10 : Cells w46 b10 0 cb := heap_all (hs46.get (r := .pt b10 cb 52) (List.mem_cons_of_mem _ List.mem_cons_self))
          have hxs := (hxs.onk hs46).all_ (by decide)
          have hcb2 := hcb2.on hs46
          have hl_2 := (hl_2.onk hs46).all_ (by decide)
          have hl_3 := (hl_3.onk hs46).all_ (by decide)
          have hl_4 := (hl_4.onk hs46).all_ (by decide)
          have hl_5 := (hl_5.onk hs46).all_ (by decide)
          have hcb6 := hcb6.on hs46
          have hxb := hxb.trans hs46.toExt
          have hs47 := St.refl w46.heap.size w46
          refine s_seq ?_
          refine s_region ?_
          refine l_r (r_move rfl) rfl ?_
          refine l_r (r_field rfl fo32_1) rfl ?_
          refine l_r (r_load1 rfl ag3 ((hcb6.on hs47).get (j := 1) rfl)) rfl ?_
          refine l_r (r_field rfl fo32_2) rfl ?_
          refine l_r (r_load1 rfl ag3 ((hcb6.on hs47).get (j := 2) rfl)) rfl ?_
          refine l_r (r_loadN rfl ag52 (hcb9.on hs47) (by rw [Kd.queue.len hKa]; exact sz52)) rfl ?_
          refine l_call rfl rfl fk26 rfl (refqueueZ (p := p) (q := { e16x with Values := (moveQ e16x.Values e17x.Values e17x.Depth).1 }) w46 (hxs.onk hs47) hp0 hp1 hp (by omega) (by omega) (by omega) (Kd.queue.on hKa hs47)) ?_
          rintro _ w48 ⟨Ay1, cy1, rfl, hx48, hy1⟩
          have hs48 := hs47.ext hx48
          refine ⟨_, rfl, ?_⟩
          have hKb := Kd.queue.on hKb hs48
          have hcb10 := hcb10.on hs48
          have hyl : (putQP xs e5x.From.toNat e5x.A.toNat { e16x with Values := (moveQ e16x.Values e17x.Values e17x.Depth).1 }).length = xs.length := by simp [putQP]
          obtain ⟨q2, hqq2, hq2l, _⟩ := get_putQ (i := e5x.From.toNat) (a := e5x.A.toNat) (u := { e16x with Values := (moveQ e16x.Values e17x.Values e17x.Depth).1 }) hq
          have hq2m : q2.Queues.length ≤ 100000000 := by omega
          have hxs := (hxs.onk hs48).all_ (by decide)
          have hcb2 := hcb2.on hs48
          have hl_2 := (hl_2.onk hs48).all_ (by decide)
          have hl_3 := (hl_3.onk hs48).all_ (by decide)
          have hl_4 := (hl_4.onk hs48).all_ (by decide)
          have hl_5 := (hl_5.onk hs48).all_ (by decide)
          have hcb6 := hcb6.on hs48
          have hxb := hxb.trans hs48.toExt
          have hs49 := St.refl w48.heap.size w48
          refine l_r (r_assign rfl) rfl ?_
          refine l_nil ?_
          refine s_region ?_
          refine l_r (r_move rfl) rfl ?_
          refine l_r (r_field rfl fo32_3) rfl ?_
          refine l_r (r_load1 rfl ag3 ((hcb6.on hs49).get (j := 3) rfl)) rfl ?_
          refine l_r (r_field rfl fo32_4) rfl ?_
          refine l_r (r_load1 rfl ag3 ((hcb6.on hs49).get (j := 4) rfl)) rfl ?_
          refine l_r (r_loadN rfl ag52 (hcb10.on hs49) (by rw [Kd.queue.len hKb]; exact sz52)) rfl ?_
          refine l_call rfl rfl fk26 rfl (refqueueZ (p := q2) (q := { e17x with Values := (moveQ e16x.Values e17x.Values e17x.Depth).2 }) w48 (hy1.onk hs49) hq0 hq1 hqq2 (by omega) (by rw [hyl]; omega) hq2m (Kd.queue.on hKb hs49)) ?_
          rintro _ w50 ⟨Ay2, cy2, rfl, hx50, hy2⟩
          have hs50 := hs49.ext hx50
          refine ⟨_, rfl, ?_⟩
          have hy1 := (hy1.onk hs50).all_ (by decide)
          have hcb2 := hcb2.on hs50
          have hl_2 := (hl_2.onk hs50).all_ (by decide)
          have hl_3 := (hl_3.onk hs50).all_ (by decide)
          have hl_4 := (hl_4.onk hs50).all_ (by decide)
          have hl_5 := (hl_5.onk hs50).all_ (by decide)
          have hcb6 := hcb6.on hs50
          have hxs := (hxs.onk hs50).all_ (by decide)
          have hxb := hxb.trans hs50.toExt
          have hs51 := St.refl w50.heap.size w50
          refine l_r (r_assign rfl) rfl ?_
          refine l_nil ?_
          refine s_mark ?_
          refine s_region ?_
          refine l_r (r_move rfl) rfl ?_
          refine l_r (r_inc rfl (by omega)) rfl ?_
          refine l_r (r_assign rfl) rfl ?_
          refine l_nil ?_
          refine s_again ?_
          exact ⟨_, [(5, .int .i64 (((k + 1) : Nat) : Int)), (1, .slice Ay2 (putQP (putQP xs e5x.From.toNat e5x.A.toNat { e16x with Values := (moveQ e16x.Values e17x.Values e17x.Depth).1 }) e5x.To.toNat e5x.B.toNat { e17x with Values := (moveQ e16x.Values e17x.Values e17x.Depth).2 }).length cy2), (2, .pointer (some ⟨b2, 0 + 0, none⟩)), (4, .slice none 0 0)], by omega, (.cons rfl (.cons rfl (.cons rfl (.cons rfl .nil)))), ⟨(k + 1), (putQP (putQP xs e5x.From.toNat e5x.A.toNat { e16x with Values := (moveQ e16x.Values e17x.Values e17x.Depth).1 }) e5x.To.toNat e5x.B.toNat { e17x with Values := (moveQ e16x.Values e17x.Values e17x.Depth).2 }), Ay2, cy2, rfl, rfl, by omega, (by rw [fold_take e5h, ← hxe]; exact refstep_q hc12 hp hq hp0 hq0 hp1 hq1 e16h e17h), (hy2.onk hs51), hxb.trans hs51.toExt, (hcb2.on hs51), (hl_2.onk hs51), (hl_3.onk hs51), (hl_4.onk hs51), (hl_5.onk hs51)⟩⟩
        ·
          refine s_else rfl ?_
          rw [hc12] at hp2 hq2
          simp only [if_true, Bool.false_eq_true, if_false] at hp2 hq2
          have hcb6 : Cells w9 b6 0 [.bool e5x.Queuing, .int .i64 e5x.From, .int .i64 e5x.A, .int .i64 e5x.To, .int .i64 e5x.B] := heap_all (hs9.get (r := .pt b6 _ _) List.mem_cons_self)
          have hxs := (hxs.onk hs9).all_ (by decide)
          have hcb2 := hcb2.on hs9
          have hl_2 := (hl_2.onk hs9).all_ (by decide)
          have hl_3 := (hl_3.onk hs9).all_ (by decide)
          have hl_4 := (hl_4.onk hs9).all_ (by decide)
          have hl_5 := (hl_5.onk hs9).all_ (by decide)
          have e5c := e5c.on hs9
          have hxb := hxb.trans hs9.toExt
          have hs52 := St.refl w9.heap.size w9
          obtain ⟨e53b, e53o, e53cs, e53A, _, e53K, e53c⟩ := hxs.2.2 _ _ hp
          have e53K0 := e53K
          obtain ⟨Ae53_3, ce53_3, Ae53_4, ce53_4, Ae53_5, ce53_5, Ae53_6, ce53_6, Ae53_7, ce53_7, Ae53_8, ce53_8, Ae53_9, ce53_9, Ae53_10, ce53_10, Ae53_12, ce53_12, Ae53_14, ce53_14, rfl, he53_3, he53_4, he53_5, he53_6, he53_7, he53_8, he53_9, he53_10, he53_12, he53_14⟩ := e53K
          obtain ⟨e54b, e54o, e54cs, e54A, _, e54K, e54c⟩ := hxs.2.2 _ _ hq
          have e54K0 := e54K
          obtain ⟨Ae54_3, ce54_3, Ae54_4, ce54_4, Ae54_5, ce54_5, Ae54_6, ce54_6, Ae54_7, ce54_7, Ae54_8, ce54_8, Ae54_9, ce54_9, Ae54_10, ce54_10, Ae54_12, ce54_12, Ae54_14, ce54_14, rfl, he54_3, he54_4, he54_5, he54_6, he54_7, he54_8, he54_9, he54_10, he54_12, he54_14⟩ := e54K
          obtain ⟨e55x, e55h, e55b, e55o, e55cs, e55A, _, e55K, e55c⟩ := he53_9.get_ (i := e5x.A.toNat) (by omega)
          obtain rfl : e55cs = [.bool e55x.Is, .int .i64 e55x.Value, .int .i64 e55x.At] := e55K
          obtain ⟨e56x, e56h, e56b, e56o, e56cs, e56A, _, e56K, e56c⟩ := he54_9.get_ (i := e5x.B.toNat) (by omega)
          obtain rfl : e56cs = [.bool e56x.Is, .int .i64 e56x.Value, .int .i64 e56x.At] := e56K
          refine s_any (by kernel_rfl) (fun w' => Ext w9 w') (fun L' w' => ∃ (Ay2 : Option Addr) (cy2 : Nat), Sub [(1, .slice Ay2 (putSP xs e5x.To.toNat e5x.B.toNat (carryL e55x e56x)).length cy2), (2, .pointer (some ⟨b2, 0 + 0, none⟩)), (4, .slice none 0 0), (5, .int .i64 (((k : Nat) : Int))), (6, .pointer (some ⟨b6, 0 + 0, none⟩))] L' ∧ Ext w9 w' ∧ Sl Kd.part w' (fun _ => True) Ay2 cy2 (putSP xs e5x.To.toNat e5x.B.toNat (carryL e55x e56x))) ?_ ?_
          ·
            intro w57 hx57 hh57
            have hs57 := hs52.ext hx57
            refine wa_take 0 rfl (by kernel_rfl) (fun w' hw' => r_move rfl) (hs57.toExt) rfl ?_
            refine wa_take 1 rfl (by kernel_rfl) (fun w' hw' => r_field rfl fo32_3) (hs57.toExt) rfl ?_
            refine wa_take 2 rfl (by kernel_rfl) (fun w' hw' => r_load1 rfl ag3 ((hcb6.on ((St.refl w9.heap.size w9).ext hw')).get (j := 3) rfl)) (hs57.toExt) rfl ?_
            refine wa_take 3 rfl (by kernel_rfl) (fun w' hw' => r_field rfl fo32_4) (hs57.toExt) rfl ?_
            refine wa_take 4 rfl (by kernel_rfl) (fun w' hw' => r_load1 rfl ag3 ((hcb6.on ((St.refl w9.heap.size w9).ext hw')).get (j := 4) rfl)) (hs57.toExt) rfl ?_
            refine wa_take 5 rfl (by kernel_rfl) (fun w' hw' => r_move rfl) (hs57.toExt) rfl ?_
            refine wa_take 6 rfl (by kernel_rfl) (fun w' hw' => r_field rfl fo32_1) (hs57.toExt) rfl ?_
            refine wa_take 7 rfl (by kernel_rfl) (fun w' hw' => r_load1 rfl ag3 ((hcb6.on ((St.refl w9.heap.size w9).ext hw')).get (j := 1) rfl)) (hs57.toExt) rfl ?_
            refine wa_take 8 rfl (by kernel_rfl) (fun w' hw' => r_indexA rfl e53A rfl (by omega) (by omega) el28) (hs57.toExt) rfl ?_
            refine wa_take 9 rfl (by kernel_rfl) (fun w' hw' => r_field rfl fo48_9) (hs57.toExt) rfl ?_
            refine wa_take 10 rfl (by kernel_rfl) (fun w' hw' => r_load1 rfl ag43 ((e53c.on ((St.refl w9.heap.size w9).ext hw')).get (j := 9) rfl)) (hs57.toExt) rfl ?_
            refine wa_take 11 rfl (by kernel_rfl) (fun w' hw' => r_field rfl fo32_2) (hs57.toExt) rfl ?_
            refine wa_take 12 rfl (by kernel_rfl) (fun w' hw' => r_load1 rfl ag3 ((hcb6.on ((St.refl w9.heap.size w9).ext hw')).get (j := 2) rfl)) (hs57.toExt) rfl ?_
            refine wa_take 13 rfl (by kernel_rfl) (fun w' hw' => r_indexA rfl e55A rfl (by omega) (by omega) el43) (hs57.toExt) rfl ?_
            refine wa_take 14 rfl (by kernel_rfl) (fun w' hw' => r_loadN rfl ag56 (e55c.on ((St.refl w9.heap.size w9).ext hw')) sz56) (hs57.toExt) rfl ?_
            refine wa_take 15 rfl (by kernel_rfl) (fun w' hw' => r_move rfl) (hs57.toExt) rfl ?_
            refine wa_take 16 rfl (by kernel_rfl) (fun w' hw' => r_field rfl fo32_3) (hs57.toExt) rfl ?_
            refine wa_take 17 rfl (by kernel_rfl) (fun w' hw' => r_load1 rfl ag3 ((hcb6.on ((St.refl w9.heap.size w9).ext hw')).get (j := 3) rfl)) (hs57.toExt) rfl ?_
            refine wa_take 18 rfl (by kernel_rfl) (fun w' hw' => r_indexA rfl e54A rfl (by omega) (by omega) el28) (hs57.toExt) rfl ?_
            refine wa_take 19 rfl (by kernel_rfl) (fun w' hw' => r_field rfl fo48_9) (hs57.toExt) rfl ?_
            refine wa_take 20 rfl (by kernel_rfl) (fun w' hw' => r_load1 rfl ag43 ((e54c.on ((St.refl w9.heap.size w9).ext hw')).get (j := 9) rfl)) (hs57.toExt) rfl ?_
            refine wa_take 21 rfl (by kernel_rfl) (fun w' hw' => r_field rfl fo32_4) (hs57.toExt) rfl ?_
            refine wa_take 22 rfl (by kernel_rfl) (fun w' hw' => r_load1 rfl ag3 ((hcb6.on ((St.refl w9.heap.size w9).ext hw')).get (j := 4) rfl)) (hs57.toExt) rfl ?_
            refine wa_take 23 rfl (by kernel_rfl) (fun w' hw' => r_indexA rfl e56A rfl (by omega) (by omega) el43) (hs57.toExt) rfl ?_
            refine wa_take 24 rfl (by kernel_rfl) (fun w' hw' => r_loadN rfl ag56 (e56c.on ((St.refl w9.heap.size w9).ext hw')) sz56) (hs57.toExt) rfl ?_
            refine wa_one [25] (by kernel_rfl) rfl ?_
            intro i hi
            simp only [List.mem_cons, List.not_mem_nil, or_false] at hi
            subst hi
            refine ⟨_, rfl, ?_⟩
            refine l_call rfl rfl fk28 rfl (refcarry (a := e55x) (b := e56x) w57) ?_
            rintro _ w58 ⟨rfl, hc58⟩
            have hs58 := hs57.call0 hc58
            refine ⟨_, rfl, ?_⟩
            refine l_nil ⟨hs58.toExt, ?_⟩
            refine wa_one [26] (by kernel_rfl) rfl ?_
            intro i hi
            simp only [List.mem_cons, List.not_mem_nil, or_false] at hi
            subst hi
            refine ⟨_, rfl, ?_⟩
            refine l_call rfl rfl fk27 rfl (refsampleZ (p := q) (q := (carryL e55x e56x)) (ok2 := fun _ => True) w58 (hxs.onk hs58) hq0 hq1 hq (by omega) (by omega) (by omega) rfl) ?_
            rintro _ w59 ⟨Ay2, cy2, rfl, hx59, hy2⟩
            have hs59 := hs58.ext hx59
            refine ⟨_, rfl, ?_⟩
            refine l_nil ⟨hs59.toExt, ?_⟩
            refine wa_take 27 rfl (by kernel_rfl) (fun w' hw' => r_assign rfl) (hs59.toExt) rfl ?_
            exact wa_done (by kernel_rfl) ⟨_, _, (.cons rfl (.cons rfl (.cons rfl (.cons rfl (.cons rfl .nil))))), hs59.toExt, hy2⟩
          rintro _ w60 ⟨Ay2, cy2, hsub, hxr, hy2⟩
          refine s_mark ?_
          refine s_sub [(1, .slice Ay2 (putSP xs e5x.To.toNat e5x.B.toNat (carryL e55x e56x)).length cy2), (2, .pointer (some ⟨b2, 0 + 0, none⟩)), (4, .slice none 0 0), (5, .int .i64 (((k : Nat) : Int))), (6, .pointer (some ⟨b6, 0 + 0, none⟩))] hsub ?_
          have hsr := (St.refl w9.heap.size w9).ext hxr
          have hyl2 : (putSP xs e5x.To.toNat e5x.B.toNat (carryL e55x e56x)).length = xs.length := by simp [putSP]
          have hcb2 := hcb2.on hsr
          have hl_2 := (hl_2.onk hsr).all_ (by decide)
          have hl_3 := (hl_3.onk hsr).all_ (by decide)
          have hl_4 := (hl_4.onk hsr).all_ (by decide)
          have hl_5 := (hl_5.onk hsr).all_ (by decide)
          have hcb6 := hcb6.on hsr
          have hxb := hxb.trans hsr.toExt
          have hs61 := St.refl w60.heap.size w60
          refine s_region ?_
          refine l_r (r_move rfl) rfl ?_
          refine l_r (r_inc rfl (by omega)) rfl ?_
          refine l_r (r_assign rfl) rfl ?_
          refine l_nil ?_
          refine s_again ?_
          exact ⟨_, [(5, .int .i64 (((k + 1) : Nat) : Int)), (1, .slice Ay2 (putSP xs e5x.To.toNat e5x.B.toNat (carryL e55x e56x)).length cy2), (2, .pointer (some ⟨b2, 0 + 0, none⟩)), (4, .slice none 0 0)], by omega, (.cons rfl (.cons rfl (.cons rfl (.cons rfl .nil)))), ⟨(k + 1), (putSP xs e5x.To.toNat e5x.B.toNat (carryL e55x e56x)), Ay2, cy2, rfl, rfl, by omega, (by rw [fold_take e5h, ← hxe]; exact refstep_s hc12 hp hq hp0 hq0 hp1 hq1 e55h e56h), (hy2.onk hs61), hxb.trans hs61.toExt, (hcb2.on hs61), (hl_2.onk hs61), (hl_3.onk hs61), (hl_4.onk hs61), (hl_5.onk hs61)⟩⟩
  ·
    have hc4p := of_decide_eq_false hc4
    refine s_else rfl ?_
    refine s_exit rfl ?_
    refine s_seq ?_
    obtain rfl : k = cf.Channels.length := by omega
    rw [List.take_length] at hxe
    refine s_region ?_
    refine l_r (r_move rfl) rfl ?_
    refine l_copyB hs3 (dk := Kd.part) Try.underlying28 rw48 rfl rfl rfl rfl (hxs) (by omega) rfl rfl ?_
    intro _ nZ w62 hRZ hx62
    obtain ⟨DZ, kZ, rfl, hcapZ, _⟩ := row_slice (hx62.get (r := .row _ _ _ _ _ _) List.mem_cons_self)
    have hs62 := hs3.call1 hx62
    refine l_r (r_assign rfl) rfl ?_
    refine l_nil ?_
    refine s_ret ?_
    exact q_done (.inr rfl) (.tmp rfl .nil) ⟨_, _, by rw [← hxln]; rfl, hxb.trans hs62.toExt, by
        have h := row_slT (d := Kd.part) (hs62.get (r := .row 0 48 15 _ xs.length nZ) List.mem_cons_self) ((hRZ.all_).onr hs62) rfl
        rw [hxe] at h
        exact h⟩

end Go.Proofs.Ytfhghnhgcdiknaa
