/- What is done to each of a list of boards, buffers, semaphores, events, queues. -/
import Derived.Test.YtfhghnhgcdiknaaWa
import Derived.Test.YtfhghnhgcdiknaaDraw
set_option linter.unusedVariables false
namespace Go.Proofs.Ytfhghnhgcdiknaa
open Go.RowKit
set_option maxRecDepth 100000 in
theorem do68 {w0 w : World} {H : List Res} {ok : Nat → Prop} {xs : List TBoard} {g c i bo : Nat} {cs : List Value} {x : TBoard} (hb2 : x.L.length ≤ 100000000) (hbox : w0.cell? ⟨bo, 0, none⟩ = some (.func (.func 41) #[] #[])) (hs0 : St 0 w0 w (.row 0 91 3 (.slice (some ⟨g, 0, none⟩) xs.length c) xs.length cs :: H)) (hK : Kd.board.K w0 ok x ((cs.drop (i * 3)).take 3)) :
    Calls Try.prog 68 #[.pointer (some ⟨g, 0 + i * 3, none⟩), .pointer (some ⟨bo, 0, none⟩)] w (fun e' w' => e' = .returned (.tuple #[]) ∧ ∃ (cx : List Value) (F : Nat → Prop), cx.length = 3 ∧ St 0 w0 w' (.row 0 91 3 (.slice (some ⟨g, 0, none⟩) xs.length c) xs.length (cs.take (i * 3) ++ cx ++ cs.drop (i * 3 + 3)) :: .ro F (fun w' => Kd.board.K w' F x cx) :: H)) := by
  refine q_call (n := 12) (args := [.pointer (some ⟨g, 0 + i * 3, none⟩), .pointer (some ⟨bo, 0, none⟩)]) Try.func68 rfl rfl rfl ?_
  obtain ⟨A2, c2, hseg, hl2⟩ := hK
  refine s_any (by kernel_rfl) (fun w' => w'.cell? ⟨bo, 0, none⟩ = some (.func (.func 41) #[] #[])) (fun L' w' => Sub [] L' ∧ ∃ (cx : List Value) (F : Nat → Prop), cx.length = 3 ∧ St 0 w0 w' (.row 0 91 3 (.slice (some ⟨g, 0, none⟩) xs.length c) xs.length (cs.take (i * 3) ++ cx ++ cs.drop (i * 3 + 3)) :: .ro F (fun w' => Kd.board.K w' F x cx) :: H)) ?_ ?_
  ·
    intro w1 hx1 hh1
    have hs1 := hs0.ext hx1
    refine wa_take 0 rfl (by kernel_rfl) (fun w' hw' => r_move rfl) (cell_on hbox hs1) rfl ?_
    refine wa_take 1 rfl (by kernel_rfl) (fun w' hw' => r_load1 rfl ag100 hw') (cell_on hbox hs1) rfl ?_
    refine wa_take 2 rfl (by kernel_rfl) (fun w' hw' => r_move rfl) (cell_on hbox hs1) rfl ?_
    refine wa_take 3 rfl (by kernel_rfl) (fun w' hw' => r_nilcheck rfl) (cell_on hbox hs1) rfl ?_
    refine wa_take 4 rfl (by kernel_rfl) (fun w' hw' => r_field rfl fo91_2) (cell_on hbox hs1) rfl ?_
    refine wa_one [5] (by kernel_rfl) rfl ?_
    intro i hi
    simp only [List.mem_cons, List.not_mem_nil, or_false] at hi
    subst hi
    refine ⟨_, rfl, ?_⟩
    refine l_r (r_load1R (v := .slice A2 x.L.length c2) rfl hs1 Repl.here ag89 (by rw [Nat.zero_add]; exact seg_get hseg (j := 2) rfl)) rfl ?_
    refine l_nil ⟨cell_on hbox hs1, ?_⟩
    refine wa_one [6] (by kernel_rfl) rfl ?_
    intro i hi
    simp only [List.mem_cons, List.not_mem_nil, or_false] at hi
    subst hi
    refine ⟨_, rfl, ?_⟩
    refine l_call rfl rfl fk41 rfl (clone41 w1 (hl2.on (by decide) hs1) (hb2)) ?_
    rintro _ w2 ⟨_, cn2, rfl, hR2, hc2⟩
    obtain ⟨D2, e2, rfl, _⟩ := row_slice (hc2.get (r := .row _ _ _ _ _ _) List.mem_cons_self)
    have hs2 := hs1.call1 hc2
    refine ⟨_, rfl, ?_⟩
    refine l_nil ⟨cell_on hbox hs2, ?_⟩
    refine wa_one [7] (by kernel_rfl) rfl ?_
    intro i hi
    simp only [List.mem_cons, List.not_mem_nil, or_false] at hi
    subst hi
    refine ⟨_, rfl, ?_⟩
    refine l_r (r_nilcheck rfl) rfl ?_
    refine l_nil ⟨cell_on hbox hs2, ?_⟩
    refine wa_one [8] (by kernel_rfl) rfl ?_
    intro i hi
    simp only [List.mem_cons, List.not_mem_nil, or_false] at hi
    subst hi
    refine ⟨_, rfl, ?_⟩
    refine l_r (r_field rfl fo91_2) rfl ?_
    refine l_nil ⟨cell_on hbox hs2, ?_⟩
    refine wa_one [9] (by kernel_rfl) rfl ?_
    intro i hi
    simp only [List.mem_cons, List.not_mem_nil, or_false] at hi
    subst hi
    refine ⟨_, rfl, ?_⟩
    refine l_storeR (vs := [_]) (cs' := cs.take (i * 3) ++ [.bool x.Is, .int .i64 x.Value, .slice D2 x.L.length e2] ++ cs.drop (i * 3 + 3)) rfl rfl rfl sz89 (by intro u hu; rw [List.mem_singleton.1 hu]; rfl) (Nat.zero_le _) hs2 (Repl.there Repl.here) (by have := seg_len hseg rfl (by decide); simp only [List.length_singleton]; omega) (by rw [Nat.zero_add]; exact seg_put hseg rfl (by decide)) ?_
    intro w3 hz3 hk3 hs3
    refine l_nil ⟨cell_on hbox hs3, ?_⟩
    exact wa_done (by kernel_rfl) ⟨.nil, [.bool x.Is, .int .i64 x.Value, .slice D2 x.L.length e2], _, rfl, (hs3.hide (fun w' => Kd.board.K w' _ x [.bool x.Is, .int .i64 x.Value, .slice D2 x.L.length e2]) (fun w' h => ⟨D2, e2, rfl, row_sl h hR2 (fun _ h => h)⟩)).swap⟩
  rintro _ w4 ⟨hsub, cx, F, hcx, hS⟩
  refine s_nil ?_
  exact q_done (.inl rfl) .nil ⟨rfl, cx, F, hcx, hS⟩

theorem do68_ok {w0 : World} {ok : Nat → Prop} {xs : List TBoard} {bo : Nat} (hb : ∀ x ∈ xs, x.L.length ≤ 100000000) (hbox : w0.cell? ⟨bo, 0, none⟩ = some (.func (.func 41) #[] #[])) : DoOk Try.prog 68 [.pointer (some ⟨bo, 0, none⟩)] Kd.board 91 w0 ok xs :=
  fun w g c i cs H x hi hs hK => do68 (hb x (List.mem_of_getElem? hi)) hbox hs hK

set_option maxRecDepth 100000 in
theorem do70 {w0 w : World} {H : List Res} {ok : Nat → Prop} {xs : List TBuffer} {g c i bo : Nat} {cs : List Value} {x : TBuffer} (hb2 : x.Values.length ≤ 100000000) (hb3 : x.L.length ≤ 100000000) (hbox : w0.cell? ⟨bo, 0, none⟩ = some (.func (.func 41) #[] #[])) (hs0 : St 0 w0 w (.row 0 93 4 (.slice (some ⟨g, 0, none⟩) xs.length c) xs.length cs :: H)) (hK : Kd.buffer.K w0 ok x ((cs.drop (i * 4)).take 4)) :
    Calls Try.prog 70 #[.pointer (some ⟨g, 0 + i * 4, none⟩), .pointer (some ⟨bo, 0, none⟩)] w (fun e' w' => e' = .returned (.tuple #[]) ∧ ∃ (cx : List Value) (F : Nat → Prop), cx.length = 4 ∧ St 0 w0 w' (.row 0 93 4 (.slice (some ⟨g, 0, none⟩) xs.length c) xs.length (cs.take (i * 4) ++ cx ++ cs.drop (i * 4 + 4)) :: .ro F (fun w' => Kd.buffer.K w' F x cx) :: H)) := by
  refine q_call (n := 20) (args := [.pointer (some ⟨g, 0 + i * 4, none⟩), .pointer (some ⟨bo, 0, none⟩)]) Try.func70 rfl rfl rfl ?_
  obtain ⟨A2, c2, A3, c3, hseg, hl2, hl3⟩ := hK
  refine s_any (by kernel_rfl) (fun w' => w'.cell? ⟨bo, 0, none⟩ = some (.func (.func 41) #[] #[])) (fun L' w' => Sub [] L' ∧ ∃ (cx : List Value) (F : Nat → Prop), cx.length = 4 ∧ St 0 w0 w' (.row 0 93 4 (.slice (some ⟨g, 0, none⟩) xs.length c) xs.length (cs.take (i * 4) ++ cx ++ cs.drop (i * 4 + 4)) :: .ro F (fun w' => Kd.buffer.K w' F x cx) :: H)) ?_ ?_
  ·
    intro w1 hx1 hh1
    have hs1 := hs0.ext hx1
    refine wa_take 0 rfl (by kernel_rfl) (fun w' hw' => r_move rfl) (cell_on hbox hs1) rfl ?_
    refine wa_take 1 rfl (by kernel_rfl) (fun w' hw' => r_move rfl) (cell_on hbox hs1) rfl ?_
    refine wa_take 2 rfl (by kernel_rfl) (fun w' hw' => r_load1 rfl ag100 hw') (cell_on hbox hs1) rfl ?_
    refine wa_take 3 rfl (by kernel_rfl) (fun w' hw' => r_move rfl) (cell_on hbox hs1) rfl ?_
    refine wa_take 4 rfl (by kernel_rfl) (fun w' hw' => r_nilcheck rfl) (cell_on hbox hs1) rfl ?_
    refine wa_take 5 rfl (by kernel_rfl) (fun w' hw' => r_field rfl fo93_3) (cell_on hbox hs1) rfl ?_
    refine wa_take 8 rfl (by kernel_rfl) (fun w' hw' => r_move rfl) (cell_on hbox hs1) rfl ?_
    refine wa_take 9 rfl (by kernel_rfl) (fun w' hw' => r_nilcheck rfl) (cell_on hbox hs1) rfl ?_
    refine wa_take 10 rfl (by kernel_rfl) (fun w' hw' => r_field rfl fo93_2) (cell_on hbox hs1) rfl ?_
    refine wa_one [6, 11] (by kernel_rfl) rfl ?_
    intro i hi
    simp only [List.mem_cons, List.not_mem_nil, or_false] at hi
    rcases hi with rfl | rfl
    ·
      refine ⟨_, rfl, ?_⟩
      refine l_r (r_load1R (v := .slice A3 x.L.length c3) rfl hs1 Repl.here ag89 (by rw [Nat.zero_add]; exact seg_get hseg (j := 3) rfl)) rfl ?_
      refine l_nil ⟨cell_on hbox hs1, ?_⟩
      refine wa_one [7, 11] (by kernel_rfl) rfl ?_
      intro i hi
      simp only [List.mem_cons, List.not_mem_nil, or_false] at hi
      rcases hi with rfl | rfl
      ·
        refine ⟨_, rfl, ?_⟩
        refine l_call rfl rfl fk41 rfl (clone41 w1 (hl3.on (by decide) hs1) (hb3)) ?_
        rintro _ w2 ⟨_, cn3, rfl, hR3, hc2⟩
        obtain ⟨D3, e3, rfl, _⟩ := row_slice (hc2.get (r := .row _ _ _ _ _ _) List.mem_cons_self)
        have hs2 := hs1.call1 hc2
        refine ⟨_, rfl, ?_⟩
        refine l_nil ⟨cell_on hbox hs2, ?_⟩
        refine wa_one [11] (by kernel_rfl) rfl ?_
        intro i hi
        simp only [List.mem_cons, List.not_mem_nil, or_false] at hi
        subst hi
        refine ⟨_, rfl, ?_⟩
        refine l_r (r_load1R (v := .slice A2 x.Values.length c2) rfl hs2 (Repl.there Repl.here) ag22 (by rw [Nat.zero_add]; exact seg_get hseg (j := 2) rfl)) rfl ?_
        refine l_nil ⟨cell_on hbox hs2, ?_⟩
        refine wa_one [12] (by kernel_rfl) rfl ?_
        intro i hi
        simp only [List.mem_cons, List.not_mem_nil, or_false] at hi
        subst hi
        refine ⟨_, rfl, ?_⟩
        refine l_call rfl rfl fk71 rfl (clone71 w2 (hl2.on (by decide) hs2) (hb2)) ?_
        rintro _ w3 ⟨_, cn2, rfl, hR2, hc3⟩
        obtain ⟨D2, e2, rfl, _⟩ := row_slice (hc3.get (r := .row _ _ _ _ _ _) List.mem_cons_self)
        have hs3 := hs2.call1 hc3
        refine ⟨_, rfl, ?_⟩
        refine l_nil ⟨cell_on hbox hs3, ?_⟩
        refine wa_one [13] (by kernel_rfl) rfl ?_
        intro i hi
        simp only [List.mem_cons, List.not_mem_nil, or_false] at hi
        subst hi
        refine ⟨_, rfl, ?_⟩
        refine l_r (r_nilcheck rfl) rfl ?_
        refine l_nil ⟨cell_on hbox hs3, ?_⟩
        refine wa_one [14] (by kernel_rfl) rfl ?_
        intro i hi
        simp only [List.mem_cons, List.not_mem_nil, or_false] at hi
        subst hi
        refine ⟨_, rfl, ?_⟩
        refine l_r (r_field rfl fo93_3) rfl ?_
        refine l_nil ⟨cell_on hbox hs3, ?_⟩
        refine wa_one [15] (by kernel_rfl) rfl ?_
        intro i hi
        simp only [List.mem_cons, List.not_mem_nil, or_false] at hi
        subst hi
        refine ⟨_, rfl, ?_⟩
        refine l_storeR (vs := [_]) (cs' := cs.take (i * 4) ++ [.int .i64 x.Depth, .bool x.Ranked, .slice A2 x.Values.length c2, .slice D3 x.L.length e3] ++ cs.drop (i * 4 + 4)) rfl rfl rfl sz89 (by intro u hu; rw [List.mem_singleton.1 hu]; rfl) (Nat.zero_le _) hs3 (Repl.there (Repl.there Repl.here)) (by have := seg_len hseg rfl (by decide); simp only [List.length_singleton]; omega) (by rw [Nat.zero_add]; exact seg_put hseg rfl (by decide)) ?_
        intro w4 hz4 hk4 hs4
        have hseg1 := seg_same (cs := cs) (o := i * 4) (k := 4) (l := [.int .i64 x.Depth, .bool x.Ranked, .slice A2 x.Values.length c2, .slice D3 x.L.length e3]) rfl (seg_len hseg rfl (by decide))
        refine l_nil ⟨cell_on hbox hs4, ?_⟩
        refine wa_one [16] (by kernel_rfl) rfl ?_
        intro i hi
        simp only [List.mem_cons, List.not_mem_nil, or_false] at hi
        subst hi
        refine ⟨_, rfl, ?_⟩
        refine l_r (r_nilcheck rfl) rfl ?_
        refine l_nil ⟨cell_on hbox hs4, ?_⟩
        refine wa_one [17] (by kernel_rfl) rfl ?_
        intro i hi
        simp only [List.mem_cons, List.not_mem_nil, or_false] at hi
        subst hi
        refine ⟨_, rfl, ?_⟩
        refine l_r (r_field rfl fo93_2) rfl ?_
        refine l_nil ⟨cell_on hbox hs4, ?_⟩
        refine wa_one [18] (by kernel_rfl) rfl ?_
        intro i hi
        simp only [List.mem_cons, List.not_mem_nil, or_false] at hi
        subst hi
        refine ⟨_, rfl, ?_⟩
        refine l_storeR (vs := [_]) (cs' := cs.take (i * 4) ++ [.int .i64 x.Depth, .bool x.Ranked, .slice D2 x.Values.length e2, .slice D3 x.L.length e3] ++ cs.drop (i * 4 + 4)) rfl rfl rfl sz22 (by intro u hu; rw [List.mem_singleton.1 hu]; rfl) (Nat.zero_le _) hs4 (Repl.there (Repl.there Repl.here)) (by have := seg_len hseg1 rfl (by decide); simp only [List.length_singleton]; omega) (by rw [Nat.zero_add]; exact (seg_put hseg1 rfl (by decide)).trans (put_put (seg_len hseg rfl (by decide)) rfl)) ?_
        intro w5 hz5 hk5 hs5
        refine l_nil ⟨cell_on hbox hs5, ?_⟩
        exact wa_done (by kernel_rfl) ⟨.nil, [.int .i64 x.Depth, .bool x.Ranked, .slice D2 x.Values.length e2, .slice D3 x.L.length e3], _, rfl, ((hs5.join (fun w' => Kd.buffer.K w' _ x [.int .i64 x.Depth, .bool x.Ranked, .slice D2 x.Values.length e2, .slice D3 x.L.length e3]) (fun w' h1 h2 => ⟨D2, e2, D3, e3, rfl, row_sl h1 hR2 (fun _ h => .inl h), row_sl h2 hR3 (fun _ h => .inr h)⟩)).swap)⟩
      ·
        refine ⟨_, rfl, ?_⟩
        refine l_r (r_load1R (v := .slice A2 x.Values.length c2) rfl hs1 Repl.here ag22 (by rw [Nat.zero_add]; exact seg_get hseg (j := 2) rfl)) rfl ?_
        refine l_nil ⟨cell_on hbox hs1, ?_⟩
        refine wa_one [7] (by kernel_rfl) rfl ?_
        intro i hi
        simp only [List.mem_cons, List.not_mem_nil, or_false] at hi
        subst hi
        refine ⟨_, rfl, ?_⟩
        refine l_call rfl rfl fk41 rfl (clone41 w1 (hl3.on (by decide) hs1) (hb3)) ?_
        rintro _ w6 ⟨_, cn3, rfl, hR3, hc6⟩
        obtain ⟨D3, e3, rfl, _⟩ := row_slice (hc6.get (r := .row _ _ _ _ _ _) List.mem_cons_self)
        have hs6 := hs1.call1 hc6
        refine ⟨_, rfl, ?_⟩
        refine l_nil ⟨cell_on hbox hs6, ?_⟩
        refine wa_one [12] (by kernel_rfl) rfl ?_
        intro i hi
        simp only [List.mem_cons, List.not_mem_nil, or_false] at hi
        subst hi
        refine ⟨_, rfl, ?_⟩
        refine l_call rfl rfl fk71 rfl (clone71 w6 (hl2.on (by decide) hs6) (hb2)) ?_
        rintro _ w7 ⟨_, cn2, rfl, hR2, hc7⟩
        obtain ⟨D2, e2, rfl, _⟩ := row_slice (hc7.get (r := .row _ _ _ _ _ _) List.mem_cons_self)
        have hs7 := hs6.call1 hc7
        refine ⟨_, rfl, ?_⟩
        refine l_nil ⟨cell_on hbox hs7, ?_⟩
        refine wa_one [13] (by kernel_rfl) rfl ?_
        intro i hi
        simp only [List.mem_cons, List.not_mem_nil, or_false] at hi
        subst hi
        refine ⟨_, rfl, ?_⟩
        refine l_r (r_nilcheck rfl) rfl ?_
        refine l_nil ⟨cell_on hbox hs7, ?_⟩
        refine wa_one [14] (by kernel_rfl) rfl ?_
        intro i hi
        simp only [List.mem_cons, List.not_mem_nil, or_false] at hi
        subst hi
        refine ⟨_, rfl, ?_⟩
        refine l_r (r_field rfl fo93_3) rfl ?_
        refine l_nil ⟨cell_on hbox hs7, ?_⟩
        refine wa_one [15] (by kernel_rfl) rfl ?_
        intro i hi
        simp only [List.mem_cons, List.not_mem_nil, or_false] at hi
        subst hi
        refine ⟨_, rfl, ?_⟩
        refine l_storeR (vs := [_]) (cs' := cs.take (i * 4) ++ [.int .i64 x.Depth, .bool x.Ranked, .slice A2 x.Values.length c2, .slice D3 x.L.length e3] ++ cs.drop (i * 4 + 4)) rfl rfl rfl sz89 (by intro u hu; rw [List.mem_singleton.1 hu]; rfl) (Nat.zero_le _) hs7 (Repl.there (Repl.there Repl.here)) (by have := seg_len hseg rfl (by decide); simp only [List.length_singleton]; omega) (by rw [Nat.zero_add]; exact seg_put hseg rfl (by decide)) ?_
        intro w8 hz8 hk8 hs8
        have hseg1 := seg_same (cs := cs) (o := i * 4) (k := 4) (l := [.int .i64 x.Depth, .bool x.Ranked, .slice A2 x.Values.length c2, .slice D3 x.L.length e3]) rfl (seg_len hseg rfl (by decide))
        refine l_nil ⟨cell_on hbox hs8, ?_⟩
        refine wa_one [16] (by kernel_rfl) rfl ?_
        intro i hi
        simp only [List.mem_cons, List.not_mem_nil, or_false] at hi
        subst hi
        refine ⟨_, rfl, ?_⟩
        refine l_r (r_nilcheck rfl) rfl ?_
        refine l_nil ⟨cell_on hbox hs8, ?_⟩
        refine wa_one [17] (by kernel_rfl) rfl ?_
        intro i hi
        simp only [List.mem_cons, List.not_mem_nil, or_false] at hi
        subst hi
        refine ⟨_, rfl, ?_⟩
        refine l_r (r_field rfl fo93_2) rfl ?_
        refine l_nil ⟨cell_on hbox hs8, ?_⟩
        refine wa_one [18] (by kernel_rfl) rfl ?_
        intro i hi
        simp only [List.mem_cons, List.not_mem_nil, or_false] at hi
        subst hi
        refine ⟨_, rfl, ?_⟩
        refine l_storeR (vs := [_]) (cs' := cs.take (i * 4) ++ [.int .i64 x.Depth, .bool x.Ranked, .slice D2 x.Values.length e2, .slice D3 x.L.length e3] ++ cs.drop (i * 4 + 4)) rfl rfl rfl sz22 (by intro u hu; rw [List.mem_singleton.1 hu]; rfl) (Nat.zero_le _) hs8 (Repl.there (Repl.there Repl.here)) (by have := seg_len hseg1 rfl (by decide); simp only [List.length_singleton]; omega) (by rw [Nat.zero_add]; exact (seg_put hseg1 rfl (by decide)).trans (put_put (seg_len hseg rfl (by decide)) rfl)) ?_
        intro w9 hz9 hk9 hs9
        refine l_nil ⟨cell_on hbox hs9, ?_⟩
        exact wa_done (by kernel_rfl) ⟨.nil, [.int .i64 x.Depth, .bool x.Ranked, .slice D2 x.Values.length e2, .slice D3 x.L.length e3], _, rfl, ((hs9.join (fun w' => Kd.buffer.K w' _ x [.int .i64 x.Depth, .bool x.Ranked, .slice D2 x.Values.length e2, .slice D3 x.L.length e3]) (fun w' h1 h2 => ⟨D2, e2, D3, e3, rfl, row_sl h1 hR2 (fun _ h => .inl h), row_sl h2 hR3 (fun _ h => .inr h)⟩)).swap)⟩
    ·
      refine ⟨_, rfl, ?_⟩
      refine l_r (r_load1R (v := .slice A2 x.Values.length c2) rfl hs1 Repl.here ag22 (by rw [Nat.zero_add]; exact seg_get hseg (j := 2) rfl)) rfl ?_
      refine l_nil ⟨cell_on hbox hs1, ?_⟩
      refine wa_one [6] (by kernel_rfl) rfl ?_
      intro i hi
      simp only [List.mem_cons, List.not_mem_nil, or_false] at hi
      subst hi
      refine ⟨_, rfl, ?_⟩
      refine l_r (r_load1R (v := .slice A3 x.L.length c3) rfl hs1 Repl.here ag89 (by rw [Nat.zero_add]; exact seg_get hseg (j := 3) rfl)) rfl ?_
      refine l_nil ⟨cell_on hbox hs1, ?_⟩
      refine wa_one [7] (by kernel_rfl) rfl ?_
      intro i hi
      simp only [List.mem_cons, List.not_mem_nil, or_false] at hi
      subst hi
      refine ⟨_, rfl, ?_⟩
      refine l_call rfl rfl fk41 rfl (clone41 w1 (hl3.on (by decide) hs1) (hb3)) ?_
      rintro _ w10 ⟨_, cn3, rfl, hR3, hc10⟩
      obtain ⟨D3, e3, rfl, _⟩ := row_slice (hc10.get (r := .row _ _ _ _ _ _) List.mem_cons_self)
      have hs10 := hs1.call1 hc10
      refine ⟨_, rfl, ?_⟩
      refine l_nil ⟨cell_on hbox hs10, ?_⟩
      refine wa_one [12] (by kernel_rfl) rfl ?_
      intro i hi
      simp only [List.mem_cons, List.not_mem_nil, or_false] at hi
      subst hi
      refine ⟨_, rfl, ?_⟩
      refine l_call rfl rfl fk71 rfl (clone71 w10 (hl2.on (by decide) hs10) (hb2)) ?_
      rintro _ w11 ⟨_, cn2, rfl, hR2, hc11⟩
      obtain ⟨D2, e2, rfl, _⟩ := row_slice (hc11.get (r := .row _ _ _ _ _ _) List.mem_cons_self)
      have hs11 := hs10.call1 hc11
      refine ⟨_, rfl, ?_⟩
      refine l_nil ⟨cell_on hbox hs11, ?_⟩
      refine wa_one [13] (by kernel_rfl) rfl ?_
      intro i hi
      simp only [List.mem_cons, List.not_mem_nil, or_false] at hi
      subst hi
      refine ⟨_, rfl, ?_⟩
      refine l_r (r_nilcheck rfl) rfl ?_
      refine l_nil ⟨cell_on hbox hs11, ?_⟩
      refine wa_one [14] (by kernel_rfl) rfl ?_
      intro i hi
      simp only [List.mem_cons, List.not_mem_nil, or_false] at hi
      subst hi
      refine ⟨_, rfl, ?_⟩
      refine l_r (r_field rfl fo93_3) rfl ?_
      refine l_nil ⟨cell_on hbox hs11, ?_⟩
      refine wa_one [15] (by kernel_rfl) rfl ?_
      intro i hi
      simp only [List.mem_cons, List.not_mem_nil, or_false] at hi
      subst hi
      refine ⟨_, rfl, ?_⟩
      refine l_storeR (vs := [_]) (cs' := cs.take (i * 4) ++ [.int .i64 x.Depth, .bool x.Ranked, .slice A2 x.Values.length c2, .slice D3 x.L.length e3] ++ cs.drop (i * 4 + 4)) rfl rfl rfl sz89 (by intro u hu; rw [List.mem_singleton.1 hu]; rfl) (Nat.zero_le _) hs11 (Repl.there (Repl.there Repl.here)) (by have := seg_len hseg rfl (by decide); simp only [List.length_singleton]; omega) (by rw [Nat.zero_add]; exact seg_put hseg rfl (by decide)) ?_
      intro w12 hz12 hk12 hs12
      have hseg1 := seg_same (cs := cs) (o := i * 4) (k := 4) (l := [.int .i64 x.Depth, .bool x.Ranked, .slice A2 x.Values.length c2, .slice D3 x.L.length e3]) rfl (seg_len hseg rfl (by decide))
      refine l_nil ⟨cell_on hbox hs12, ?_⟩
      refine wa_one [16] (by kernel_rfl) rfl ?_
      intro i hi
      simp only [List.mem_cons, List.not_mem_nil, or_false] at hi
      subst hi
      refine ⟨_, rfl, ?_⟩
      refine l_r (r_nilcheck rfl) rfl ?_
      refine l_nil ⟨cell_on hbox hs12, ?_⟩
      refine wa_one [17] (by kernel_rfl) rfl ?_
      intro i hi
      simp only [List.mem_cons, List.not_mem_nil, or_false] at hi
      subst hi
      refine ⟨_, rfl, ?_⟩
      refine l_r (r_field rfl fo93_2) rfl ?_
      refine l_nil ⟨cell_on hbox hs12, ?_⟩
      refine wa_one [18] (by kernel_rfl) rfl ?_
      intro i hi
      simp only [List.mem_cons, List.not_mem_nil, or_false] at hi
      subst hi
      refine ⟨_, rfl, ?_⟩
      refine l_storeR (vs := [_]) (cs' := cs.take (i * 4) ++ [.int .i64 x.Depth, .bool x.Ranked, .slice D2 x.Values.length e2, .slice D3 x.L.length e3] ++ cs.drop (i * 4 + 4)) rfl rfl rfl sz22 (by intro u hu; rw [List.mem_singleton.1 hu]; rfl) (Nat.zero_le _) hs12 (Repl.there (Repl.there Repl.here)) (by have := seg_len hseg1 rfl (by decide); simp only [List.length_singleton]; omega) (by rw [Nat.zero_add]; exact (seg_put hseg1 rfl (by decide)).trans (put_put (seg_len hseg rfl (by decide)) rfl)) ?_
      intro w13 hz13 hk13 hs13
      refine l_nil ⟨cell_on hbox hs13, ?_⟩
      exact wa_done (by kernel_rfl) ⟨.nil, [.int .i64 x.Depth, .bool x.Ranked, .slice D2 x.Values.length e2, .slice D3 x.L.length e3], _, rfl, ((hs13.join (fun w' => Kd.buffer.K w' _ x [.int .i64 x.Depth, .bool x.Ranked, .slice D2 x.Values.length e2, .slice D3 x.L.length e3]) (fun w' h1 h2 => ⟨D2, e2, D3, e3, rfl, row_sl h1 hR2 (fun _ h => .inl h), row_sl h2 hR3 (fun _ h => .inr h)⟩)).swap)⟩
  rintro _ w14 ⟨hsub, cx, F, hcx, hS⟩
  refine s_nil ?_
  exact q_done (.inl rfl) .nil ⟨rfl, cx, F, hcx, hS⟩

theorem do70_ok {w0 : World} {ok : Nat → Prop} {xs : List TBuffer} {bo : Nat} (hb : ∀ x ∈ xs, x.Values.length ≤ 100000000 ∧ x.L.length ≤ 100000000) (hbox : w0.cell? ⟨bo, 0, none⟩ = some (.func (.func 41) #[] #[])) : DoOk Try.prog 70 [.pointer (some ⟨bo, 0, none⟩)] Kd.buffer 93 w0 ok xs :=
  fun w g c i cs H x hi hs hK => do70 (hb x (List.mem_of_getElem? hi)).1 (hb x (List.mem_of_getElem? hi)).2 hbox hs hK

set_option maxRecDepth 100000 in
theorem do73 {w0 w : World} {H : List Res} {ok : Nat → Prop} {xs : List TSema} {g c i bo : Nat} {cs : List Value} {x : TSema} (hb3 : x.L.length ≤ 100000000) (hbox : w0.cell? ⟨bo, 0, none⟩ = some (.func (.func 41) #[] #[])) (hs0 : St 0 w0 w (.row 0 95 4 (.slice (some ⟨g, 0, none⟩) xs.length c) xs.length cs :: H)) (hK : Kd.sema.K w0 ok x ((cs.drop (i * 4)).take 4)) :
    Calls Try.prog 73 #[.pointer (some ⟨g, 0 + i * 4, none⟩), .pointer (some ⟨bo, 0, none⟩)] w (fun e' w' => e' = .returned (.tuple #[]) ∧ ∃ (cx : List Value) (F : Nat → Prop), cx.length = 4 ∧ St 0 w0 w' (.row 0 95 4 (.slice (some ⟨g, 0, none⟩) xs.length c) xs.length (cs.take (i * 4) ++ cx ++ cs.drop (i * 4 + 4)) :: .ro F (fun w' => Kd.sema.K w' F x cx) :: H)) := by
  refine q_call (n := 12) (args := [.pointer (some ⟨g, 0 + i * 4, none⟩), .pointer (some ⟨bo, 0, none⟩)]) Try.func73 rfl rfl rfl ?_
  obtain ⟨A3, c3, hseg, hl3⟩ := hK
  refine s_any (by kernel_rfl) (fun w' => w'.cell? ⟨bo, 0, none⟩ = some (.func (.func 41) #[] #[])) (fun L' w' => Sub [] L' ∧ ∃ (cx : List Value) (F : Nat → Prop), cx.length = 4 ∧ St 0 w0 w' (.row 0 95 4 (.slice (some ⟨g, 0, none⟩) xs.length c) xs.length (cs.take (i * 4) ++ cx ++ cs.drop (i * 4 + 4)) :: .ro F (fun w' => Kd.sema.K w' F x cx) :: H)) ?_ ?_
  ·
    intro w1 hx1 hh1
    have hs1 := hs0.ext hx1
    refine wa_take 0 rfl (by kernel_rfl) (fun w' hw' => r_move rfl) (cell_on hbox hs1) rfl ?_
    refine wa_take 1 rfl (by kernel_rfl) (fun w' hw' => r_load1 rfl ag100 hw') (cell_on hbox hs1) rfl ?_
    refine wa_take 2 rfl (by kernel_rfl) (fun w' hw' => r_move rfl) (cell_on hbox hs1) rfl ?_
    refine wa_take 3 rfl (by kernel_rfl) (fun w' hw' => r_nilcheck rfl) (cell_on hbox hs1) rfl ?_
    refine wa_take 4 rfl (by kernel_rfl) (fun w' hw' => r_field rfl fo95_3) (cell_on hbox hs1) rfl ?_
    refine wa_one [5] (by kernel_rfl) rfl ?_
    intro i hi
    simp only [List.mem_cons, List.not_mem_nil, or_false] at hi
    subst hi
    refine ⟨_, rfl, ?_⟩
    refine l_r (r_load1R (v := .slice A3 x.L.length c3) rfl hs1 Repl.here ag89 (by rw [Nat.zero_add]; exact seg_get hseg (j := 3) rfl)) rfl ?_
    refine l_nil ⟨cell_on hbox hs1, ?_⟩
    refine wa_one [6] (by kernel_rfl) rfl ?_
    intro i hi
    simp only [List.mem_cons, List.not_mem_nil, or_false] at hi
    subst hi
    refine ⟨_, rfl, ?_⟩
    refine l_call rfl rfl fk41 rfl (clone41 w1 (hl3.on (by decide) hs1) (hb3)) ?_
    rintro _ w2 ⟨_, cn3, rfl, hR3, hc2⟩
    obtain ⟨D3, e3, rfl, _⟩ := row_slice (hc2.get (r := .row _ _ _ _ _ _) List.mem_cons_self)
    have hs2 := hs1.call1 hc2
    refine ⟨_, rfl, ?_⟩
    refine l_nil ⟨cell_on hbox hs2, ?_⟩
    refine wa_one [7] (by kernel_rfl) rfl ?_
    intro i hi
    simp only [List.mem_cons, List.not_mem_nil, or_false] at hi
    subst hi
    refine ⟨_, rfl, ?_⟩
    refine l_r (r_nilcheck rfl) rfl ?_
    refine l_nil ⟨cell_on hbox hs2, ?_⟩
    refine wa_one [8] (by kernel_rfl) rfl ?_
    intro i hi
    simp only [List.mem_cons, List.not_mem_nil, or_false] at hi
    subst hi
    refine ⟨_, rfl, ?_⟩
    refine l_r (r_field rfl fo95_3) rfl ?_
    refine l_nil ⟨cell_on hbox hs2, ?_⟩
    refine wa_one [9] (by kernel_rfl) rfl ?_
    intro i hi
    simp only [List.mem_cons, List.not_mem_nil, or_false] at hi
    subst hi
    refine ⟨_, rfl, ?_⟩
    refine l_storeR (vs := [_]) (cs' := cs.take (i * 4) ++ [.int .i64 x.Count, .int .i64 x.Most, .bool x.Ranked, .slice D3 x.L.length e3] ++ cs.drop (i * 4 + 4)) rfl rfl rfl sz89 (by intro u hu; rw [List.mem_singleton.1 hu]; rfl) (Nat.zero_le _) hs2 (Repl.there Repl.here) (by have := seg_len hseg rfl (by decide); simp only [List.length_singleton]; omega) (by rw [Nat.zero_add]; exact seg_put hseg rfl (by decide)) ?_
    intro w3 hz3 hk3 hs3
    refine l_nil ⟨cell_on hbox hs3, ?_⟩
    exact wa_done (by kernel_rfl) ⟨.nil, [.int .i64 x.Count, .int .i64 x.Most, .bool x.Ranked, .slice D3 x.L.length e3], _, rfl, (hs3.hide (fun w' => Kd.sema.K w' _ x [.int .i64 x.Count, .int .i64 x.Most, .bool x.Ranked, .slice D3 x.L.length e3]) (fun w' h => ⟨D3, e3, rfl, row_sl h hR3 (fun _ h => h)⟩)).swap⟩
  rintro _ w4 ⟨hsub, cx, F, hcx, hS⟩
  refine s_nil ?_
  exact q_done (.inl rfl) .nil ⟨rfl, cx, F, hcx, hS⟩

theorem do73_ok {w0 : World} {ok : Nat → Prop} {xs : List TSema} {bo : Nat} (hb : ∀ x ∈ xs, x.L.length ≤ 100000000) (hbox : w0.cell? ⟨bo, 0, none⟩ = some (.func (.func 41) #[] #[])) : DoOk Try.prog 73 [.pointer (some ⟨bo, 0, none⟩)] Kd.sema 95 w0 ok xs :=
  fun w g c i cs H x hi hs hK => do73 (hb x (List.mem_of_getElem? hi)) hbox hs hK

set_option maxRecDepth 100000 in
theorem do75 {w0 w : World} {H : List Res} {ok : Nat → Prop} {xs : List TEvent} {g c i bo : Nat} {cs : List Value} {x : TEvent} (hb1 : x.L.length ≤ 100000000) (hbox : w0.cell? ⟨bo, 0, none⟩ = some (.func (.func 41) #[] #[])) (hs0 : St 0 w0 w (.row 0 97 2 (.slice (some ⟨g, 0, none⟩) xs.length c) xs.length cs :: H)) (hK : Kd.event.K w0 ok x ((cs.drop (i * 2)).take 2)) :
    Calls Try.prog 75 #[.pointer (some ⟨g, 0 + i * 2, none⟩), .pointer (some ⟨bo, 0, none⟩)] w (fun e' w' => e' = .returned (.tuple #[]) ∧ ∃ (cx : List Value) (F : Nat → Prop), cx.length = 2 ∧ St 0 w0 w' (.row 0 97 2 (.slice (some ⟨g, 0, none⟩) xs.length c) xs.length (cs.take (i * 2) ++ cx ++ cs.drop (i * 2 + 2)) :: .ro F (fun w' => Kd.event.K w' F x cx) :: H)) := by
  refine q_call (n := 12) (args := [.pointer (some ⟨g, 0 + i * 2, none⟩), .pointer (some ⟨bo, 0, none⟩)]) Try.func75 rfl rfl rfl ?_
  obtain ⟨A1, c1, hseg, hl1⟩ := hK
  refine s_any (by kernel_rfl) (fun w' => w'.cell? ⟨bo, 0, none⟩ = some (.func (.func 41) #[] #[])) (fun L' w' => Sub [] L' ∧ ∃ (cx : List Value) (F : Nat → Prop), cx.length = 2 ∧ St 0 w0 w' (.row 0 97 2 (.slice (some ⟨g, 0, none⟩) xs.length c) xs.length (cs.take (i * 2) ++ cx ++ cs.drop (i * 2 + 2)) :: .ro F (fun w' => Kd.event.K w' F x cx) :: H)) ?_ ?_
  ·
    intro w1 hx1 hh1
    have hs1 := hs0.ext hx1
    refine wa_take 0 rfl (by kernel_rfl) (fun w' hw' => r_move rfl) (cell_on hbox hs1) rfl ?_
    refine wa_take 1 rfl (by kernel_rfl) (fun w' hw' => r_load1 rfl ag100 hw') (cell_on hbox hs1) rfl ?_
    refine wa_take 2 rfl (by kernel_rfl) (fun w' hw' => r_move rfl) (cell_on hbox hs1) rfl ?_
    refine wa_take 3 rfl (by kernel_rfl) (fun w' hw' => r_nilcheck rfl) (cell_on hbox hs1) rfl ?_
    refine wa_take 4 rfl (by kernel_rfl) (fun w' hw' => r_field rfl fo97_1) (cell_on hbox hs1) rfl ?_
    refine wa_one [5] (by kernel_rfl) rfl ?_
    intro i hi
    simp only [List.mem_cons, List.not_mem_nil, or_false] at hi
    subst hi
    refine ⟨_, rfl, ?_⟩
    refine l_r (r_load1R (v := .slice A1 x.L.length c1) rfl hs1 Repl.here ag89 (by rw [Nat.zero_add]; exact seg_get hseg (j := 1) rfl)) rfl ?_
    refine l_nil ⟨cell_on hbox hs1, ?_⟩
    refine wa_one [6] (by kernel_rfl) rfl ?_
    intro i hi
    simp only [List.mem_cons, List.not_mem_nil, or_false] at hi
    subst hi
    refine ⟨_, rfl, ?_⟩
    refine l_call rfl rfl fk41 rfl (clone41 w1 (hl1.on (by decide) hs1) (hb1)) ?_
    rintro _ w2 ⟨_, cn1, rfl, hR1, hc2⟩
    obtain ⟨D1, e1, rfl, _⟩ := row_slice (hc2.get (r := .row _ _ _ _ _ _) List.mem_cons_self)
    have hs2 := hs1.call1 hc2
    refine ⟨_, rfl, ?_⟩
    refine l_nil ⟨cell_on hbox hs2, ?_⟩
    refine wa_one [7] (by kernel_rfl) rfl ?_
    intro i hi
    simp only [List.mem_cons, List.not_mem_nil, or_false] at hi
    subst hi
    refine ⟨_, rfl, ?_⟩
    refine l_r (r_nilcheck rfl) rfl ?_
    refine l_nil ⟨cell_on hbox hs2, ?_⟩
    refine wa_one [8] (by kernel_rfl) rfl ?_
    intro i hi
    simp only [List.mem_cons, List.not_mem_nil, or_false] at hi
    subst hi
    refine ⟨_, rfl, ?_⟩
    refine l_r (r_field rfl fo97_1) rfl ?_
    refine l_nil ⟨cell_on hbox hs2, ?_⟩
    refine wa_one [9] (by kernel_rfl) rfl ?_
    intro i hi
    simp only [List.mem_cons, List.not_mem_nil, or_false] at hi
    subst hi
    refine ⟨_, rfl, ?_⟩
    refine l_storeR (vs := [_]) (cs' := cs.take (i * 2) ++ [.bool x.Up, .slice D1 x.L.length e1] ++ cs.drop (i * 2 + 2)) rfl rfl rfl sz89 (by intro u hu; rw [List.mem_singleton.1 hu]; rfl) (Nat.zero_le _) hs2 (Repl.there Repl.here) (by have := seg_len hseg rfl (by decide); simp only [List.length_singleton]; omega) (by rw [Nat.zero_add]; exact seg_put hseg rfl (by decide)) ?_
    intro w3 hz3 hk3 hs3
    refine l_nil ⟨cell_on hbox hs3, ?_⟩
    exact wa_done (by kernel_rfl) ⟨.nil, [.bool x.Up, .slice D1 x.L.length e1], _, rfl, (hs3.hide (fun w' => Kd.event.K w' _ x [.bool x.Up, .slice D1 x.L.length e1]) (fun w' h => ⟨D1, e1, rfl, row_sl h hR1 (fun _ h => h)⟩)).swap⟩
  rintro _ w4 ⟨hsub, cx, F, hcx, hS⟩
  refine s_nil ?_
  exact q_done (.inl rfl) .nil ⟨rfl, cx, F, hcx, hS⟩

theorem do75_ok {w0 : World} {ok : Nat → Prop} {xs : List TEvent} {bo : Nat} (hb : ∀ x ∈ xs, x.L.length ≤ 100000000) (hbox : w0.cell? ⟨bo, 0, none⟩ = some (.func (.func 41) #[] #[])) : DoOk Try.prog 75 [.pointer (some ⟨bo, 0, none⟩)] Kd.event 97 w0 ok xs :=
  fun w g c i cs H x hi hs hK => do75 (hb x (List.mem_of_getElem? hi)) hbox hs hK

set_option maxRecDepth 100000 in
theorem do77 {w0 w : World} {H : List Res} {ok : Nat → Prop} {xs : List TQueue} {g c i : Nat} {cs : List Value} {x : TQueue} (hb1 : x.Values.length ≤ 100000000) (hs0 : St 0 w0 w (.row 0 52 3 (.slice (some ⟨g, 0, none⟩) xs.length c) xs.length cs :: H)) (hK : Kd.queue.K w0 ok x ((cs.drop (i * 3)).take 3)) :
    Calls Try.prog 77 #[.pointer (some ⟨g, 0 + i * 3, none⟩)] w (fun e' w' => e' = .returned (.tuple #[]) ∧ ∃ (cx : List Value) (F : Nat → Prop), cx.length = 3 ∧ St 0 w0 w' (.row 0 52 3 (.slice (some ⟨g, 0, none⟩) xs.length c) xs.length (cs.take (i * 3) ++ cx ++ cs.drop (i * 3 + 3)) :: .ro F (fun w' => Kd.queue.K w' F x cx) :: H)) := by
  refine q_call (n := 10) (args := [.pointer (some ⟨g, 0 + i * 3, none⟩)]) Try.func77 rfl rfl rfl ?_
  obtain ⟨A1, c1, hseg, hl1⟩ := hK
  refine s_region ?_
  refine l_r (r_move rfl) rfl ?_
  refine l_r (r_move rfl) rfl ?_
  refine l_r (r_nilcheck rfl) rfl ?_
  refine l_r (r_field rfl fo52_1) rfl ?_
  refine l_r (r_load1R (v := .slice A1 x.Values.length c1) rfl hs0 Repl.here ag22 (by rw [Nat.zero_add]; exact seg_get hseg (j := 1) rfl)) rfl ?_
  refine l_call rfl rfl fk71 rfl (clone71 w (hl1.on (by decide) hs0) (hb1)) ?_
  rintro _ w1 ⟨_, cn1, rfl, hR1, hc1⟩
  obtain ⟨D1, e1, rfl, _⟩ := row_slice (hc1.get (r := .row _ _ _ _ _ _) List.mem_cons_self)
  have hs1 := hs0.call1 hc1
  refine ⟨_, rfl, ?_⟩
  refine l_r (r_nilcheck rfl) rfl ?_
  refine l_r (r_field rfl fo52_1) rfl ?_
  refine l_storeR (vs := [_]) (cs' := cs.take (i * 3) ++ [.int .i64 x.Depth, .slice D1 x.Values.length e1, .int .i64 x.Lost] ++ cs.drop (i * 3 + 3)) rfl rfl rfl sz22 (by intro u hu; rw [List.mem_singleton.1 hu]; rfl) (Nat.zero_le _) hs1 (Repl.there Repl.here) (by have := seg_len hseg rfl (by decide); simp only [List.length_singleton]; omega) (by rw [Nat.zero_add]; exact seg_put hseg rfl (by decide)) ?_
  intro w2 hz2 hk2 hs2
  refine l_nil ?_
  refine s_nil ?_
  exact q_done (.inl rfl) .nil ⟨rfl, [.int .i64 x.Depth, .slice D1 x.Values.length e1, .int .i64 x.Lost], _, rfl, (hs2.hide (fun w' => Kd.queue.K w' _ x [.int .i64 x.Depth, .slice D1 x.Values.length e1, .int .i64 x.Lost]) (fun w' h => ⟨D1, e1, rfl, row_sl h hR1 (fun _ h => h)⟩)).swap⟩

theorem do77_ok {w0 : World} {ok : Nat → Prop} {xs : List TQueue} (hb : ∀ x ∈ xs, x.Values.length ≤ 100000000) : DoOk Try.prog 77 [] Kd.queue 52 w0 ok xs :=
  fun w g c i cs H x hi hs hK => do77 (hb x (List.mem_of_getElem? hi)) hs hK

end Go.Proofs.Ytfhghnhgcdiknaa
