/- The ports at both ends of a channel. -/
import Derived.Test.YtfhghnhgcdiknaaWk
set_option linter.unusedVariables false
namespace Go.Proofs.Ytfhghnhgcdiknaa
open Go.RowKit
theorem samp_at {w0 w : World} {xs : List OP} {x : OP} {R : List Res} {vA : Value} {F : Nat → Prop} {i a gx cx : Nat} (hs : St 0 w0 w (R ++ OPs xs vA F)) (hx : xs[i]? = some x) (hv : x.vS = .slice (some ⟨gx, 0, none⟩) x.p.Samples.length cx) (ha : a < x.p.Samples.length) : Cells w gx (0 + a * 3) (sampCells x.p.Samples[a]) := by
  have h : w.ownsRow 0 56 3 x.vS x.p.Samples.length x.csS := hs.get (mem_S hx R vA F)
  rw [hv] at h
  exact elem_cells h ((ops_ok hs x (List.mem_of_getElem? hx)).2.2 a _ (List.getElem?_eq_getElem ha))
theorem queue_at {w0 w : World} {xs : List OP} {x : OP} {R : List Res} {vA : Value} {F : Nat → Prop} {i a gx cx : Nat} (hs : St 0 w0 w (R ++ OPs xs vA F)) (hx : xs[i]? = some x) (hv : x.vQ = .slice (some ⟨gx, 0, none⟩) x.p.Queues.length cx) (ha : a < x.p.Queues.length) :
    ∃ pa, Cells w gx (0 + a * 3) pa ∧ Kd.queue.K w F x.p.Queues[a] pa ∧ ∃ cur t, w.heap[gx]? = some (.cells cur t (0, 0)) := by
  have h : w.ownsRow 0 52 3 x.vQ x.p.Queues.length x.csQ := hs.get (mem_Q hx R vA F)
  rw [hv] at h
  obtain ⟨⟨A3, c3, A4, c4, A5, c5, A6, c6, A7, c7, A8, c8, A12, c12, A14, c14, _, h3, h4, h5, h6, h7, h8, h12, h14, hR⟩, hS⟩ := ops_ok hs x (List.mem_of_getElem? hx)
  refine ⟨_, elem_cells h rfl, hR.2 a _ (List.getElem?_eq_getElem ha), ?_⟩
  rcases h.2 with ⟨h0, _⟩ | ⟨g', cap, cur, hv', _, hg, _⟩
  · simp at h0
  · simp only [Value.slice.injEq, Option.some.injEq, Addr.mk.injEq, and_true, true_and] at hv'
    obtain ⟨rfl, rfl⟩ := hv'
    exact ⟨cur, _, hg⟩

set_option maxRecDepth 100000 in
theorem samples_in_in {w0 w : World} {xs : List OP} {x y : OP} {g c i j : Nat} {F : Nat → Prop} {q : Bool} {fr a to b : Int} (hs0 : St 0 w0 w (OPs xs (.slice (some ⟨g, 0, none⟩) xs.length c) F)) (hx : xs[i]? = some x) (hy : xs[j]? = some y) (ha0 : 0 ≤ a) (ha1 : a < (x.p.Samples.length : Int)) (hb0 : 0 ≤ b) (hb1 : b < (y.p.Samples.length : Int)) :
    Calls Try.prog 23 #[.pointer (some ⟨g, 0 + i * 15, none⟩), .pointer (some ⟨g, 0 + j * 15, none⟩), .agg ([.bool q, .int .i64 fr, .int .i64 a, .int .i64 to, .int .i64 b] : List Value).toArray] w (fun e w' => e = .returned (.tuple #[]) ∧ St 0 w0 w' (OPs (xs.set j (y.putS b.toNat (carryL (x.p.Samples[a.toNat]'(by omega)) (y.p.Samples[b.toNat]'(by omega))) (sampCells (carryL (x.p.Samples[a.toNat]'(by omega)) (y.p.Samples[b.toNat]'(by omega)))))) (.slice (some ⟨g, 0, none⟩) xs.length c) F)) := by
  refine q_call (n := 37) (args := [.pointer (some ⟨g, 0 + i * 15, none⟩), .pointer (some ⟨g, 0 + j * 15, none⟩), .agg ([.bool q, .int .i64 fr, .int .i64 a, .int .i64 to, .int .i64 b] : List Value).toArray]) Try.func23 rfl rfl rfl ?_
  have hok0 := ops_ok (R := []) hs0
  have hcl : ∀ x, x ∈ xs → x.cs.length = 15 := fun x hx => OP.ok_len (hok0 x hx)
  obtain ⟨gx, cx, hvx, _⟩ := row_some (hs0.get (mem_S hx [] _ F) : w.ownsRow 0 56 3 x.vS x.p.Samples.length x.csS) (by omega)
  obtain ⟨gy, cy, hvy, _⟩ := row_some (hs0.get (mem_S hy [] _ F) : w.ownsRow 0 56 3 y.vS y.p.Samples.length y.csS) (by omega)
  have han : a.toNat < x.p.Samples.length := by omega
  have hbn : b.toNat < y.p.Samples.length := by omega
  refine s_seq ?_
  refine s_region ?_
  refine l_box rfl rfl rfl hs0 ?_
  intro w1 b5 hb5 hx1 hs1
  refine l_nil ?_
  refine s_seq ?_
  refine s_quiet (by kernel_rfl) (by kernel_rfl) ?_
  refine qq_r (fun w' hw' => r_move rfl) rfl ?_
  refine qq_r (fun w' hw' => r_nilcheck rfl) rfl ?_
  refine qq_r (fun w' hw' => r_field rfl fo48_9) rfl ?_
  refine qq_r (fun w' hw' => r_load1R (v := .slice (some ⟨gx, 0, none⟩) x.p.Samples.length cx) rfl (hs1.ext hw') (Repl.there Repl.here) ag43 (by rw [Nat.zero_add]; exact ((flat_get hcl hx (by decide)).trans (OP.ok_S (hok0 x (List.mem_of_getElem? hx)))).trans (congrArg some hvx))) rfl ?_
  refine qq_r (fun w' hw' => r_field rfl fo32_2) rfl ?_
  refine qq_r (fun w' hw' => r_load1p rfl (hs1.ext hw') Repl.here ag3 rfl) rfl ?_
  refine qq_call rfl rfl fk44 (fun w' _ => (at44_in (b := gx) (o := 0) (c := cx) a w' ha0 ha1).mono (fun e w1 ⟨he, hw⟩ => ⟨he, hw ▸ Ext.refl _⟩)) rfl ?_
  refine qq_r (fun w' hw' => r_move rfl) rfl ?_
  refine qq_r (fun w' hw' => r_nilcheck rfl) rfl ?_
  refine qq_r (fun w' hw' => r_field rfl fo48_9) rfl ?_
  refine qq_r (fun w' hw' => r_load1R (v := .slice (some ⟨gy, 0, none⟩) y.p.Samples.length cy) rfl (hs1.ext hw') (Repl.there Repl.here) ag43 (by rw [Nat.zero_add]; exact ((flat_get hcl hy (by decide)).trans (OP.ok_S (hok0 y (List.mem_of_getElem? hy)))).trans (congrArg some hvy))) rfl ?_
  refine qq_r (fun w' hw' => r_field rfl fo32_4) rfl ?_
  refine qq_r (fun w' hw' => r_load1p rfl (hs1.ext hw') Repl.here ag3 rfl) rfl ?_
  refine qq_call rfl rfl fk44 (fun w' _ => (at44_in (b := gy) (o := 0) (c := cy) b w' hb0 hb1).mono (fun e w1 ⟨he, hw⟩ => ⟨he, hw ▸ Ext.refl _⟩)) rfl ?_
  refine qq_r (fun w' hw' => r_assign rfl) rfl ?_
  refine qq_r (fun w' hw' => r_assign rfl) rfl ?_
  refine qq_nil ?_
  intro w2 hx2
  have hs2 := hs1.ext hx2
  refine s_seq ?_
  refine s_region ?_
  refine l_r (r_move rfl) rfl ?_
  refine l_r (r_nepnil rfl rfl Try.underlying106) rfl ?_
  refine l_r (r_move rfl) rfl ?_
  refine l_on (dj := 24) rfl rfl rfl ?_
  refine l_r (r_move rfl) rfl ?_
  refine l_on (dj := 24) rfl rfl rfl ?_
  refine l_r (r_nepnil rfl rfl Try.underlying106) rfl ?_
  refine l_r (r_pick_t rfl rfl) rfl ?_
  refine l_nil ?_
  refine s_then rfl ?_
  refine s_any (by kernel_rfl) (fun _ => True) (fun L' w' => Sub [] L' ∧ St 0 w0 w' (OPs (xs.set j (y.putS b.toNat (carryL (x.p.Samples[a.toNat]'(by omega)) (y.p.Samples[b.toNat]'(by omega))) (sampCells (carryL (x.p.Samples[a.toNat]'(by omega)) (y.p.Samples[b.toNat]'(by omega)))))) (.slice (some ⟨g, 0, none⟩) xs.length c) F)) ?_ ?_
  ·
    intro w3 hx3 hh3
    have hs3 := hs2.ext hx3
    refine wa_take 0 rfl (by kernel_rfl) (fun w' hw' => r_move rfl) (trivial) rfl ?_
    refine wa_take 1 rfl (by kernel_rfl) (fun w' hw' => r_move rfl) (trivial) rfl ?_
    refine wa_take 2 rfl (by kernel_rfl) (fun w' hw' => r_nilcheck rfl) (trivial) rfl ?_
    refine wa_take 4 rfl (by kernel_rfl) (fun w' hw' => r_move rfl) (trivial) rfl ?_
    refine wa_take 5 rfl (by kernel_rfl) (fun w' hw' => r_nilcheck rfl) (trivial) rfl ?_
    refine wa_one [3, 6] (by kernel_rfl) rfl ?_
    intro i hi
    simp only [List.mem_cons, List.not_mem_nil, or_false] at hi
    rcases hi with rfl | rfl
    ·
      refine ⟨_, rfl, ?_⟩
      refine l_r (r_loadN rfl ag56 (samp_at (R := [_]) hs3 hx hvx han) sz56) rfl ?_
      refine l_nil ⟨trivial, ?_⟩
      refine wa_one [6] (by kernel_rfl) rfl ?_
      intro i hi
      simp only [List.mem_cons, List.not_mem_nil, or_false] at hi
      subst hi
      refine ⟨_, rfl, ?_⟩
      refine l_r (r_loadN rfl ag56 (samp_at (R := [_]) hs3 hy hvy hbn) sz56) rfl ?_
      refine l_nil ⟨trivial, ?_⟩
      refine wa_one [7] (by kernel_rfl) rfl ?_
      intro i hi
      simp only [List.mem_cons, List.not_mem_nil, or_false] at hi
      subst hi
      refine ⟨_, rfl, ?_⟩
      refine l_call rfl rfl fk45 rfl (carry45 x.p.Samples[a.toNat] y.p.Samples[b.toNat] w3) ?_
      rintro _ w4 ⟨rfl, hc4⟩
      have hs4 := hs3.call0 hc4
      refine ⟨_, rfl, ?_⟩
      refine l_nil ⟨trivial, ?_⟩
      refine wa_take 8 rfl (by kernel_rfl) (fun w' hw' => r_nilcheck rfl) (trivial) rfl ?_
      refine wa_one [9] (by kernel_rfl) rfl ?_
      intro i hi
      simp only [List.mem_cons, List.not_mem_nil, or_false] at hi
      subst hi
      refine ⟨_, rfl, ?_⟩
      refine l_putS (R := [_]) (s := carryL x.p.Samples[a.toNat] y.p.Samples[b.toNat]) rfl rfl hs4 hy hvy hbn ?_
      intro w5 hs5
      refine l_nil ⟨trivial, ?_⟩
      exact wa_done (by kernel_rfl) ⟨.nil, hs5.tail⟩
    ·
      refine ⟨_, rfl, ?_⟩
      refine l_r (r_loadN rfl ag56 (samp_at (R := [_]) hs3 hy hvy hbn) sz56) rfl ?_
      refine l_nil ⟨trivial, ?_⟩
      refine wa_one [3] (by kernel_rfl) rfl ?_
      intro i hi
      simp only [List.mem_cons, List.not_mem_nil, or_false] at hi
      subst hi
      refine ⟨_, rfl, ?_⟩
      refine l_r (r_loadN rfl ag56 (samp_at (R := [_]) hs3 hx hvx han) sz56) rfl ?_
      refine l_nil ⟨trivial, ?_⟩
      refine wa_one [7] (by kernel_rfl) rfl ?_
      intro i hi
      simp only [List.mem_cons, List.not_mem_nil, or_false] at hi
      subst hi
      refine ⟨_, rfl, ?_⟩
      refine l_call rfl rfl fk45 rfl (carry45 x.p.Samples[a.toNat] y.p.Samples[b.toNat] w3) ?_
      rintro _ w6 ⟨rfl, hc6⟩
      have hs6 := hs3.call0 hc6
      refine ⟨_, rfl, ?_⟩
      refine l_nil ⟨trivial, ?_⟩
      refine wa_take 8 rfl (by kernel_rfl) (fun w' hw' => r_nilcheck rfl) (trivial) rfl ?_
      refine wa_one [9] (by kernel_rfl) rfl ?_
      intro i hi
      simp only [List.mem_cons, List.not_mem_nil, or_false] at hi
      subst hi
      refine ⟨_, rfl, ?_⟩
      refine l_putS (R := [_]) (s := carryL x.p.Samples[a.toNat] y.p.Samples[b.toNat]) rfl rfl hs6 hy hvy hbn ?_
      intro w7 hs7
      refine l_nil ⟨trivial, ?_⟩
      exact wa_done (by kernel_rfl) ⟨.nil, hs7.tail⟩
  rintro _ w8 ⟨hsub, hS⟩
  refine s_nil ?_
  exact q_done (.inl rfl) .nil ⟨rfl, hS⟩

set_option maxRecDepth 100000 in
theorem samples_in_out {w0 w : World} {xs : List OP} {x y : OP} {g c i j : Nat} {F : Nat → Prop} {q : Bool} {fr a to b : Int} (hs0 : St 0 w0 w (OPs xs (.slice (some ⟨g, 0, none⟩) xs.length c) F)) (hx : xs[i]? = some x) (hy : xs[j]? = some y) (ha0 : 0 ≤ a) (ha1 : a < (x.p.Samples.length : Int)) (hbo : ¬ (0 ≤ b ∧ b < (y.p.Samples.length : Int))) :
    Calls Try.prog 23 #[.pointer (some ⟨g, 0 + i * 15, none⟩), .pointer (some ⟨g, 0 + j * 15, none⟩), .agg ([.bool q, .int .i64 fr, .int .i64 a, .int .i64 to, .int .i64 b] : List Value).toArray] w (fun e w' => e = .returned (.tuple #[]) ∧ St 0 w0 w' (OPs xs (.slice (some ⟨g, 0, none⟩) xs.length c) F)) := by
  refine q_call (n := 37) (args := [.pointer (some ⟨g, 0 + i * 15, none⟩), .pointer (some ⟨g, 0 + j * 15, none⟩), .agg ([.bool q, .int .i64 fr, .int .i64 a, .int .i64 to, .int .i64 b] : List Value).toArray]) Try.func23 rfl rfl rfl ?_
  have hok0 := ops_ok (R := []) hs0
  have hcl : ∀ x, x ∈ xs → x.cs.length = 15 := fun x hx => OP.ok_len (hok0 x hx)
  obtain ⟨gx, cx, hvx, _⟩ := row_some (hs0.get (mem_S hx [] _ F) : w.ownsRow 0 56 3 x.vS x.p.Samples.length x.csS) (by omega)
  obtain ⟨Ay, cy, hvy, _⟩ := row_slice (hs0.get (mem_S hy [] _ F) : w.ownsRow 0 56 3 y.vS y.p.Samples.length y.csS)
  refine s_seq ?_
  refine s_region ?_
  refine l_box rfl rfl rfl hs0 ?_
  intro w1 b5 hb5 hx1 hs1
  refine l_nil ?_
  refine s_seq ?_
  refine s_quiet (by kernel_rfl) (by kernel_rfl) ?_
  refine qq_r (fun w' hw' => r_move rfl) rfl ?_
  refine qq_r (fun w' hw' => r_nilcheck rfl) rfl ?_
  refine qq_r (fun w' hw' => r_field rfl fo48_9) rfl ?_
  refine qq_r (fun w' hw' => r_load1R (v := .slice (some ⟨gx, 0, none⟩) x.p.Samples.length cx) rfl (hs1.ext hw') (Repl.there Repl.here) ag43 (by rw [Nat.zero_add]; exact ((flat_get hcl hx (by decide)).trans (OP.ok_S (hok0 x (List.mem_of_getElem? hx)))).trans (congrArg some hvx))) rfl ?_
  refine qq_r (fun w' hw' => r_field rfl fo32_2) rfl ?_
  refine qq_r (fun w' hw' => r_load1p rfl (hs1.ext hw') Repl.here ag3 rfl) rfl ?_
  refine qq_call rfl rfl fk44 (fun w' _ => (at44_in (b := gx) (o := 0) (c := cx) a w' ha0 ha1).mono (fun e w1 ⟨he, hw⟩ => ⟨he, hw ▸ Ext.refl _⟩)) rfl ?_
  refine qq_r (fun w' hw' => r_move rfl) rfl ?_
  refine qq_r (fun w' hw' => r_nilcheck rfl) rfl ?_
  refine qq_r (fun w' hw' => r_field rfl fo48_9) rfl ?_
  refine qq_r (fun w' hw' => r_load1R (v := .slice Ay y.p.Samples.length cy) rfl (hs1.ext hw') (Repl.there Repl.here) ag43 (by rw [Nat.zero_add]; exact ((flat_get hcl hy (by decide)).trans (OP.ok_S (hok0 y (List.mem_of_getElem? hy)))).trans (congrArg some hvy))) rfl ?_
  refine qq_r (fun w' hw' => r_field rfl fo32_4) rfl ?_
  refine qq_r (fun w' hw' => r_load1p rfl (hs1.ext hw') Repl.here ag3 rfl) rfl ?_
  refine qq_call rfl rfl fk44 (fun w' _ => (at44_out (A := Ay) (c := cy) b w' hbo).mono (fun e w1 ⟨he, hw⟩ => ⟨he, hw ▸ Ext.refl _⟩)) rfl ?_
  refine qq_r (fun w' hw' => r_assign rfl) rfl ?_
  refine qq_r (fun w' hw' => r_assign rfl) rfl ?_
  refine qq_nil ?_
  intro w2 hx2
  have hs2 := hs1.ext hx2
  refine s_seq ?_
  refine s_region ?_
  refine l_r (r_move rfl) rfl ?_
  refine l_r (r_nepnil rfl rfl Try.underlying106) rfl ?_
  refine l_r (r_move rfl) rfl ?_
  refine l_on (dj := 24) rfl rfl rfl ?_
  refine l_r (r_move rfl) rfl ?_
  refine l_on (dj := 24) rfl rfl rfl ?_
  refine l_r (r_nepnil rfl rfl Try.underlying106) rfl ?_
  refine l_r (r_pick_t rfl rfl) rfl ?_
  refine l_nil ?_
  refine s_else rfl ?_
  refine s_skip ?_
  refine s_nil ?_
  exact q_done (.inl rfl) .nil ⟨rfl, hs2.tail⟩

set_option maxRecDepth 100000 in
theorem samples_out_in {w0 w : World} {xs : List OP} {x y : OP} {g c i j : Nat} {F : Nat → Prop} {q : Bool} {fr a to b : Int} (hs0 : St 0 w0 w (OPs xs (.slice (some ⟨g, 0, none⟩) xs.length c) F)) (hx : xs[i]? = some x) (hy : xs[j]? = some y) (hao : ¬ (0 ≤ a ∧ a < (x.p.Samples.length : Int))) (hb0 : 0 ≤ b) (hb1 : b < (y.p.Samples.length : Int)) :
    Calls Try.prog 23 #[.pointer (some ⟨g, 0 + i * 15, none⟩), .pointer (some ⟨g, 0 + j * 15, none⟩), .agg ([.bool q, .int .i64 fr, .int .i64 a, .int .i64 to, .int .i64 b] : List Value).toArray] w (fun e w' => e = .returned (.tuple #[]) ∧ St 0 w0 w' (OPs xs (.slice (some ⟨g, 0, none⟩) xs.length c) F)) := by
  refine q_call (n := 37) (args := [.pointer (some ⟨g, 0 + i * 15, none⟩), .pointer (some ⟨g, 0 + j * 15, none⟩), .agg ([.bool q, .int .i64 fr, .int .i64 a, .int .i64 to, .int .i64 b] : List Value).toArray]) Try.func23 rfl rfl rfl ?_
  have hok0 := ops_ok (R := []) hs0
  have hcl : ∀ x, x ∈ xs → x.cs.length = 15 := fun x hx => OP.ok_len (hok0 x hx)
  obtain ⟨Ax, cx, hvx, _⟩ := row_slice (hs0.get (mem_S hx [] _ F) : w.ownsRow 0 56 3 x.vS x.p.Samples.length x.csS)
  obtain ⟨gy, cy, hvy, _⟩ := row_some (hs0.get (mem_S hy [] _ F) : w.ownsRow 0 56 3 y.vS y.p.Samples.length y.csS) (by omega)
  refine s_seq ?_
  refine s_region ?_
  refine l_box rfl rfl rfl hs0 ?_
  intro w1 b5 hb5 hx1 hs1
  refine l_nil ?_
  refine s_seq ?_
  refine s_quiet (by kernel_rfl) (by kernel_rfl) ?_
  refine qq_r (fun w' hw' => r_move rfl) rfl ?_
  refine qq_r (fun w' hw' => r_nilcheck rfl) rfl ?_
  refine qq_r (fun w' hw' => r_field rfl fo48_9) rfl ?_
  refine qq_r (fun w' hw' => r_load1R (v := .slice Ax x.p.Samples.length cx) rfl (hs1.ext hw') (Repl.there Repl.here) ag43 (by rw [Nat.zero_add]; exact ((flat_get hcl hx (by decide)).trans (OP.ok_S (hok0 x (List.mem_of_getElem? hx)))).trans (congrArg some hvx))) rfl ?_
  refine qq_r (fun w' hw' => r_field rfl fo32_2) rfl ?_
  refine qq_r (fun w' hw' => r_load1p rfl (hs1.ext hw') Repl.here ag3 rfl) rfl ?_
  refine qq_call rfl rfl fk44 (fun w' _ => (at44_out (A := Ax) (c := cx) a w' hao).mono (fun e w1 ⟨he, hw⟩ => ⟨he, hw ▸ Ext.refl _⟩)) rfl ?_
  refine qq_r (fun w' hw' => r_move rfl) rfl ?_
  refine qq_r (fun w' hw' => r_nilcheck rfl) rfl ?_
  refine qq_r (fun w' hw' => r_field rfl fo48_9) rfl ?_
  refine qq_r (fun w' hw' => r_load1R (v := .slice (some ⟨gy, 0, none⟩) y.p.Samples.length cy) rfl (hs1.ext hw') (Repl.there Repl.here) ag43 (by rw [Nat.zero_add]; exact ((flat_get hcl hy (by decide)).trans (OP.ok_S (hok0 y (List.mem_of_getElem? hy)))).trans (congrArg some hvy))) rfl ?_
  refine qq_r (fun w' hw' => r_field rfl fo32_4) rfl ?_
  refine qq_r (fun w' hw' => r_load1p rfl (hs1.ext hw') Repl.here ag3 rfl) rfl ?_
  refine qq_call rfl rfl fk44 (fun w' _ => (at44_in (b := gy) (o := 0) (c := cy) b w' hb0 hb1).mono (fun e w1 ⟨he, hw⟩ => ⟨he, hw ▸ Ext.refl _⟩)) rfl ?_
  refine qq_r (fun w' hw' => r_assign rfl) rfl ?_
  refine qq_r (fun w' hw' => r_assign rfl) rfl ?_
  refine qq_nil ?_
  intro w2 hx2
  have hs2 := hs1.ext hx2
  refine s_seq ?_
  refine s_region ?_
  refine l_r (r_move rfl) rfl ?_
  refine l_r (r_nepnil rfl rfl Try.underlying106) rfl ?_
  refine l_r (r_move rfl) rfl ?_
  refine l_off (dj := 24) (b := false) rfl rfl rfl rfl rfl ?_
  refine l_off (dj := 24) (b := false) rfl rfl rfl rfl rfl ?_
  refine l_r (r_pick_f rfl rfl) rfl ?_
  refine l_nil ?_
  refine s_else rfl ?_
  refine s_skip ?_
  refine s_nil ?_
  exact q_done (.inl rfl) .nil ⟨rfl, hs2.tail⟩

set_option maxRecDepth 100000 in
theorem samples_out_out {w0 w : World} {xs : List OP} {x y : OP} {g c i j : Nat} {F : Nat → Prop} {q : Bool} {fr a to b : Int} (hs0 : St 0 w0 w (OPs xs (.slice (some ⟨g, 0, none⟩) xs.length c) F)) (hx : xs[i]? = some x) (hy : xs[j]? = some y) (hao : ¬ (0 ≤ a ∧ a < (x.p.Samples.length : Int))) (hbo : ¬ (0 ≤ b ∧ b < (y.p.Samples.length : Int))) :
    Calls Try.prog 23 #[.pointer (some ⟨g, 0 + i * 15, none⟩), .pointer (some ⟨g, 0 + j * 15, none⟩), .agg ([.bool q, .int .i64 fr, .int .i64 a, .int .i64 to, .int .i64 b] : List Value).toArray] w (fun e w' => e = .returned (.tuple #[]) ∧ St 0 w0 w' (OPs xs (.slice (some ⟨g, 0, none⟩) xs.length c) F)) := by
  refine q_call (n := 37) (args := [.pointer (some ⟨g, 0 + i * 15, none⟩), .pointer (some ⟨g, 0 + j * 15, none⟩), .agg ([.bool q, .int .i64 fr, .int .i64 a, .int .i64 to, .int .i64 b] : List Value).toArray]) Try.func23 rfl rfl rfl ?_
  have hok0 := ops_ok (R := []) hs0
  have hcl : ∀ x, x ∈ xs → x.cs.length = 15 := fun x hx => OP.ok_len (hok0 x hx)
  obtain ⟨Ax, cx, hvx, _⟩ := row_slice (hs0.get (mem_S hx [] _ F) : w.ownsRow 0 56 3 x.vS x.p.Samples.length x.csS)
  obtain ⟨Ay, cy, hvy, _⟩ := row_slice (hs0.get (mem_S hy [] _ F) : w.ownsRow 0 56 3 y.vS y.p.Samples.length y.csS)
  refine s_seq ?_
  refine s_region ?_
  refine l_box rfl rfl rfl hs0 ?_
  intro w1 b5 hb5 hx1 hs1
  refine l_nil ?_
  refine s_seq ?_
  refine s_quiet (by kernel_rfl) (by kernel_rfl) ?_
  refine qq_r (fun w' hw' => r_move rfl) rfl ?_
  refine qq_r (fun w' hw' => r_nilcheck rfl) rfl ?_
  refine qq_r (fun w' hw' => r_field rfl fo48_9) rfl ?_
  refine qq_r (fun w' hw' => r_load1R (v := .slice Ax x.p.Samples.length cx) rfl (hs1.ext hw') (Repl.there Repl.here) ag43 (by rw [Nat.zero_add]; exact ((flat_get hcl hx (by decide)).trans (OP.ok_S (hok0 x (List.mem_of_getElem? hx)))).trans (congrArg some hvx))) rfl ?_
  refine qq_r (fun w' hw' => r_field rfl fo32_2) rfl ?_
  refine qq_r (fun w' hw' => r_load1p rfl (hs1.ext hw') Repl.here ag3 rfl) rfl ?_
  refine qq_call rfl rfl fk44 (fun w' _ => (at44_out (A := Ax) (c := cx) a w' hao).mono (fun e w1 ⟨he, hw⟩ => ⟨he, hw ▸ Ext.refl _⟩)) rfl ?_
  refine qq_r (fun w' hw' => r_move rfl) rfl ?_
  refine qq_r (fun w' hw' => r_nilcheck rfl) rfl ?_
  refine qq_r (fun w' hw' => r_field rfl fo48_9) rfl ?_
  refine qq_r (fun w' hw' => r_load1R (v := .slice Ay y.p.Samples.length cy) rfl (hs1.ext hw') (Repl.there Repl.here) ag43 (by rw [Nat.zero_add]; exact ((flat_get hcl hy (by decide)).trans (OP.ok_S (hok0 y (List.mem_of_getElem? hy)))).trans (congrArg some hvy))) rfl ?_
  refine qq_r (fun w' hw' => r_field rfl fo32_4) rfl ?_
  refine qq_r (fun w' hw' => r_load1p rfl (hs1.ext hw') Repl.here ag3 rfl) rfl ?_
  refine qq_call rfl rfl fk44 (fun w' _ => (at44_out (A := Ay) (c := cy) b w' hbo).mono (fun e w1 ⟨he, hw⟩ => ⟨he, hw ▸ Ext.refl _⟩)) rfl ?_
  refine qq_r (fun w' hw' => r_assign rfl) rfl ?_
  refine qq_r (fun w' hw' => r_assign rfl) rfl ?_
  refine qq_nil ?_
  intro w2 hx2
  have hs2 := hs1.ext hx2
  refine s_seq ?_
  refine s_region ?_
  refine l_r (r_move rfl) rfl ?_
  refine l_r (r_nepnil rfl rfl Try.underlying106) rfl ?_
  refine l_r (r_move rfl) rfl ?_
  refine l_off (dj := 24) (b := false) rfl rfl rfl rfl rfl ?_
  refine l_off (dj := 24) (b := false) rfl rfl rfl rfl rfl ?_
  refine l_r (r_pick_f rfl rfl) rfl ?_
  refine l_nil ?_
  refine s_else rfl ?_
  refine s_skip ?_
  refine s_nil ?_
  exact q_done (.inl rfl) .nil ⟨rfl, hs2.tail⟩

set_option maxRecDepth 100000 in
theorem queues_in_out {w0 w : World} {xs : List OP} {x y : OP} {g c i j : Nat} {F : Nat → Prop} {q : Bool} {fr a to b : Int} (hs0 : St 0 w0 w (OPs xs (.slice (some ⟨g, 0, none⟩) xs.length c) F)) (hx : xs[i]? = some x) (hy : xs[j]? = some y) (ha0 : 0 ≤ a) (ha1 : a < (x.p.Queues.length : Int)) (hbo : ¬ (0 ≤ b ∧ b < (y.p.Queues.length : Int))) :
    Calls Try.prog 22 #[.pointer (some ⟨g, 0 + i * 15, none⟩), .pointer (some ⟨g, 0 + j * 15, none⟩), .agg ([.bool q, .int .i64 fr, .int .i64 a, .int .i64 to, .int .i64 b] : List Value).toArray] w (fun e w' => e = .returned (.tuple #[]) ∧ St 0 w0 w' (OPs xs (.slice (some ⟨g, 0, none⟩) xs.length c) F)) := by
  refine q_call (n := 38) (args := [.pointer (some ⟨g, 0 + i * 15, none⟩), .pointer (some ⟨g, 0 + j * 15, none⟩), .agg ([.bool q, .int .i64 fr, .int .i64 a, .int .i64 to, .int .i64 b] : List Value).toArray]) Try.func22 rfl rfl rfl ?_
  have hok0 := ops_ok (R := []) hs0
  have hcl : ∀ x, x ∈ xs → x.cs.length = 15 := fun x hx => OP.ok_len (hok0 x hx)
  obtain ⟨gx, cx, hvx, _⟩ := row_some (hs0.get (mem_Q hx [] _ F) : w.ownsRow 0 52 3 x.vQ x.p.Queues.length x.csQ) (by omega)
  obtain ⟨Ay, cy, hvy, _⟩ := row_slice (hs0.get (mem_Q hy [] _ F) : w.ownsRow 0 52 3 y.vQ y.p.Queues.length y.csQ)
  refine s_seq ?_
  refine s_region ?_
  refine l_box rfl rfl rfl hs0 ?_
  intro w1 b5 hb5 hx1 hs1
  refine l_nil ?_
  refine s_seq ?_
  refine s_quiet (by kernel_rfl) (by kernel_rfl) ?_
  refine qq_r (fun w' hw' => r_move rfl) rfl ?_
  refine qq_r (fun w' hw' => r_nilcheck rfl) rfl ?_
  refine qq_r (fun w' hw' => r_field rfl fo48_10) rfl ?_
  refine qq_r (fun w' hw' => r_load1R (v := .slice (some ⟨gx, 0, none⟩) x.p.Queues.length cx) rfl (hs1.ext hw') (Repl.there Repl.here) ag44 (by rw [Nat.zero_add]; exact ((flat_get hcl hx (by decide)).trans (OP.ok_Q (hok0 x (List.mem_of_getElem? hx)))).trans (congrArg some hvx))) rfl ?_
  refine qq_r (fun w' hw' => r_field rfl fo32_2) rfl ?_
  refine qq_r (fun w' hw' => r_load1p rfl (hs1.ext hw') Repl.here ag3 rfl) rfl ?_
  refine qq_call rfl rfl fk42 (fun w' _ => (at42_in (b := gx) (o := 0) (c := cx) a w' ha0 ha1).mono (fun e w1 ⟨he, hw⟩ => ⟨he, hw ▸ Ext.refl _⟩)) rfl ?_
  refine qq_r (fun w' hw' => r_move rfl) rfl ?_
  refine qq_r (fun w' hw' => r_nilcheck rfl) rfl ?_
  refine qq_r (fun w' hw' => r_field rfl fo48_10) rfl ?_
  refine qq_r (fun w' hw' => r_load1R (v := .slice Ay y.p.Queues.length cy) rfl (hs1.ext hw') (Repl.there Repl.here) ag44 (by rw [Nat.zero_add]; exact ((flat_get hcl hy (by decide)).trans (OP.ok_Q (hok0 y (List.mem_of_getElem? hy)))).trans (congrArg some hvy))) rfl ?_
  refine qq_r (fun w' hw' => r_field rfl fo32_4) rfl ?_
  refine qq_r (fun w' hw' => r_load1p rfl (hs1.ext hw') Repl.here ag3 rfl) rfl ?_
  refine qq_call rfl rfl fk42 (fun w' _ => (at42_out (A := Ay) (c := cy) b w' hbo).mono (fun e w1 ⟨he, hw⟩ => ⟨he, hw ▸ Ext.refl _⟩)) rfl ?_
  refine qq_r (fun w' hw' => r_assign rfl) rfl ?_
  refine qq_r (fun w' hw' => r_assign rfl) rfl ?_
  refine qq_nil ?_
  intro w2 hx2
  have hs2 := hs1.ext hx2
  refine s_seq ?_
  refine s_region ?_
  refine l_r (r_move rfl) rfl ?_
  refine l_r (r_nepnil rfl rfl Try.underlying103) rfl ?_
  refine l_r (r_move rfl) rfl ?_
  refine l_on (dj := 24) rfl rfl rfl ?_
  refine l_r (r_move rfl) rfl ?_
  refine l_on (dj := 24) rfl rfl rfl ?_
  refine l_r (r_nepnil rfl rfl Try.underlying103) rfl ?_
  refine l_r (r_pick_t rfl rfl) rfl ?_
  refine l_nil ?_
  refine s_else rfl ?_
  refine s_skip ?_
  refine s_nil ?_
  exact q_done (.inl rfl) .nil ⟨rfl, hs2.tail⟩

set_option maxRecDepth 100000 in
theorem queues_out_in {w0 w : World} {xs : List OP} {x y : OP} {g c i j : Nat} {F : Nat → Prop} {q : Bool} {fr a to b : Int} (hs0 : St 0 w0 w (OPs xs (.slice (some ⟨g, 0, none⟩) xs.length c) F)) (hx : xs[i]? = some x) (hy : xs[j]? = some y) (hao : ¬ (0 ≤ a ∧ a < (x.p.Queues.length : Int))) (hb0 : 0 ≤ b) (hb1 : b < (y.p.Queues.length : Int)) :
    Calls Try.prog 22 #[.pointer (some ⟨g, 0 + i * 15, none⟩), .pointer (some ⟨g, 0 + j * 15, none⟩), .agg ([.bool q, .int .i64 fr, .int .i64 a, .int .i64 to, .int .i64 b] : List Value).toArray] w (fun e w' => e = .returned (.tuple #[]) ∧ St 0 w0 w' (OPs xs (.slice (some ⟨g, 0, none⟩) xs.length c) F)) := by
  refine q_call (n := 38) (args := [.pointer (some ⟨g, 0 + i * 15, none⟩), .pointer (some ⟨g, 0 + j * 15, none⟩), .agg ([.bool q, .int .i64 fr, .int .i64 a, .int .i64 to, .int .i64 b] : List Value).toArray]) Try.func22 rfl rfl rfl ?_
  have hok0 := ops_ok (R := []) hs0
  have hcl : ∀ x, x ∈ xs → x.cs.length = 15 := fun x hx => OP.ok_len (hok0 x hx)
  obtain ⟨Ax, cx, hvx, _⟩ := row_slice (hs0.get (mem_Q hx [] _ F) : w.ownsRow 0 52 3 x.vQ x.p.Queues.length x.csQ)
  obtain ⟨gy, cy, hvy, _⟩ := row_some (hs0.get (mem_Q hy [] _ F) : w.ownsRow 0 52 3 y.vQ y.p.Queues.length y.csQ) (by omega)
  refine s_seq ?_
  refine s_region ?_
  refine l_box rfl rfl rfl hs0 ?_
  intro w1 b5 hb5 hx1 hs1
  refine l_nil ?_
  refine s_seq ?_
  refine s_quiet (by kernel_rfl) (by kernel_rfl) ?_
  refine qq_r (fun w' hw' => r_move rfl) rfl ?_
  refine qq_r (fun w' hw' => r_nilcheck rfl) rfl ?_
  refine qq_r (fun w' hw' => r_field rfl fo48_10) rfl ?_
  refine qq_r (fun w' hw' => r_load1R (v := .slice Ax x.p.Queues.length cx) rfl (hs1.ext hw') (Repl.there Repl.here) ag44 (by rw [Nat.zero_add]; exact ((flat_get hcl hx (by decide)).trans (OP.ok_Q (hok0 x (List.mem_of_getElem? hx)))).trans (congrArg some hvx))) rfl ?_
  refine qq_r (fun w' hw' => r_field rfl fo32_2) rfl ?_
  refine qq_r (fun w' hw' => r_load1p rfl (hs1.ext hw') Repl.here ag3 rfl) rfl ?_
  refine qq_call rfl rfl fk42 (fun w' _ => (at42_out (A := Ax) (c := cx) a w' hao).mono (fun e w1 ⟨he, hw⟩ => ⟨he, hw ▸ Ext.refl _⟩)) rfl ?_
  refine qq_r (fun w' hw' => r_move rfl) rfl ?_
  refine qq_r (fun w' hw' => r_nilcheck rfl) rfl ?_
  refine qq_r (fun w' hw' => r_field rfl fo48_10) rfl ?_
  refine qq_r (fun w' hw' => r_load1R (v := .slice (some ⟨gy, 0, none⟩) y.p.Queues.length cy) rfl (hs1.ext hw') (Repl.there Repl.here) ag44 (by rw [Nat.zero_add]; exact ((flat_get hcl hy (by decide)).trans (OP.ok_Q (hok0 y (List.mem_of_getElem? hy)))).trans (congrArg some hvy))) rfl ?_
  refine qq_r (fun w' hw' => r_field rfl fo32_4) rfl ?_
  refine qq_r (fun w' hw' => r_load1p rfl (hs1.ext hw') Repl.here ag3 rfl) rfl ?_
  refine qq_call rfl rfl fk42 (fun w' _ => (at42_in (b := gy) (o := 0) (c := cy) b w' hb0 hb1).mono (fun e w1 ⟨he, hw⟩ => ⟨he, hw ▸ Ext.refl _⟩)) rfl ?_
  refine qq_r (fun w' hw' => r_assign rfl) rfl ?_
  refine qq_r (fun w' hw' => r_assign rfl) rfl ?_
  refine qq_nil ?_
  intro w2 hx2
  have hs2 := hs1.ext hx2
  refine s_seq ?_
  refine s_region ?_
  refine l_r (r_move rfl) rfl ?_
  refine l_r (r_nepnil rfl rfl Try.underlying103) rfl ?_
  refine l_r (r_move rfl) rfl ?_
  refine l_off (dj := 24) (b := false) rfl rfl rfl rfl rfl ?_
  refine l_off (dj := 24) (b := false) rfl rfl rfl rfl rfl ?_
  refine l_r (r_pick_f rfl rfl) rfl ?_
  refine l_nil ?_
  refine s_else rfl ?_
  refine s_skip ?_
  refine s_nil ?_
  exact q_done (.inl rfl) .nil ⟨rfl, hs2.tail⟩

set_option maxRecDepth 100000 in
theorem queues_out_out {w0 w : World} {xs : List OP} {x y : OP} {g c i j : Nat} {F : Nat → Prop} {q : Bool} {fr a to b : Int} (hs0 : St 0 w0 w (OPs xs (.slice (some ⟨g, 0, none⟩) xs.length c) F)) (hx : xs[i]? = some x) (hy : xs[j]? = some y) (hao : ¬ (0 ≤ a ∧ a < (x.p.Queues.length : Int))) (hbo : ¬ (0 ≤ b ∧ b < (y.p.Queues.length : Int))) :
    Calls Try.prog 22 #[.pointer (some ⟨g, 0 + i * 15, none⟩), .pointer (some ⟨g, 0 + j * 15, none⟩), .agg ([.bool q, .int .i64 fr, .int .i64 a, .int .i64 to, .int .i64 b] : List Value).toArray] w (fun e w' => e = .returned (.tuple #[]) ∧ St 0 w0 w' (OPs xs (.slice (some ⟨g, 0, none⟩) xs.length c) F)) := by
  refine q_call (n := 38) (args := [.pointer (some ⟨g, 0 + i * 15, none⟩), .pointer (some ⟨g, 0 + j * 15, none⟩), .agg ([.bool q, .int .i64 fr, .int .i64 a, .int .i64 to, .int .i64 b] : List Value).toArray]) Try.func22 rfl rfl rfl ?_
  have hok0 := ops_ok (R := []) hs0
  have hcl : ∀ x, x ∈ xs → x.cs.length = 15 := fun x hx => OP.ok_len (hok0 x hx)
  obtain ⟨Ax, cx, hvx, _⟩ := row_slice (hs0.get (mem_Q hx [] _ F) : w.ownsRow 0 52 3 x.vQ x.p.Queues.length x.csQ)
  obtain ⟨Ay, cy, hvy, _⟩ := row_slice (hs0.get (mem_Q hy [] _ F) : w.ownsRow 0 52 3 y.vQ y.p.Queues.length y.csQ)
  refine s_seq ?_
  refine s_region ?_
  refine l_box rfl rfl rfl hs0 ?_
  intro w1 b5 hb5 hx1 hs1
  refine l_nil ?_
  refine s_seq ?_
  refine s_quiet (by kernel_rfl) (by kernel_rfl) ?_
  refine qq_r (fun w' hw' => r_move rfl) rfl ?_
  refine qq_r (fun w' hw' => r_nilcheck rfl) rfl ?_
  refine qq_r (fun w' hw' => r_field rfl fo48_10) rfl ?_
  refine qq_r (fun w' hw' => r_load1R (v := .slice Ax x.p.Queues.length cx) rfl (hs1.ext hw') (Repl.there Repl.here) ag44 (by rw [Nat.zero_add]; exact ((flat_get hcl hx (by decide)).trans (OP.ok_Q (hok0 x (List.mem_of_getElem? hx)))).trans (congrArg some hvx))) rfl ?_
  refine qq_r (fun w' hw' => r_field rfl fo32_2) rfl ?_
  refine qq_r (fun w' hw' => r_load1p rfl (hs1.ext hw') Repl.here ag3 rfl) rfl ?_
  refine qq_call rfl rfl fk42 (fun w' _ => (at42_out (A := Ax) (c := cx) a w' hao).mono (fun e w1 ⟨he, hw⟩ => ⟨he, hw ▸ Ext.refl _⟩)) rfl ?_
  refine qq_r (fun w' hw' => r_move rfl) rfl ?_
  refine qq_r (fun w' hw' => r_nilcheck rfl) rfl ?_
  refine qq_r (fun w' hw' => r_field rfl fo48_10) rfl ?_
  refine qq_r (fun w' hw' => r_load1R (v := .slice Ay y.p.Queues.length cy) rfl (hs1.ext hw') (Repl.there Repl.here) ag44 (by rw [Nat.zero_add]; exact ((flat_get hcl hy (by decide)).trans (OP.ok_Q (hok0 y (List.mem_of_getElem? hy)))).trans (congrArg some hvy))) rfl ?_
  refine qq_r (fun w' hw' => r_field rfl fo32_4) rfl ?_
  refine qq_r (fun w' hw' => r_load1p rfl (hs1.ext hw') Repl.here ag3 rfl) rfl ?_
  refine qq_call rfl rfl fk42 (fun w' _ => (at42_out (A := Ay) (c := cy) b w' hbo).mono (fun e w1 ⟨he, hw⟩ => ⟨he, hw ▸ Ext.refl _⟩)) rfl ?_
  refine qq_r (fun w' hw' => r_assign rfl) rfl ?_
  refine qq_r (fun w' hw' => r_assign rfl) rfl ?_
  refine qq_nil ?_
  intro w2 hx2
  have hs2 := hs1.ext hx2
  refine s_seq ?_
  refine s_region ?_
  refine l_r (r_move rfl) rfl ?_
  refine l_r (r_nepnil rfl rfl Try.underlying103) rfl ?_
  refine l_r (r_move rfl) rfl ?_
  refine l_off (dj := 24) (b := false) rfl rfl rfl rfl rfl ?_
  refine l_off (dj := 24) (b := false) rfl rfl rfl rfl rfl ?_
  refine l_r (r_pick_f rfl rfl) rfl ?_
  refine l_nil ?_
  refine s_else rfl ?_
  refine s_skip ?_
  refine s_nil ?_
  exact q_done (.inl rfl) .nil ⟨rfl, hs2.tail⟩

end Go.Proofs.Ytfhghnhgcdiknaa
