/- Queues at both ends. -/
import Derived.Test.YtfhghnhgcdiknaaWl
set_option linter.unusedVariables false
namespace Go.Proofs.Ytfhghnhgcdiknaa
open Go.RowKit
def putQP (ps : List TPart) (i a : Nat) (q : TQueue) : List TPart := ps.modify i (fun p => { p with Queues := p.Queues.set a q })
def putSP (ps : List TPart) (i a : Nat) (s : TSample) : List TPart := ps.modify i (fun p => { p with Samples := p.Samples.set a s })
theorem map_putQ {xs : List OP} {i a : Nat} {x : OP} {q : TQueue} {cq : List Value} (hx : xs[i]? = some x) : (xs.set i (x.putQ a q cq)).map OP.p = putQP (xs.map OP.p) i a q := by
  apply List.ext_getElem?
  intro k
  unfold putQP
  simp only [List.getElem?_map, List.getElem?_set, List.getElem?_modify]
  by_cases h : i = k
  · subst h
    obtain ⟨hi, rfl⟩ := List.getElem?_eq_some_iff.1 hx
    simp [hi, OP.putQ]
  · simp [h]
theorem map_putS {xs : List OP} {i a : Nat} {x : OP} {s : TSample} {cs : List Value} (hx : xs[i]? = some x) : (xs.set i (x.putS a s cs)).map OP.p = putSP (xs.map OP.p) i a s := by
  apply List.ext_getElem?
  intro k
  unfold putSP
  simp only [List.getElem?_map, List.getElem?_set, List.getElem?_modify]
  by_cases h : i = k
  · subst h
    obtain ⟨hi, rfl⟩ := List.getElem?_eq_some_iff.1 hx
    simp [hi, OP.putS]
  · simp [h]
theorem after_putQ {xs : List OP} {i j a : Nat} {x y : OP} {q : TQueue} {cq : List Value} (hx : xs[i]? = some x) (hy : xs[j]? = some y) : ∃ z, (xs.set i (x.putQ a q cq))[j]? = some z ∧ z.vQ = y.vQ ∧ z.p.Queues.length = y.p.Queues.length := by
  by_cases h : i = j
  · subst h
    rw [hx] at hy
    injection hy with hy
    subst hy
    have hi := (List.getElem?_eq_some_iff.1 hx).1
    exact ⟨x.putQ a q cq, by simp [hi], rfl, by simp [OP.putQ]⟩
  · exact ⟨y, by rw [List.getElem?_set, if_neg h]; exact hy, rfl, rfl⟩

set_option maxRecDepth 100000 in
theorem queues_apart {w0 w : World} {xs : List OP} {x y : OP} {g c i j : Nat} {F : Nat → Prop} {q : Bool} {fr a to b : Int} (hs0 : St 0 w0 w (OPs xs (.slice (some ⟨g, 0, none⟩) xs.length c) F)) (hx : xs[i]? = some x) (hy : xs[j]? = some y) (ha0 : 0 ≤ a) (ha1 : a < (x.p.Queues.length : Int)) (hb0 : 0 ≤ b) (hb1 : b < (y.p.Queues.length : Int)) (hbq : ∀ z, z ∈ xs → ∀ q, q ∈ z.p.Queues → q.Values.length ≤ 100000000) (happ : ∀ gx gy cx cy, x.vQ = .slice (some ⟨gx, 0, none⟩) x.p.Queues.length cx → y.vQ = .slice (some ⟨gy, 0, none⟩) y.p.Queues.length cy → (⟨gx, 0 + a.toNat * 3, none⟩ : Addr) ≠ ⟨gy, 0 + b.toNat * 3, none⟩) :
    Calls Try.prog 22 #[.pointer (some ⟨g, 0 + i * 15, none⟩), .pointer (some ⟨g, 0 + j * 15, none⟩), .agg ([.bool q, .int .i64 fr, .int .i64 a, .int .i64 to, .int .i64 b] : List Value).toArray] w (fun e w' => e = .returned (.tuple #[]) ∧ ∃ (xs' : List OP) (F' : Nat → Prop), St 0 w0 w' (OPs xs' (.slice (some ⟨g, 0, none⟩) xs.length c) F') ∧ xs'.length = xs.length ∧ xs'.map OP.p = putQP (putQP (xs.map OP.p) i a.toNat { (x.p.Queues[a.toNat]'(by omega)) with Values := (moveQ (x.p.Queues[a.toNat]'(by omega)).Values (y.p.Queues[b.toNat]'(by omega)).Values (y.p.Queues[b.toNat]'(by omega)).Depth).1 }) j b.toNat { (y.p.Queues[b.toNat]'(by omega)) with Values := (moveQ (x.p.Queues[a.toNat]'(by omega)).Values (y.p.Queues[b.toNat]'(by omega)).Values (y.p.Queues[b.toNat]'(by omega)).Depth).2 }) := by
  refine q_call (n := 38) (args := [.pointer (some ⟨g, 0 + i * 15, none⟩), .pointer (some ⟨g, 0 + j * 15, none⟩), .agg ([.bool q, .int .i64 fr, .int .i64 a, .int .i64 to, .int .i64 b] : List Value).toArray]) Try.func22 rfl rfl rfl ?_
  have hok0 := ops_ok (R := []) hs0
  have hcl : ∀ x, x ∈ xs → x.cs.length = 15 := fun x hx => OP.ok_len (hok0 x hx)
  have han : a.toNat < x.p.Queues.length := by omega
  have hbn : b.toNat < y.p.Queues.length := by omega
  obtain ⟨gx, cx, hvx, _⟩ := row_some (hs0.get (mem_Q hx [] _ F) : w.ownsRow 0 52 3 x.vQ x.p.Queues.length x.csQ) (by omega)
  obtain ⟨gy, cy, hvy, _⟩ := row_some (hs0.get (mem_Q hy [] _ F) : w.ownsRow 0 52 3 y.vQ y.p.Queues.length y.csQ) (by omega)
  refine s_seq ?_
  refine s_region ?_
  refine l_box rfl rfl rfl hs0 ?_
  intro w1 b5 hb5 hx1 hs1
  refine l_nil ?_
  refine s_seq ?_
  refine s_quiet (by kernel_rfl) (by kernel_rfl) ?_
  refine qq_r (fun w' hw' => r_move rfl) rfl ?_
  refine qq_r (fun w' hw' => r_nilcheck rfl) rfl ?_
  refine qq_r (fun w' hw' => r_field rfl fo48_10) rfl ?_
  refine qq_r (fun w' hw' => r_load1R (v := .slice (some ⟨gx, 0, none⟩) x.p.Queues.length cx) rfl (hs1.ext hw') (Repl.there Repl.here) ag44 (by rw [Nat.zero_add]; exact ((flat_get hcl hx (by decide)).trans (OP.ok_Q (hok0 x (List.mem_of_getElem? hx)))).trans (congrArg some hvx))) rfl ?_
  refine qq_r (fun w' hw' => r_field rfl fo32_2) rfl ?_
  refine qq_r (fun w' hw' => r_load1p rfl (hs1.ext hw') Repl.here ag3 rfl) rfl ?_
  refine qq_call rfl rfl fk42 (fun w' _ => (at42_in (b := gx) (o := 0) (c := cx) a w' ha0 ha1).mono (fun e w1 ⟨he, hw⟩ => ⟨he, hw ▸ Ext.refl _⟩)) rfl ?_
  refine qq_r (fun w' hw' => r_move rfl) rfl ?_
  refine qq_r (fun w' hw' => r_nilcheck rfl) rfl ?_
  refine qq_r (fun w' hw' => r_field rfl fo48_10) rfl ?_
  refine qq_r (fun w' hw' => r_load1R (v := .slice (some ⟨gy, 0, none⟩) y.p.Queues.length cy) rfl (hs1.ext hw') (Repl.there Repl.here) ag44 (by rw [Nat.zero_add]; exact ((flat_get hcl hy (by decide)).trans (OP.ok_Q (hok0 y (List.mem_of_getElem? hy)))).trans (congrArg some hvy))) rfl ?_
  refine qq_r (fun w' hw' => r_field rfl fo32_4) rfl ?_
  refine qq_r (fun w' hw' => r_load1p rfl (hs1.ext hw') Repl.here ag3 rfl) rfl ?_
  refine qq_call rfl rfl fk42 (fun w' _ => (at42_in (b := gy) (o := 0) (c := cy) b w' hb0 hb1).mono (fun e w1 ⟨he, hw⟩ => ⟨he, hw ▸ Ext.refl _⟩)) rfl ?_
  refine qq_r (fun w' hw' => r_assign rfl) rfl ?_
  refine qq_r (fun w' hw' => r_assign rfl) rfl ?_
  refine qq_nil ?_
  intro w2 hx2
  have hs2 := hs1.ext hx2
  refine s_seq ?_
  refine s_region ?_
  refine l_r (r_move rfl) rfl ?_
  refine l_r (r_nepnil rfl rfl Try.underlying103) rfl ?_
  refine l_r (r_move rfl) rfl ?_
  refine l_on (dj := 24) rfl rfl rfl ?_
  refine l_r (r_move rfl) rfl ?_
  refine l_on (dj := 24) rfl rfl rfl ?_
  refine l_r (r_nepnil rfl rfl Try.underlying103) rfl ?_
  refine l_r (r_pick_t rfl rfl) rfl ?_
  refine l_nil ?_
  refine s_then rfl ?_
  refine s_region ?_
  refine l_r (r_move rfl) rfl ?_
  refine l_r (r_move rfl) rfl ?_
  refine l_r (r_move rfl) rfl ?_
  refine l_r (r_move rfl) rfl ?_
  obtain ⟨pa, hca, hKa, cga, tga, hga⟩ := queue_at (R := [_]) hs2 hx hvx han
  obtain ⟨pb, hcb, hKb, cgb, tgb, hgb⟩ := queue_at (R := [_]) hs2 hy hvy hbn
  refine l_call rfl rfl fk43 rfl (bring_apart w2 hca hcb hKa hKb (hbq x (List.mem_of_getElem? hx) _ (List.getElem_mem _)) (hbq y (List.mem_of_getElem? hy) _ (List.getElem_mem _)) (happ gx gy cx cy hvx hvy) hga hgb) ?_
  rintro _ w3 ⟨ca, cb, F2, rfl, hc3⟩
  have hs3 := ops_join (((hs2.call1 hc3).swap).tail)
  refine ⟨_, rfl, ?_⟩
  refine l_r (r_move rfl) rfl ?_
  refine l_r (r_extract rfl rfl) rfl ?_
  refine l_r (r_extract rfl rfl) rfl ?_
  refine l_r (r_nilcheck rfl) rfl ?_
  refine l_putQ (R := []) (q := { (x.p.Queues[a.toNat]'(by omega)) with Values := (moveQ (x.p.Queues[a.toNat]'(by omega)).Values (y.p.Queues[b.toNat]'(by omega)).Values (y.p.Queues[b.toNat]'(by omega)).Depth).1 }) (cq := ca) rfl rfl hs3 (fun w' h => Kd.queue.mono (fun k hk _ => .inl hk) h.1) hx hvx han ?_
  intro w4 hs4
  obtain ⟨z, hz, hzv, hzl⟩ := after_putQ (a := a.toNat) (q := { (x.p.Queues[a.toNat]'(by omega)) with Values := (moveQ (x.p.Queues[a.toNat]'(by omega)).Values (y.p.Queues[b.toNat]'(by omega)).Values (y.p.Queues[b.toNat]'(by omega)).Depth).1 }) (cq := ca) hx hy
  refine l_r (r_nilcheck rfl) rfl ?_
  refine l_putQ (R := []) (q := { (y.p.Queues[b.toNat]'(by omega)) with Values := (moveQ (x.p.Queues[a.toNat]'(by omega)).Values (y.p.Queues[b.toNat]'(by omega)).Values (y.p.Queues[b.toNat]'(by omega)).Depth).2 }) (cq := cb) rfl rfl hs4 (fun w' h => Kd.queue.mono (fun k hk _ => .inl hk) h.2) hz (by rw [hzv, hvy, hzl]) (by rw [hzl]; exact hbn) ?_
  intro w5 hs5
  refine l_nil ?_
  refine s_nil ?_
  exact q_done (.inl rfl) .nil ⟨rfl, _, _, ops_drop (R := []) hs5, by simp, by rw [map_putQ hz, map_putQ hx]⟩

set_option maxRecDepth 100000 in
theorem queues_same {w0 w : World} {xs : List OP} {x : OP} {g c i : Nat} {F : Nat → Prop} {q : Bool} {fr a to : Int} (hs0 : St 0 w0 w (OPs xs (.slice (some ⟨g, 0, none⟩) xs.length c) F)) (hx : xs[i]? = some x) (ha0 : 0 ≤ a) (ha1 : a < (x.p.Queues.length : Int)) (hbq : ∀ z, z ∈ xs → ∀ q, q ∈ z.p.Queues → q.Values.length ≤ 100000000) :
    Calls Try.prog 22 #[.pointer (some ⟨g, 0 + i * 15, none⟩), .pointer (some ⟨g, 0 + i * 15, none⟩), .agg ([.bool q, .int .i64 fr, .int .i64 a, .int .i64 to, .int .i64 a] : List Value).toArray] w (fun e w' => e = .returned (.tuple #[]) ∧ ∃ (xs' : List OP) (F' : Nat → Prop), St 0 w0 w' (OPs xs' (.slice (some ⟨g, 0, none⟩) xs.length c) F') ∧ xs'.length = xs.length ∧ xs'.map OP.p = putQP (putQP (xs.map OP.p) i a.toNat { (x.p.Queues[a.toNat]'(by omega)) with Values := (moveQ (x.p.Queues[a.toNat]'(by omega)).Values (x.p.Queues[a.toNat]'(by omega)).Values (x.p.Queues[a.toNat]'(by omega)).Depth).2 }) i a.toNat { (x.p.Queues[a.toNat]'(by omega)) with Values := (moveQ (x.p.Queues[a.toNat]'(by omega)).Values (x.p.Queues[a.toNat]'(by omega)).Values (x.p.Queues[a.toNat]'(by omega)).Depth).2 }) := by
  refine q_call (n := 38) (args := [.pointer (some ⟨g, 0 + i * 15, none⟩), .pointer (some ⟨g, 0 + i * 15, none⟩), .agg ([.bool q, .int .i64 fr, .int .i64 a, .int .i64 to, .int .i64 a] : List Value).toArray]) Try.func22 rfl rfl rfl ?_
  have hok0 := ops_ok (R := []) hs0
  have hcl : ∀ x, x ∈ xs → x.cs.length = 15 := fun x hx => OP.ok_len (hok0 x hx)
  have han : a.toNat < x.p.Queues.length := by omega
  obtain ⟨gx, cx, hvx, _⟩ := row_some (hs0.get (mem_Q hx [] _ F) : w.ownsRow 0 52 3 x.vQ x.p.Queues.length x.csQ) (by omega)
  refine s_seq ?_
  refine s_region ?_
  refine l_box rfl rfl rfl hs0 ?_
  intro w1 b5 hb5 hx1 hs1
  refine l_nil ?_
  refine s_seq ?_
  refine s_quiet (by kernel_rfl) (by kernel_rfl) ?_
  refine qq_r (fun w' hw' => r_move rfl) rfl ?_
  refine qq_r (fun w' hw' => r_nilcheck rfl) rfl ?_
  refine qq_r (fun w' hw' => r_field rfl fo48_10) rfl ?_
  refine qq_r (fun w' hw' => r_load1R (v := .slice (some ⟨gx, 0, none⟩) x.p.Queues.length cx) rfl (hs1.ext hw') (Repl.there Repl.here) ag44 (by rw [Nat.zero_add]; exact ((flat_get hcl hx (by decide)).trans (OP.ok_Q (hok0 x (List.mem_of_getElem? hx)))).trans (congrArg some hvx))) rfl ?_
  refine qq_r (fun w' hw' => r_field rfl fo32_2) rfl ?_
  refine qq_r (fun w' hw' => r_load1p rfl (hs1.ext hw') Repl.here ag3 rfl) rfl ?_
  refine qq_call rfl rfl fk42 (fun w' _ => (at42_in (b := gx) (o := 0) (c := cx) a w' ha0 ha1).mono (fun e w1 ⟨he, hw⟩ => ⟨he, hw ▸ Ext.refl _⟩)) rfl ?_
  refine qq_r (fun w' hw' => r_move rfl) rfl ?_
  refine qq_r (fun w' hw' => r_nilcheck rfl) rfl ?_
  refine qq_r (fun w' hw' => r_field rfl fo48_10) rfl ?_
  refine qq_r (fun w' hw' => r_load1R (v := .slice (some ⟨gx, 0, none⟩) x.p.Queues.length cx) rfl (hs1.ext hw') (Repl.there Repl.here) ag44 (by rw [Nat.zero_add]; exact ((flat_get hcl hx (by decide)).trans (OP.ok_Q (hok0 x (List.mem_of_getElem? hx)))).trans (congrArg some hvx))) rfl ?_
  refine qq_r (fun w' hw' => r_field rfl fo32_4) rfl ?_
  refine qq_r (fun w' hw' => r_load1p rfl (hs1.ext hw') Repl.here ag3 rfl) rfl ?_
  refine qq_call rfl rfl fk42 (fun w' _ => (at42_in (b := gx) (o := 0) (c := cx) a w' ha0 ha1).mono (fun e w1 ⟨he, hw⟩ => ⟨he, hw ▸ Ext.refl _⟩)) rfl ?_
  refine qq_r (fun w' hw' => r_assign rfl) rfl ?_
  refine qq_r (fun w' hw' => r_assign rfl) rfl ?_
  refine qq_nil ?_
  intro w2 hx2
  have hs2 := hs1.ext hx2
  refine s_seq ?_
  refine s_region ?_
  refine l_r (r_move rfl) rfl ?_
  refine l_r (r_nepnil rfl rfl Try.underlying103) rfl ?_
  refine l_r (r_move rfl) rfl ?_
  refine l_on (dj := 24) rfl rfl rfl ?_
  refine l_r (r_move rfl) rfl ?_
  refine l_on (dj := 24) rfl rfl rfl ?_
  refine l_r (r_nepnil rfl rfl Try.underlying103) rfl ?_
  refine l_r (r_pick_t rfl rfl) rfl ?_
  refine l_nil ?_
  refine s_then rfl ?_
  refine s_region ?_
  refine l_r (r_move rfl) rfl ?_
  refine l_r (r_move rfl) rfl ?_
  refine l_r (r_move rfl) rfl ?_
  refine l_r (r_move rfl) rfl ?_
  obtain ⟨pa, hca, hKa, cga, tga, hga⟩ := queue_at (R := [_]) hs2 hx hvx han
  obtain ⟨pb, hcb, hKb, cgb, tgb, hgb⟩ := queue_at (R := [_]) hs2 hx hvx han
  refine l_call rfl rfl fk43 rfl (bring_same w2 hca hcb hKa hKb (hbq x (List.mem_of_getElem? hx) _ (List.getElem_mem _)) (hbq x (List.mem_of_getElem? hx) _ (List.getElem_mem _))) ?_
  rintro _ w3 ⟨ca, cb, F2, rfl, hc3⟩
  have hs3 := ops_join (((hs2.call1 hc3).swap).tail)
  refine ⟨_, rfl, ?_⟩
  refine l_r (r_move rfl) rfl ?_
  refine l_r (r_extract rfl rfl) rfl ?_
  refine l_r (r_extract rfl rfl) rfl ?_
  refine l_r (r_nilcheck rfl) rfl ?_
  refine l_putQ (R := []) (q := { (x.p.Queues[a.toNat]'(by omega)) with Values := (moveQ (x.p.Queues[a.toNat]'(by omega)).Values (x.p.Queues[a.toNat]'(by omega)).Values (x.p.Queues[a.toNat]'(by omega)).Depth).2 }) (cq := ca) rfl rfl hs3 (fun w' h => Kd.queue.mono (fun k hk _ => .inl hk) h.1) hx hvx han ?_
  intro w4 hs4
  obtain ⟨z, hz, hzv, hzl⟩ := after_putQ (a := a.toNat) (q := { (x.p.Queues[a.toNat]'(by omega)) with Values := (moveQ (x.p.Queues[a.toNat]'(by omega)).Values (x.p.Queues[a.toNat]'(by omega)).Values (x.p.Queues[a.toNat]'(by omega)).Depth).2 }) (cq := ca) hx hx
  refine l_r (r_nilcheck rfl) rfl ?_
  refine l_putQ (R := []) (q := { (x.p.Queues[a.toNat]'(by omega)) with Values := (moveQ (x.p.Queues[a.toNat]'(by omega)).Values (x.p.Queues[a.toNat]'(by omega)).Values (x.p.Queues[a.toNat]'(by omega)).Depth).2 }) (cq := cb) rfl rfl hs4 (fun w' h => Kd.queue.mono (fun k hk _ => .inl hk) h.2) hz (by rw [hzv, hvx, hzl]) (by rw [hzl]; exact han) ?_
  intro w5 hs5
  refine l_nil ?_
  refine s_nil ?_
  exact q_done (.inl rfl) .nil ⟨rfl, _, _, ops_drop (R := []) hs5, by simp, by rw [map_putQ hz, map_putQ hx]⟩

end Go.Proofs.Ytfhghnhgcdiknaa
