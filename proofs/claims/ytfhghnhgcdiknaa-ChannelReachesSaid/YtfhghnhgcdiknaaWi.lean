/- A sample carried. -/
import Derived.Test.YtfhghnhgcdiknaaWh
set_option linter.unusedVariables false
set_option linter.unusedSimpArgs false
namespace Go.Proofs.Ytfhghnhgcdiknaa
open Go.RowKit
theorem part1 (w : World) (t : TypeId) (v : Value) (xs : Array Value) (o : Nat) (hT : isAggB Try.prog t = some false) (h : xs[o]? = some v) : (part t xs o).run Try.prog w = .ok v w := by
  unfold isAggB at hT
  obtain ⟨u, hu, hu2⟩ := Option.map_eq_some_iff.1 hT
  have hag : (isAgg t).run Try.prog w = .ok false w := by
    cases u <;> simp at hu2 <;> simp [isAgg, run_underlying hu]
  simp [part, hag, h]
theorem eq_sample (dd : Nat) (p q : Bool) (a b c d : Int) (w : World) : (Op.equalIn (dd + 1 + 1) 56 (.agg #[.bool p, .int .i64 a, .int .i64 b]) (.agg #[.bool q, .int .i64 c, .int .i64 d])).run Try.prog w = .ok (p == q && a == c && b == d) w := by
  have hf : Try.prog.fieldsOf 56 = (Try.prog.fieldsOf 56) := rfl
  rw [run_equalIn_struct (P := Try.prog) w (dd + 1) 56 _ _ (by kernel_rfl) (by kernel_rfl)]
  have hu := Try.underlying56
  simp only [Program.fieldsOf, hu]
  simp only [Op.eqFields]
  have x0 := part1 w 4 (.bool p) #[.bool p, .int .i64 a, .int .i64 b] 0 ag4 rfl
  have x1 := part1 w 3 (.int .i64 a) #[.bool p, .int .i64 a, .int .i64 b] 1 ag3 rfl
  have x2 := part1 w 3 (.int .i64 b) #[.bool p, .int .i64 a, .int .i64 b] 2 ag3 rfl
  have y0 := part1 w 4 (.bool q) #[.bool q, .int .i64 c, .int .i64 d] 0 ag4 rfl
  have y1 := part1 w 3 (.int .i64 c) #[.bool q, .int .i64 c, .int .i64 d] 1 ag3 rfl
  have y2 := part1 w 3 (.int .i64 d) #[.bool q, .int .i64 c, .int .i64 d] 2 ag3 rfl
  have e0 := run_equalIn_bool' (P := Try.prog) w dd 4 p q Try.underlying4
  have e1 := run_equalIn_int (P := Try.prog) w dd 3 .i64 .i64 a c Try.underlying3
  have e2 := run_equalIn_int (P := Try.prog) w dd 3 .i64 .i64 b d Try.underlying3
  have n0 : ∀ s : String, s ≠ "_" → (s == "_") = false := fun s h => by simpa using h
  simp [x0, x1, x2, y0, y1, y2, e0, e1, e2]
  by_cases h1 : p = q <;> by_cases h2 : a = c <;> by_cases h3 : b = d <;> simp [h1, h2, h3]
def sampCells (x : TSample) : List Value := [.bool x.Is, .int .i64 x.Value, .int .i64 x.At]
def carryL (a b : TSample) : TSample := if a.Is then a else b

set_option maxRecDepth 100000 in
theorem carry_true {av at_ bv bt : Int} {bi : Bool} (w : World) :
    Calls Try.prog 45 #[.agg ([.bool true, .int .i64 av, .int .i64 at_] : List Value).toArray, .agg ([.bool bi, .int .i64 bv, .int .i64 bt] : List Value).toArray] w (fun e w' => e = .returned (.agg ([.bool true, .int .i64 av, .int .i64 at_] : List Value).toArray) ∧ St 0 w w' []) := by
  refine q_call (n := 15) (args := [.agg ([.bool true, .int .i64 av, .int .i64 at_] : List Value).toArray, .agg ([.bool bi, .int .i64 bv, .int .i64 bt] : List Value).toArray]) Try.func45 rfl rfl rfl ?_
  have hs0 := St.refl 0 w
  refine s_seq ?_
  refine s_region ?_
  refine l_box rfl rfl rfl hs0 ?_
  intro w1 b2 hb2 hx1 hs1
  refine l_box rfl rfl rfl hs1 ?_
  intro w2 b3 hb3 hx2 hs2
  refine l_alloc zz56 rfl hs2 ?_
  intro w3 b4 hb4 hx3 hs3
  refine l_nil ?_
  refine s_seq ?_
  refine s_seq ?_
  refine s_region ?_
  refine l_r (r_loadNp rfl hs3 (Repl.there (Repl.there Repl.here)) ag56 sz56) rfl ?_
  refine l_r (r_build (v := .agg #[.bool false, .int .i64 0, .int .i64 0]) rfl (by kernel_rfl)) rfl ?_
  refine l_r (r_eq (r := false) rfl rfl (run_eqGuard_agg (P := Try.prog) _ .eql 56 _ _ _ _ (by kernel_rfl)) rfl ((eq_sample 9998 _ _ _ _ _ _ _).trans (congrArg (fun z => Result.ok z _) (rfl)))) rfl ?_
  refine l_r (r_move rfl) rfl ?_
  refine l_on (dj := 8) rfl rfl rfl ?_
  refine l_r (r_field rfl fo56_0) rfl ?_
  refine l_on (dj := 8) rfl rfl rfl ?_
  refine l_r (r_load1p rfl hs3 (Repl.there (Repl.there Repl.here)) ag4 rfl) rfl ?_
  refine l_on (dj := 8) rfl rfl rfl ?_
  refine l_r (r_not rfl) rfl ?_
  refine l_r (r_pick_f rfl rfl) rfl ?_
  refine l_nil ?_
  refine s_else rfl ?_
  refine s_skip ?_
  refine s_seq ?_
  refine s_region ?_
  refine l_r (r_loadNp rfl hs3 (Repl.there (Repl.there Repl.here)) ag56 sz56) rfl ?_
  refine l_storeAll rfl rfl sz56 (by intro u hu; have hu : u ∈ ([.bool true, .int .i64 av, .int .i64 at_] : List Value) := hu; simp only [List.mem_cons, List.not_mem_nil, or_false] at hu; rcases hu with rfl | rfl | rfl <;> rfl) (Nat.zero_le _) hs3 Repl.here rfl ?_
  intro w4 hz4 hk4 hs4
  refine l_nil ?_
  refine s_ret ?_
  exact q_done (.inr rfl) (.cellN (cs := [.bool true, .int .i64 av, .int .i64 at_]) rfl ag56 sz56 (heap_all (hs4.get (r := .pt b4 _ _) List.mem_cons_self)) .nil) ⟨rfl, hs4.nil⟩

set_option maxRecDepth 100000 in
theorem carry_false {av at_ bv bt : Int} {bi : Bool} (w : World) :
    Calls Try.prog 45 #[.agg ([.bool false, .int .i64 av, .int .i64 at_] : List Value).toArray, .agg ([.bool bi, .int .i64 bv, .int .i64 bt] : List Value).toArray] w (fun e w' => e = .returned (.agg ([.bool bi, .int .i64 bv, .int .i64 bt] : List Value).toArray) ∧ St 0 w w' []) := by
  refine q_call (n := 15) (args := [.agg ([.bool false, .int .i64 av, .int .i64 at_] : List Value).toArray, .agg ([.bool bi, .int .i64 bv, .int .i64 bt] : List Value).toArray]) Try.func45 rfl rfl rfl ?_
  have hs0 := St.refl 0 w
  refine s_seq ?_
  refine s_region ?_
  refine l_box rfl rfl rfl hs0 ?_
  intro w1 b2 hb2 hx1 hs1
  refine l_box rfl rfl rfl hs1 ?_
  intro w2 b3 hb3 hx2 hs2
  refine l_alloc zz56 rfl hs2 ?_
  intro w3 b4 hb4 hx3 hs3
  refine l_nil ?_
  refine s_seq ?_
  refine s_seq ?_
  refine s_region ?_
  refine l_r (r_loadNp rfl hs3 (Repl.there (Repl.there Repl.here)) ag56 sz56) rfl ?_
  refine l_r (r_build (v := .agg #[.bool false, .int .i64 0, .int .i64 0]) rfl (by kernel_rfl)) rfl ?_
  by_cases hc4 : (av == 0 && at_ == 0) = true
  ·
    refine l_r (r_eq (r := true) rfl rfl (run_eqGuard_agg (P := Try.prog) _ .eql 56 _ _ _ _ (by kernel_rfl)) rfl ((eq_sample 9998 _ _ _ _ _ _ _).trans (congrArg (fun z => Result.ok z _) (hc4)))) rfl ?_
    refine l_r (r_move rfl) rfl ?_
    refine l_off (dj := 8) (b := true) rfl rfl rfl rfl rfl ?_
    refine l_off (dj := 8) (b := true) rfl rfl rfl rfl rfl ?_
    refine l_off (dj := 8) (b := true) rfl rfl rfl rfl rfl ?_
    refine l_r (r_pick_t rfl rfl) rfl ?_
    refine l_nil ?_
    refine s_then rfl ?_
    refine s_seq ?_
    refine s_region ?_
    refine l_r (r_loadNp rfl hs3 (Repl.there Repl.here) ag56 sz56) rfl ?_
    refine l_storeAll rfl rfl sz56 (by intro u hu; have hu : u ∈ ([.bool bi, .int .i64 bv, .int .i64 bt] : List Value) := hu; simp only [List.mem_cons, List.not_mem_nil, or_false] at hu; rcases hu with rfl | rfl | rfl <;> rfl) (Nat.zero_le _) hs3 Repl.here rfl ?_
    intro w5 hz5 hk5 hs5
    refine l_nil ?_
    refine s_ret ?_
    exact q_done (.inr rfl) (.cellN (cs := [.bool bi, .int .i64 bv, .int .i64 bt]) rfl ag56 sz56 (heap_all (hs5.get (r := .pt b4 _ _) List.mem_cons_self)) .nil) ⟨rfl, hs5.nil⟩
  ·
    refine l_r (r_eq (r := false) rfl rfl (run_eqGuard_agg (P := Try.prog) _ .eql 56 _ _ _ _ (by kernel_rfl)) rfl ((eq_sample 9998 _ _ _ _ _ _ _).trans (congrArg (fun z => Result.ok z _) (Bool.eq_false_iff.2 hc4)))) rfl ?_
    refine l_r (r_move rfl) rfl ?_
    refine l_on (dj := 8) rfl rfl rfl ?_
    refine l_r (r_field rfl fo56_0) rfl ?_
    refine l_on (dj := 8) rfl rfl rfl ?_
    refine l_r (r_load1p rfl hs3 (Repl.there (Repl.there Repl.here)) ag4 rfl) rfl ?_
    refine l_on (dj := 8) rfl rfl rfl ?_
    refine l_r (r_not rfl) rfl ?_
    refine l_r (r_pick_f rfl rfl) rfl ?_
    refine l_nil ?_
    refine s_then rfl ?_
    refine s_seq ?_
    refine s_region ?_
    refine l_r (r_loadNp rfl hs3 (Repl.there Repl.here) ag56 sz56) rfl ?_
    refine l_storeAll rfl rfl sz56 (by intro u hu; have hu : u ∈ ([.bool bi, .int .i64 bv, .int .i64 bt] : List Value) := hu; simp only [List.mem_cons, List.not_mem_nil, or_false] at hu; rcases hu with rfl | rfl | rfl <;> rfl) (Nat.zero_le _) hs3 Repl.here rfl ?_
    intro w6 hz6 hk6 hs6
    refine l_nil ?_
    refine s_ret ?_
    exact q_done (.inr rfl) (.cellN (cs := [.bool bi, .int .i64 bv, .int .i64 bt]) rfl ag56 sz56 (heap_all (hs6.get (r := .pt b4 _ _) List.mem_cons_self)) .nil) ⟨rfl, hs6.nil⟩

theorem carry45 (a b : TSample) (w : World) : Calls Try.prog 45 #[.agg (sampCells a).toArray, .agg (sampCells b).toArray] w (fun e w' => e = .returned (.agg (sampCells (carryL a b)).toArray) ∧ St 0 w w' []) := by
  obtain ⟨ai, av, at_⟩ := a
  cases ai with
  | true => exact carry_true w
  | false => exact carry_false w

end Go.Proofs.Ytfhghnhgcdiknaa
