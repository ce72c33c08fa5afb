/- Ports as the keys of a map. -/
import Derived.Test.YtfhghnhgcdiknaaWzl
set_option linter.unusedVariables false
set_option linter.unusedSimpArgs false
namespace Go.Proofs.Ytfhghnhgcdiknaa
open Go.RowKit
abbrev TPort := Bool × Int × Int
def kvP (p : TPort) : Value := .agg #[.bool p.1, .int .i64 p.2.1, .int .i64 p.2.2]
theorem eq_port (dd : Nat) (p q : Bool) (a b c d : Int) (w : World) : (Op.equalIn (dd + 1 + 1) 133 (.agg #[.bool p, .int .i64 a, .int .i64 b]) (.agg #[.bool q, .int .i64 c, .int .i64 d])).run Try.prog w = .ok (p == q && a == c && b == d) w := by
  have hf : Try.prog.fieldsOf 133 = (Try.prog.fieldsOf 133) := rfl
  rw [run_equalIn_struct (P := Try.prog) w (dd + 1) 133 _ _ (by kernel_rfl) (by kernel_rfl)]
  have hu := Try.underlying133
  simp only [Program.fieldsOf, hu]
  simp only [Op.eqFields]
  have x0 := part_scalar (P := Try.prog) w 4 (.bool p) #[.bool p, .int .i64 a, .int .i64 b] 0 ag4 rfl
  have x1 := part_scalar (P := Try.prog) w 3 (.int .i64 a) #[.bool p, .int .i64 a, .int .i64 b] 1 ag3 rfl
  have x2 := part_scalar (P := Try.prog) w 3 (.int .i64 b) #[.bool p, .int .i64 a, .int .i64 b] 2 ag3 rfl
  have y0 := part_scalar (P := Try.prog) w 4 (.bool q) #[.bool q, .int .i64 c, .int .i64 d] 0 ag4 rfl
  have y1 := part_scalar (P := Try.prog) w 3 (.int .i64 c) #[.bool q, .int .i64 c, .int .i64 d] 1 ag3 rfl
  have y2 := part_scalar (P := Try.prog) w 3 (.int .i64 d) #[.bool q, .int .i64 c, .int .i64 d] 2 ag3 rfl
  have e0 := run_equalIn_bool' (P := Try.prog) w dd 4 p q Try.underlying4
  have e1 := run_equalIn_int (P := Try.prog) w dd 3 .i64 .i64 a c Try.underlying3
  have e2 := run_equalIn_int (P := Try.prog) w dd 3 .i64 .i64 b d Try.underlying3
  have n0 : ∀ s : String, s ≠ "_" → (s == "_") = false := fun s h => by simpa using h
  simp [x0, x1, x2, y0, y1, y2, e0, e1, e2]
  by_cases h1 : p = q <;> by_cases h2 : a = c <;> by_cases h3 : b = d <;> simp [h1, h2, h3]
set_option maxRecDepth 100000 in
theorem port_eq (x y : TPort) (w : World) : (Op.equal 133 (kvP x) (kvP y)).run Try.prog w = .ok (decide (x = y)) w := by
  obtain ⟨p, a, b⟩ := x
  obtain ⟨q, c, d⟩ := y
  refine (eq_port 9998 p q a b c d w).trans (congrArg (fun z => Result.ok z w) ?_)
  by_cases h1 : p = q <;> by_cases h2 : a = c <;> by_cases h3 : b = d <;> simp [h1, h2, h3]
theorem asks_port (w : World) (x : TPort) : ∀ (L : List (TPort × Nat)) (i : Nat), (Instr.findAsking 133 (kvP x) (L.map (ent kvP)) i).run Try.prog w = .ok (findL x L i) w
  | [], _ => rfl
  | p :: L, i => by
    simp only [List.map_cons, Instr.findAsking, ent, findL]
    by_cases h : x = p.1
    · simp [port_eq, h]
    · simp [port_eq, h, asks_port w x L (i + 1)]
set_option maxRecDepth 100000 in
theorem key_port : KeyOk Try.prog 133 kvP where
  check w em x := by
    obtain ⟨p, a, b⟩ := x
    have x0 := part_scalar (P := Try.prog) w 4 (.bool p) #[.bool p, .int .i64 a, .int .i64 b] 0 ag4 rfl
    have x1 := part_scalar (P := Try.prog) w 3 (.int .i64 a) #[.bool p, .int .i64 a, .int .i64 b] 1 ag3 rfl
    have x2 := part_scalar (P := Try.prog) w 3 (.int .i64 b) #[.bool p, .int .i64 a, .int .i64 b] 2 ag3 rfl
    have c4 : ∀ n, (Instr.checkKey em (n + 1) 4 (.bool p)).run Try.prog w = .ok () w := fun n => by
      unfold Instr.checkKey
      simp [run_underlying Try.underlying4]
    have c3 : ∀ n v, (Instr.checkKey em (n + 1) 3 (.int .i64 v)).run Try.prog w = .ok () w := fun n v => by
      unfold Instr.checkKey
      simp [run_underlying Try.underlying3]
    have h : ∀ n, (Instr.checkKey em (n + 1 + 1) 133 (kvP (p, a, b))).run Try.prog w = .ok () w := fun n => by
      rw [Instr.checkKey]
      simp [run_underlying Try.underlying133, kvP, x0, x1, x2, c4, c3]
    exact h 9998
  find w x L := by
    cases L with
    | nil => simp [Instr.findKey, run_underlying Try.underlying133, Instr.findNow, findL]
    | cons p L =>
      have := asks_port w x (p :: L) 0
      simp only [List.map_cons] at this
      simp [Instr.findKey, run_underlying Try.underlying133, Instr.findNow, Instr.sameNow, ent, kvP]
      exact this
  stays w x := by
    have h : ∀ n, Instr.sameBits (n + 1) (kvP x) (kvP x) = true := fun n => by
      unfold kvP
      cases n <;> simp [Instr.sameBits]
    unfold Instr.keyThatStays
    rw [if_pos (h 9999)]
    rfl

end Go.Proofs.Ytfhghnhgcdiknaa
