/- Rules for the walker that parts and reads by itself. No condition. -/
import Derived.Test.YtfhghnhgcdiknaaMore2
import Derived.Test.YtfhghnhgcdiknaaDraw
import Derived.ChangeKeysEq
namespace Go.Proofs.Ytfhghnhgcdiknaa
open Go.RowKit
set_option linter.unusedSimpArgs false
set_option linter.unusedVariables false
theorem Fr.dup {a : Act} {n : Nat} {L : Slots} (h : Fr a n L) {d : Nat} {v : Value} (hb : get L d = some v) : Fr a n ((d, v) :: L) :=
  ⟨h.size, h.defers, fun t u ht => by
    simp only [get] at ht
    split at ht
    · rename_i e
      have e' := Nat.eq_of_beq_eq_true e
      subst e'
      injection ht with ht
      subst ht
      exact h.at_ _ _ hb
    · exact h.at_ t u ht⟩
section
variable {P : Program} {n : Nat} {Q : Post} {K : Slots → World → Prop} {L : Slots} {w : World} {all : Array Oper} {l : List Oper} {s : List It} {dj : Nat} {b : Bool} {c : Code} {d ty : Nat} {pos : String} {af : Array Edge}
theorem l_part (hb : get L dj = some (.bool b)) (t : b = true → Wl P n all l K ((dj, .bool true) :: L) w) (f : b = false → Wl P n all l K ((dj, .bool false) :: L) w) : Wl P n all l K L w := by
  intro a ha
  cases b with
  | true => exact t rfl a (ha.dup hb)
  | false => exact f rfl a (ha.dup hb)
theorem l_know {v : Bool} (hb : get L dj = some (.bool b)) (e : b = v) (t : Wl P n all l K ((dj, .bool v) :: L) w) : Wl P n all l K L w := by
  subst e
  exact fun a ha => t a (ha.dup hb)
theorem qq_part {K : Slots → Prop} (hb : get L dj = some (.bool b)) (t : b = true → Wq P n all w l K ((dj, .bool true) :: L)) (f : b = false → Wq P n all w l K ((dj, .bool false) :: L)) : Wq P n all w l K L := by
  intro a ha
  cases b with
  | true => exact t rfl a (ha.dup hb)
  | false => exact f rfl a (ha.dup hb)
theorem qq_know {K : Slots → Prop} {v : Bool} (hb : get L dj = some (.bool b)) (e : b = v) (t : Wq P n all w l K ((dj, .bool v) :: L)) : Wq P n all w l K L := by
  subst e
  exact fun a ha => t a (ha.dup hb)
theorem s_part (hb : get L dj = some (.bool b)) (t : b = true → Wps P n (.c c :: s) Q ((dj, .bool true) :: L) w) (f : b = false → Wps P n (.c c :: s) Q ((dj, .bool false) :: L) w) : Wps P n (.c c :: s) Q L w := by
  intro a ha
  cases b with
  | true => exact t rfl a (ha.dup hb)
  | false => exact f rfl a (ha.dup hb)
theorem s_know {v : Bool} (hb : get L dj = some (.bool b)) (e : b = v) (t : Wps P n (.c c :: s) Q ((dj, .bool v) :: L) w) : Wps P n (.c c :: s) Q L w := by
  subst e
  exact fun a ha => t a (ha.dup hb)
theorem wrap_in {z : Int} (h0 : -9223372036854775808 ≤ z) (h1 : z ≤ 9223372036854775807) : IntKind.i64.wrap z = z := by
  simp [IntKind.wrap, IntKind.bits, IntKind.signed]
  omega
theorem r_addI {x y : Operand} {t t' : TypeId} {p q : Int} (hx : ev L x = some (.int .i64 p)) (hy : ev L y = some (.int .i64 q)) (h : -9223372036854775808 ≤ p + q ∧ p + q ≤ 9223372036854775807) : Runs P n L ⟨some d, .binOp .add t x y t', ty, pos, af, none⟩ (.int .i64 (p + q)) w :=
  r_arith hx hy (by simp [wrap_in h.1 h.2])
theorem r_subI {x y : Operand} {t t' : TypeId} {p q : Int} (hx : ev L x = some (.int .i64 p)) (hy : ev L y = some (.int .i64 q)) (h : -9223372036854775808 ≤ p - q ∧ p - q ≤ 9223372036854775807) : Runs P n L ⟨some d, .binOp .sub t x y t', ty, pos, af, none⟩ (.int .i64 (p - q)) w :=
  r_arith hx hy (by simp [wrap_in h.1 h.2])
theorem r_eqb_same {x y : Operand} {t t' : TypeId} {p : Bool} (hx : ev L x = some (.bool p)) (hy : ev L y = some (.bool p)) (ht : P.underlying t = some .bool) : Runs P n L ⟨some d, .binOp .eql t x y t', ty, pos, af, none⟩ (.bool true) w := by
  have h := r_eqb (P := P) (n := n) (w := w) (d := d) (ty := ty) (pos := pos) (af := af) (t' := t') hx hy ht
  simpa using h
theorem r_neb_same {x y : Operand} {t t' : TypeId} {p : Bool} (hx : ev L x = some (.bool p)) (hy : ev L y = some (.bool p)) (ht : P.underlying t = some .bool) : Runs P n L ⟨some d, .binOp .neq t x y t', ty, pos, af, none⟩ (.bool false) w := by
  have h := r_neb (P := P) (n := n) (w := w) (d := d) (ty := ty) (pos := pos) (af := af) (t' := t') hx hy ht
  simpa using h
end
/-- A place in a slice that is read. -/
theorem Sl.get_ {α : Type} {d : Kd α} {w : World} {ok : Nat → Prop} {A : Option Addr} {c : Nat} {xs : List α} (h : Sl d w ok A c xs) {i : Nat} (hi : i < xs.length) : ∃ x, xs[i]? = some x ∧ ∃ b o cs, A = some ⟨b, o, none⟩ ∧ ok b ∧ d.K w ok x cs ∧ Cells w b (o + i * d.sz) cs := by
  obtain ⟨b, o, cs, h1⟩ := h.at_ hi
  exact ⟨xs[i], List.getElem?_eq_getElem hi, b, o, cs, h1⟩
theorem Kd.on {α : Type} (d : Kd α) {G : Nat} {w0 w : World} {H : List Res} {ok : Nat → Prop} {x : α} {cs : List Value} (h : d.K w0 ok x cs) (hs : St G w0 w H) : d.K w ok x cs := d.move (fun k _ hk => hs.below.block k hk) h
theorem Sl.onk {α : Type} {d : Kd α} {G : Nat} {w0 w : World} {H : List Res} {ok : Nat → Prop} {A : Option Addr} {c : Nat} {xs : List α} (h : Sl d w0 ok A c xs) (hs : St G w0 w H) : Sl d w ok A c xs := h.move (fun k _ hk => hs.below.block k hk)
theorem Cells.sub {w : World} {b o : Nat} {cs : List Value} (h : Cells w b o cs) (i : Nat) {l : List Value} (hl : (cs.drop i).take l.length = l) : Cells w b (o + i) l := by
  rw [← hl]
  exact h.seg i _
theorem calls_quiet {P : Program} {g : Nat} {args : Array Value} {w : World} {v : Value} (h : Calls P g args w (fun e w1 => e = .returned v ∧ St 0 w w1 [])) : Calls P g args w (fun e w1 => e = .returned v ∧ Ext w w1) := h.mono fun e w1 ⟨h1, h2⟩ => ⟨h1, h2.toExt⟩
/-! ### Flat structs are equal to themselves -/
theorem part_scalar {P : Program} (w : World) (t : TypeId) (v : Value) (xs : Array Value) (o : Nat) (hT : isAggB P t = some false) (h : xs[o]? = some v) : (part t xs o).run P w = .ok v w := by
  unfold isAggB at hT
  obtain ⟨u, hu, hu2⟩ := Option.map_eq_some_iff.1 hT
  have hag : (isAgg t).run P w = .ok false w := by
    cases u <;> simp at hu2 <;> simp [isAgg, run_underlying hu]
  simp [part, hag, h]
theorem part_agg {P : Program} (w : World) (t : TypeId) (n : Nat) (xs : Array Value) (o : Nat) (hT : isAggB P t = some true) (hz : szOf P t = some n) (hfit : o + n ≤ xs.size) : (part t xs o).run P w = .ok (.agg (xs.extract o (o + n))) w := by
  unfold isAggB at hT
  obtain ⟨u, hu, hu2⟩ := Option.map_eq_some_iff.1 hT
  have hag : (isAgg t).run P w = .ok true w := by
    cases u <;> simp at hu2 <;> simp [isAgg, run_underlying hu]
  unfold szOf at hz
  obtain ⟨i, hi1, hi2⟩ := Option.map_eq_some_iff.1 hz
  simp [part, hag, sizeOf, typeInfo, hi1, hi2]
section
variable {P : Program} {d : Nat} {xs : Array Value} {w : World}
theorem eqFields_step {f : Field} {fs : List Field} {a : Value} (hn : (f.name == "_") = false) (hp : (part f.type xs f.offset).run P w = .ok a w) (he : (Op.equalIn d f.type a a).run P w = .ok true w) (k : (Op.eqFields d xs xs fs).run P w = .ok true w) : (Op.eqFields d xs xs (f :: fs)).run P w = .ok true w := by
  have hn' : f.name ≠ "_" := by simpa using hn
  simp only [Op.eqFields, hn', ne_eq, not_false_eq_true, if_true, Sem.run_bind, hp, he, Result.andThen_ok]
  exact k
theorem eqFields_nil : (Op.eqFields d xs xs []).run P w = .ok true w := rfl
theorem eqr_int {t : TypeId} {kd : IntKind} {a : Int} (ht : P.underlying t = some (.int kd)) : (Op.equalIn (d + 1) t (.int .i64 a) (.int .i64 a)).run P w = .ok true w := by
  rw [run_equalIn_int w d t .i64 kd a a ht]; simp
theorem eqr_bool {t : TypeId} {a : Bool} (ht : P.underlying t = some .bool) : (Op.equalIn (d + 1) t (.bool a) (.bool a)).run P w = .ok true w := by
  rw [run_equalIn_bool' w d t a a ht]; simp
end
theorem eqItems_step {P : Program} {d : Nat} {e c i : Nat} {xs : Array Value} {w : World} {is : List Nat} {a : Value} (hp : (part e xs (i * c)).run P w = .ok a w) (he : (Op.equalIn d e a a).run P w = .ok true w) (k : (Op.eqItems d e c xs xs is).run P w = .ok true w) : (Op.eqItems d e c xs xs (i :: is)).run P w = .ok true w := by
  simp only [Op.eqItems, Sem.run_bind, hp, he, Result.andThen_ok]
  exact k
theorem eqItems_nil {P : Program} {d : Nat} {e c : Nat} {xs : Array Value} {w : World} : (Op.eqItems d e c xs xs []).run P w = .ok true w := rfl
theorem eq_array {P : Program} {w : World} (d : Nat) {t e n sz : Nat} (xs ys : Array Value) (hu : P.underlying t = some (.array n e)) (hi : szOf P e = some sz) (hc : P.cellsOf e = sz) (h : (Op.eqItems d e sz xs ys (List.range n)).run P w = .ok true w) : (Op.equalIn (d + 1) t (.agg xs) (.agg ys)).run P w = .ok true w := by
  unfold szOf at hi
  obtain ⟨i, hi1, hi2⟩ := Option.map_eq_some_iff.1 hi
  rw [run_equalIn_array (P := P) (w := w) d xs ys hu hi1, hc]
  exact h
/-- A slice of which only the length is told. -/
def Kd.hdr : Kd Nat where
  sz := 1
  K := fun _ _ x cs => ∃ A c, cs = [.slice A x c]
  len := by rintro w ok x cs ⟨A, c, rfl⟩; rfl
  one := by
    rintro w ok x cs ⟨A, c, rfl⟩ u hu
    rw [List.mem_singleton.1 hu]
    rfl
  move := by rintro w w1 ok x cs _ h; exact h
  mono := by rintro w ok ok' x cs _ h; exact h
theorem one_all {vs : List Value} (h : vs.all (fun v => v.oneCell') = true) : ∀ u ∈ vs, u.oneCell' = true := fun u hu => List.all_eq_true.1 h u hu
end Go.Proofs.Ytfhghnhgcdiknaa
