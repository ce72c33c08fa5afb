/- The rules of the small logic, operation by operation. No condition. -/
import Derived.Test.YtfhghnhgcdiknaaLib
namespace Go.Proofs.Ytfhghnhgcdiknaa
open Go.RowKit

/-! ### Closed facts about types and functions -/
def fnOk (P : Program) (g : Nat) : Bool := match P.funcs[g]? with
  | some fn => !(fn.name == "runtime.NumGoroutine") && !fn.body.isNone
  | none => false
def szOf (P : Program) (T : TypeId) : Option Nat := (P.info? T).map (·.size)
def isAggB (P : Program) (T : TypeId) : Option Bool := (P.underlying T).map fun | .struct _ | .array _ _ => true | _ => false
def zeroOf (P : Program) (T : TypeId) : Option (List Value) := ((P.info? T).bind (·.zero)).map fun z => z.cells.toList
def fieldOff (P : Program) (s : TypeId) (f : Nat) : Option Nat := match P.underlying s with
  | some (.struct fields) => match fields[f]? with
    | some fd => match szOf P fd.type with
      | some (_ + 1) => some fd.offset
      | _ => none
    | none => none
  | _ => none
/-- A slice type: its element's type and cells. -/
def elemOfP (P : Program) (t : TypeId) : Option (TypeId × Nat) := match P.underlying t with
  | some (.slice e) => (szOf P e).map fun s => (e, s)
  | _ => none
theorem add_plain (b o j : Nat) : (⟨b, o, none⟩ : Addr).add j = ⟨b, o + j, none⟩ := by unfold Addr.add; split <;> simp_all
/-- The cells from an address on. -/
def Cells (w : World) (b o : Nat) (cs : List Value) : Prop := ∀ j u, cs[j]? = some u → w.cell? ⟨b, o + j, none⟩ = some u
theorem Fr.arr {a : Act} {n : Nat} {L : Slots} (h : Fr a n L) {xs : Array Operand} {vs : List Value} (hx : Go.Proofs.Ytfhghnhgcdiknaa.evs L xs.toList = some vs) : xs.map a.eval = vs.toArray := by
  rw [← h.evs hx, ← Array.toList_map]
section
variable {P : Program} {n : Nat} {K : Slots → World → Prop} {L : Slots} {G : Nat} {w0 w w1 : World} {H H' R : List Res} {all : Array Oper} {l : List Oper} {d ty : Nat} {pos : String} {af : Array Edge}

/-- The operation leaves v, and the world. -/
def Runs (P : Program) (n : Nat) (L : Slots) (o : Oper) (v : Value) (w : World) : Prop := ∀ a, Fr a n L → (execOp a.eval o).run P w = .ok (.value v) w
theorem l_val {op : Op} {v : Value} (hd : Nat.blt d n = true) (hr : ∀ a, Fr a n L → (execOp a.eval ⟨some d, op, ty, pos, af, none⟩).run P w = .ok (.value v) w1)
    (k : Wl P n all l K ((d, v) :: L) w1) : Wl P n all (⟨some d, op, ty, pos, af, none⟩ :: l) K L w := by
  intro a ha
  refine wpList_plain rfl fun K' hK => ?_
  unfold Oper.wp
  rw [hr a ha]
  exact hK _ _ (k _ (ha.put hd v))
theorem l_r {op : Op} {v : Value} (hr : Runs P n L ⟨some d, op, ty, pos, af, none⟩ v w) (hd : Nat.blt d n = true)
    (k : Wl P n all l K ((d, v) :: L) w) : Wl P n all (⟨some d, op, ty, pos, af, none⟩ :: l) K L w := l_val hd hr k
theorem l_skip {op : Op} (hr : ∀ a, Fr a n L → (execOp a.eval ⟨none, op, ty, pos, af, none⟩).run P w = .ok .skip w1)
    (k : Wl P n all l K L w1) : Wl P n all (⟨none, op, ty, pos, af, none⟩ :: l) K L w := by
  intro a ha
  refine wpList_plain rfl fun K' hK => ?_
  unfold Oper.wp
  rw [hr a ha]
  exact hK _ _ (k _ ha)
theorem l_on {o : Option Tmp} {op : Op} {j dj : Nat} {b : Bool} (hj : (all[j]?).bind (·.dst) = some dj) (hb : get L dj = some (.bool b)) (hn : Nat.blt dj n = true)
    (k : Wl P n all (⟨o, op, ty, pos, af, none⟩ :: l) K L w) : Wl P n all (⟨o, op, ty, pos, af, some (j, b)⟩ :: l) K L w := by
  intro a ha
  have hy : yielded all a.tmps j = some b := by
    have h1 := ha.at_ _ _ hb
    have h2 : dj < a.tmps.size := by rw [ha.size]; simpa using hn
    simp only [Array.getD_eq_getD_getElem?, Array.getElem?_eq_getElem h2, Option.getD_some] at h1
    simp [yielded, hj, Array.getElem?_eq_getElem h2, h1]
  have h1 := k a ha
  simp only [wpList, Region.wanted, hy, beq_self_eq_true, if_true] at h1 ⊢
  exact h1
theorem l_off {op : Op} {j dj : Nat} {b c : Bool} (hj : (all[j]?).bind (·.dst) = some dj) (hb : get L dj = some (.bool b)) (hn : Nat.blt dj n = true) (hc : (b == c) = false) (hd : Nat.blt d n = true)
    (k : Wl P n all l K ((d, undef) :: L) w) : Wl P n all (⟨some d, op, ty, pos, af, some (j, c)⟩ :: l) K L w := by
  intro a ha
  have hy : yielded all a.tmps j = some b := by
    have h1 := ha.at_ _ _ hb
    have h2 : dj < a.tmps.size := by rw [ha.size]; simpa using hn
    simp only [Array.getD_eq_getD_getElem?, Array.getElem?_eq_getElem h2, Option.getD_some] at h1
    simp [yielded, hj, Array.getElem?_eq_getElem h2, h1]
  have hbc : (some b == some c) = false := by simpa using hc
  have h1 := k _ (ha.put hd undef)
  simp only [wpList, Region.wanted, hy, hbc]
  exact h1
theorem l_offu {op : Op} {j dj : Nat} {c : Bool} (hj : (all[j]?).bind (·.dst) = some dj) (hb : get L dj = some undef) (hn : Nat.blt dj n = true) (hd : Nat.blt d n = true)
    (k : Wl P n all l K ((d, undef) :: L) w) : Wl P n all (⟨some d, op, ty, pos, af, some (j, c)⟩ :: l) K L w := by
  intro a ha
  have hy : yielded all a.tmps j = none := by
    have h1 := ha.at_ _ _ hb
    have h2 : dj < a.tmps.size := by rw [ha.size]; simpa using hn
    simp only [Array.getD_eq_getD_getElem?, Array.getElem?_eq_getElem h2, Option.getD_some] at h1
    simp [yielded, hj, Array.getElem?_eq_getElem h2, h1, undef]
  have h1 := k _ (ha.put hd undef)
  simp only [wpList, Region.wanted, hy]
  exact h1
theorem r_move {x : Operand} {v : Value} (hx : ev L x = some v) : Runs P n L ⟨some d, .move x, ty, pos, af, none⟩ (v) w :=
  fun a ha => by simp [execOp, ha.ev hx]
theorem r_assign {x : Operand} {v : Value} (hx : ev L x = some v) : Runs P n L ⟨some d, .assign x, ty, pos, af, none⟩ (v) w :=
  fun a ha => by simp [execOp, ha.ev hx]
theorem r_pick {c x y : Operand} {b : Bool} {v u : Value} (hc : ev L c = some (.bool b)) (hx : ev L x = some v) (hy : ev L y = some u) : Runs P n L ⟨some d, .pick c x y, ty, pos, af, none⟩ (bif b then v else u) w :=
  fun a ha => by cases b <;> simp [execOp, ha.ev hc, ha.ev hx, ha.ev hy, asBool]
theorem r_pick_t {c x y : Operand} {v : Value} (hc : ev L c = some (.bool true)) (hx : ev L x = some v) : Runs P n L ⟨some d, .pick c x y, ty, pos, af, none⟩ (v) w :=
  fun a ha => by simp [execOp, ha.ev hc, ha.ev hx, asBool]
theorem r_pick_f {c x y : Operand} {u : Value} (hc : ev L c = some (.bool false)) (hy : ev L y = some u) : Runs P n L ⟨some d, .pick c x y, ty, pos, af, none⟩ (u) w :=
  fun a ha => by simp [execOp, ha.ev hc, ha.ev hy, asBool]
theorem r_nilcheck {x : Operand} {p : Addr} (hx : ev L x = some (.pointer (some p))) : Runs P n L ⟨some d, .nilCheck x, ty, pos, af, none⟩ (.pointer (some p)) w :=
  fun a ha => by simp [execOp, ha.ev hx]
theorem r_extract {x : Operand} {i : Nat} {vs : Array Value} {v : Value} (hx : ev L x = some (.tuple vs)) (hv : vs[i]? = some v) : Runs P n L ⟨some d, .extract x i, ty, pos, af, none⟩ (v) w :=
  fun a ha => by simp [execOp, ha.ev hx, Instr.extract, hv]
theorem r_makefunc {fn : Fn} {fs xs : Array Operand} {us vs : List Value} (hf : evs L fs.toList = some us) (hx : evs L xs.toList = some vs) : Runs P n L ⟨some d, .makeFunc fn fs xs, ty, pos, af, none⟩ (.func fn us.toArray vs.toArray) w :=
  fun a ha => by
    have h1 : fs.map a.eval = us.toArray := ha.arr hf
    have h2 : xs.map a.eval = vs.toArray := ha.arr hx
    simp [execOp, Instr.makeFunc, h1, h2]

/-! ### Numbers and bools -/
theorem r_cmp {op : BinOp} {x y : Operand} {t t' : TypeId} {kd : IntKind} {p q : Int} {b : Bool} (hx : ev L x = some (.int kd p)) (hy : ev L y = some (.int kd q))
    (ho : (match op with | .eql => some (p == q) | .neq => some (p != q) | .lss => some (decide (p < q)) | .leq => some (decide (p ≤ q)) | .gtr => some (decide (p > q)) | .geq => some (decide (p ≥ q)) | _ => none) = some b) : Runs P n L ⟨some d, .binOp op t x y t', ty, pos, af, none⟩ (.bool b) w :=
  fun a ha => by
    cases op <;> simp only [Option.some.injEq, reduceCtorEq] at ho <;> subst ho <;> simp [execOp, eqGuard, binOp, Op.intCmp, ha.ev hx, ha.ev hy]
theorem r_arith {op : BinOp} {x y : Operand} {t t' : TypeId} {kd : IntKind} {p q r : Int} (hx : ev L x = some (.int kd p)) (hy : ev L y = some (.int kd q))
    (ho : (match op with | .add => some (kd.wrap (p + q)) | .sub => some (kd.wrap (p - q)) | .mul => some (kd.wrap (p * q)) | _ => none) = some r) : Runs P n L ⟨some d, .binOp op t x y t', ty, pos, af, none⟩ (.int kd r) w :=
  fun a ha => by
    cases op <;> simp only [Option.some.injEq, reduceCtorEq] at ho <;> subst ho <;> simp [execOp, eqGuard, binOp, Op.intArith, ha.ev hx, ha.ev hy]
/-- One more, where it fits. -/
theorem r_inc {x : Operand} {t t' : TypeId} {m : Nat} (hx : ev L x = some (.int .i64 (m : Int))) (hm : m < 9223372036854775807) : Runs P n L ⟨some d, .binOp .add t x (.const (.int .i64 1)) t', ty, pos, af, none⟩ (.int .i64 ((m + 1 : Nat) : Int)) w :=
  r_arith (r := ((m + 1 : Nat) : Int)) hx rfl (by
    have : IntKind.i64.wrap ((m : Int) + 1) = ((m + 1 : Nat) : Int) := by simp [IntKind.wrap, IntKind.bits, IntKind.signed]; omega
    simp [this])
theorem r_not {x : Operand} {t : TypeId} {b : Bool} (hx : ev L x = some (.bool b)) : Runs P n L ⟨some d, .unOp .not t x, ty, pos, af, none⟩ (.bool (!b)) w :=
  fun a ha => by simp [execOp, Op.unary, ha.ev hx]

theorem r_len {x : Operand} {A : Option Addr} {m c t : Nat} {es : TypeId × Nat} (hx : ev L x = some (.slice A m c)) (ht : elemOfP P t = some es) : Runs P n L ⟨some d, .call { callee := .builtin .len, args := #[x], argTypes := #[t] }, ty, pos, af, none⟩ (.int .i64 (m : Int)) w :=
  fun a ha => by
    unfold elemOfP at ht
    split at ht
    · rename_i e hu
      simp [execOp, resolve, invoke, builtin, Builtin.len_, run_underlying hu, ha.ev hx, goInt]
    · cases ht
/-! ### Addresses -/
theorem r_field {x : Operand} {s f b o c : Nat} (hx : ev L x = some (.pointer (some ⟨b, o, none⟩))) (hf : fieldOff P s f = some c) : Runs P n L ⟨some d, .fieldAddr s x f, ty, pos, af, none⟩ (.pointer (some ⟨b, o + c, none⟩)) w :=
  fun a ha => by
    unfold fieldOff at hf
    split at hf
    · rename_i fields hu
      split at hf
      · rename_i fd hfd
        split at hf
        · rename_i m hs
          injection hf with hf
          subst hf
          unfold szOf at hs
          obtain ⟨i, hi, hi2⟩ := Option.map_eq_some_iff.1 hs
          simp [execOp, Instr.fieldAt, ha.ev hx, run_underlying hu, hfd, Instr.sureAddr, fieldPlace, sizeOf, typeInfo, hi, hi2, add_plain]
        · cases hf
      · cases hf
    · cases hf
theorem r_index {x i : Operand} {t b o m c sz e : Nat} {kd : IntKind} {p : Int} (hx : ev L x = some (.slice (some ⟨b, o, none⟩) m c)) (hi : ev L i = some (.int kd p)) (h0 : 0 ≤ p) (h1 : p < m) (ht : elemOfP P t = some (e, sz)) : Runs P n L ⟨some d, .indexAddr t x i, ty, pos, af, none⟩ (.pointer (some ⟨b, o + p.toNat * sz, none⟩)) w :=
  fun a ha => by
    unfold elemOfP at ht
    split at ht
    · rename_i e' hu
      unfold szOf at ht
      simp only [Option.map_map, Option.map_eq_some_iff] at ht
      obtain ⟨i, hi1, hi2⟩ := ht
      simp at hi2
      obtain ⟨rfl, rfl⟩ := hi2
      simp [execOp, Instr.indexAt, ha.ev hx, ha.ev hi, asIntOf, run_underlying hu, sizeOf, typeInfo, hi1, add_plain, h0, h1]
    · cases ht

theorem r_indexA {x i : Operand} {A : Option Addr} {t b o m c sz e : Nat} {kd : IntKind} {p : Int} (hx : ev L x = some (.slice A m c)) (hA : A = some ⟨b, o, none⟩) (hi : ev L i = some (.int kd p)) (h0 : 0 ≤ p) (h1 : p < m) (ht : elemOfP P t = some (e, sz)) : Runs P n L ⟨some d, .indexAddr t x i, ty, pos, af, none⟩ (.pointer (some ⟨b, o + p.toNat * sz, none⟩)) w := by
  subst hA
  exact r_index hx hi h0 h1 ht
/-! ### Memory -/
theorem heap_cell {w : World} {b : Nat} {cs : List Value} {T : TypeId} (h : w.heap[b]? = some (.cells cs.toArray T (0, 0))) {o : Nat} {v : Value} (hv : cs[o]? = some v) : w.cell? ⟨b, o, none⟩ = some v := by
  simp [World.cell?, h, hv]
theorem heap_cells {w : World} {b : Nat} {cs : List Value} {T : TypeId} (h : w.heap[b]? = some (.cells cs.toArray T (0, 0))) (o : Nat) : Cells w b o (cs.drop o) := by
  intro j u hu
  rw [List.getElem?_drop] at hu
  exact heap_cell h hu
theorem Cells.on {b o : Nat} {cs : List Value} (h : Cells w0 b o cs) (hs : St G w0 w H) : Cells w b o cs := fun j u hu => by
  have h1 := h j u hu
  exact (hs.below.cell (p := ⟨b, o + j, none⟩) (World.block_lt_of_cell? w0 _ h1)).trans h1
theorem cell_on {p : Addr} {v : Value} (h : w0.cell? p = some v) (hs : St G w0 w H) : w.cell? p = some v := (hs.below.cell (World.block_lt_of_cell? w0 _ h)).trans h
theorem st_new (hs : St G w0 w H) (cs : List Value) (T : TypeId) : St G w0 (w.alloc (.cells cs.toArray T)) (.pt w.heap.size cs T :: H) := by
  have hb : Ext w (w.alloc (.cells cs.toArray T)) := Ext.alloc _ _
  have h1 := hs.ext hb
  have hn : (w.alloc (.cells cs.toArray T)).heap[w.heap.size]? = some (.cells cs.toArray T (0, 0)) := by simpa using heap_alloc_new w (.cells cs.toArray T)
  refine ⟨h1.below, h1.drawn, fun r hr => ?_, fun r hr => ?_, List.pairwise_cons.2 ⟨fun r hr b hb1 hb2 => ?_, h1.sep⟩⟩
  · rcases List.mem_cons.1 hr with rfl | hr
    · intro w' hw'
      exact (hw' w.heap.size (.inr rfl) (by simp)).trans hn
    · exact h1.foot r hr
  · rcases List.mem_cons.1 hr with rfl | hr
    · intro b hb
      have : b = w.heap.size := hb
      subst this
      exact ⟨hs.size, by simp⟩
    · exact h1.dom r hr
  · have : b = w.heap.size := hb1
    subst this
    exact absurd (hs.dom r hr _ hb2).2 (Nat.lt_irrefl _)
theorem l_alloc {T : TypeId} {zs : List Value} (hz : zeroOf P T = some zs) (hd : Nat.blt d n = true) (hs : St G w0 w H)
    (k : ∀ w1 b, w.heap.size = b → Ext w w1 → St G w0 w1 (.pt b zs T :: H) → Wl P n all l K ((d, .pointer (some ⟨b, 0, none⟩)) :: L) w1) : Wl P n all (⟨some d, .alloc T, ty, pos, af, none⟩ :: l) K L w := by
  refine l_val (v := .pointer (some ⟨w.heap.size, 0, none⟩)) (w1 := w.alloc (.cells zs.toArray T)) hd (fun a ha => ?_) (k _ _ rfl (Ext.alloc _ _) (st_new hs zs T))
  unfold zeroOf at hz
  obtain ⟨z, hz1, hz2⟩ := Option.map_eq_some_iff.1 hz
  obtain ⟨i, hi1, hi2⟩ := Option.bind_eq_some_iff.1 hz1
  have hc : z.cells = zs.toArray := by rw [← hz2]
  simp [execOp, Instr.alloc, zeroValue, typeInfo, hi1, hi2, newVar, newRow, hc]
theorem l_box {T : TypeId} {x : Operand} {v : Value} {cs : List Value} (hx : ev L x = some v) (hc : v.cells = cs.toArray) (hd : Nat.blt d n = true) (hs : St G w0 w H)
    (k : ∀ w1 b, w.heap.size = b → Ext w w1 → St G w0 w1 (.pt b cs T :: H) → Wl P n all l K ((d, .pointer (some ⟨b, 0, none⟩)) :: L) w1) : Wl P n all (⟨some d, .box T x, ty, pos, af, none⟩ :: l) K L w := by
  refine l_val (v := .pointer (some ⟨w.heap.size, 0, none⟩)) (w1 := w.alloc (.cells cs.toArray T)) hd (fun a ha => ?_) (k _ _ rfl (Ext.alloc _ _) (st_new hs cs T))
  simp [execOp, Instr.box, newVar, newRow, ha.ev hx, hc]
/-- A scalar read. -/
theorem r_load1 {x : Operand} {T : TypeId} {b o : Nat} {v : Value} (hx : ev L x = some (.pointer (some ⟨b, o, none⟩))) (hT : isAggB P T = some false) (hc : w.cell? ⟨b, o, none⟩ = some v) : Runs P n L ⟨some d, .load T x, ty, pos, af, none⟩ (v) w :=
  fun a ha => by
    unfold isAggB at hT
    obtain ⟨u, hu, hu2⟩ := Option.map_eq_some_iff.1 hT
    have hag : (isAgg T).run P w = .ok false w := by
      cases u <;> simp at hu2 <;> simp [isAgg, run_underlying hu]
    simp [execOp, Instr.loadAt, ha.ev hx, Instr.sureAddr, loadVar, hag, hc]
/-- A whole struct or array read. -/
theorem r_loadN {x : Operand} {T : TypeId} {b o : Nat} {cs : List Value} (hx : ev L x = some (.pointer (some ⟨b, o, none⟩))) (hT : isAggB P T = some true) (hc : Cells w b o cs) (hz : szOf P T = some cs.length) : Runs P n L ⟨some d, .load T x, ty, pos, af, none⟩ (.agg cs.toArray) w :=
  fun a ha => by
    unfold isAggB at hT
    obtain ⟨u, hu, hu2⟩ := Option.map_eq_some_iff.1 hT
    have hag : (isAgg T).run P w = .ok true w := by
      cases u <;> simp at hu2 <;> simp [isAgg, run_underlying hu]
    unfold szOf at hz
    obtain ⟨i, hi1, hi2⟩ := Option.map_eq_some_iff.1 hz
    have hl := run_loadCells_list (P := P) w ⟨b, o, none⟩ cs (fun j u hu => by rw [add_plain]; exact hc j u hu)
    simp [execOp, Instr.loadAt, ha.ev hx, Instr.sureAddr, loadVar, hag, sizeOf, typeInfo, hi1, hi2, hl]
theorem r_load1p {x : Operand} {T T0 : TypeId} {b o : Nat} {v : Value} {cs : List Value} (hx : ev L x = some (.pointer (some ⟨b, o, none⟩))) (hs : St G w0 w H) (hm : Repl (.pt b cs T0) (.pt b cs T0) H H) (hT : isAggB P T = some false) (hv : cs[o]? = some v) : Runs P n L ⟨some d, .load T x, ty, pos, af, none⟩ (v) w :=
  r_load1 hx hT (heap_cell (hs.get hm.mem) hv)
theorem r_loadNp {x : Operand} {T T0 : TypeId} {b : Nat} {cs : List Value} (hx : ev L x = some (.pointer (some ⟨b, 0, none⟩))) (hs : St G w0 w H) (hm : Repl (.pt b cs T0) (.pt b cs T0) H H) (hT : isAggB P T = some true) (hz : szOf P T = some cs.length) : Runs P n L ⟨some d, .load T x, ty, pos, af, none⟩ (.agg cs.toArray) w :=
  r_loadN hx hT (by have h := heap_cells (hs.get hm.mem) 0; simpa using h) hz
theorem run_storeVar {w : World} {T T0 : TypeId} {b o : Nat} {cur vs : List Value} {v : Value} (hg : w.heap[b]? = some (.cells cur.toArray T0 (0, 0))) (hv : v.cells = vs.toArray) (hz : szOf P T = some vs.length) (h1 : ∀ u ∈ vs, u.oneCell' = true) (hfit : o + vs.length ≤ cur.length) :
    (storeVar T ⟨b, o, none⟩ v).run P w = .ok () (w.setRow b (cur.take o ++ vs ++ cur.drop (o + vs.length)).toArray) := by
  unfold szOf at hz
  obtain ⟨i, hi1, hi2⟩ := Option.map_eq_some_iff.1 hz
  have hst := run_storeCells_at P b o T0 vs 0 cur.toArray w hg (by simpa using hfit) h1
  simp only [Nat.add_zero] at hst
  simp [storeVar, hv, sizeOf, typeInfo, hi1, hi2, hst]
theorem st_write (hG : G ≤ w0.heap.size) (hs : St G w0 w H) {b : Nat} {cs cs' : List Value} {T0 : TypeId} (hm : Repl (.pt b cs T0) (.pt b cs' T0) H H') : St G w0 (w.setRow b cs'.toArray) H' := by
  obtain ⟨H0, h1, h2⟩ := hm.front
  have hs1 := hs.perm h1
  have hg : w.heap[b]? = some (.cells cs.toArray T0 (0, 0)) := hs1.get (r := .pt b cs T0) List.mem_cons_self
  have hn : (w.setRow b cs'.toArray).heap[b]? = some (.cells cs'.toArray T0 (0, 0)) := setRow_heap w b cs.toArray cs'.toArray T0 _ hg
  have hsz : (w.setRow b cs'.toArray).heap.size = w.heap.size := by simp
  refine (hs1.write (w1 := w.setRow b cs'.toArray) (r' := .pt b cs' T0) hG (Nat.le_refl _) rfl rfl rfl (by rw [hsz]; exact Nat.le_refl _) (fun k _ hk => setRow_other w b k _ (fun e => hk e)) (fun k hk => ?_) ?_).perm h2.symm
  · have : k = b := hk
    subst this
    exact ⟨by rw [hsz]; exact (Array.getElem?_eq_some_iff.1 hg).1, .inl rfl⟩
  · intro w' hw'
    exact (hw' b (.inr rfl) (by rw [hsz]; exact (Array.getElem?_eq_some_iff.1 hg).1)).trans hn
/-- A store into a block of one's own. -/
theorem l_store {x y : Operand} {T T0 : TypeId} {b o : Nat} {v : Value} {vs cs cs' : List Value} (hx : ev L x = some (.pointer (some ⟨b, o, none⟩))) (hy : ev L y = some v) (hv : v.cells = vs.toArray) (hz : szOf P T = some vs.length) (h1 : ∀ u ∈ vs, u.oneCell' = true)
    (hG : G ≤ w0.heap.size) (hs : St G w0 w H) (hm : Repl (.pt b cs T0) (.pt b cs' T0) H H') (hfit : o + vs.length ≤ cs.length) (he : cs.take o ++ vs ++ cs.drop (o + vs.length) = cs')
    (k : ∀ w1, w1.heap.size = w.heap.size → (∀ k, k ≠ b → w1.heap[k]? = w.heap[k]?) → St G w0 w1 H' → Wl P n all l K L w1) : Wl P n all (⟨none, .store T x y, ty, pos, af, none⟩ :: l) K L w := by
  subst he
  refine l_skip (w1 := w.setRow b _) (fun a ha => ?_) (k _ (by simp) (fun k hk => setRow_other w b k _ hk) (st_write hG hs hm))
  have h2 := run_storeVar (P := P) (T := T) (hs.get hm.mem) hv hz h1 hfit
  simp [execOp, Instr.storeAt, ha.ev hx, ha.ev hy, Instr.sureAddr, h2]

theorem l_store1 {x y : Operand} {T T0 : TypeId} {b o : Nat} {v : Value} {cs : List Value} (hx : ev L x = some (.pointer (some ⟨b, o, none⟩))) (hy : ev L y = some v) (h1 : v.oneCell' = true) (hz : szOf P T = some 1)
    (hG : G ≤ w0.heap.size) (hs : St G w0 w H) (hm : Repl (.pt b cs T0) (.pt b (cs.set o v) T0) H H') (hfit : Nat.blt o cs.length = true)
    (k : ∀ w1, w1.heap.size = w.heap.size → (∀ k, k ≠ b → w1.heap[k]? = w.heap[k]?) → St G w0 w1 H' → Wl P n all l K L w1) : Wl P n all (⟨none, .store T x y, ty, pos, af, none⟩ :: l) K L w := by
  have hfit' : o < cs.length := by simpa using hfit
  have hv : v.cells = [v].toArray := by cases v <;> simp [Value.oneCell'] at h1 <;> rfl
  exact l_store (vs := [v]) hx hy hv hz (fun u hu => by rw [List.mem_singleton.1 hu]; exact h1) hG hs hm (by simp; omega) (by
    rw [List.set_eq_take_append_cons_drop, if_pos hfit']; simp) k
theorem l_storeAll {x y : Operand} {T T0 : TypeId} {b : Nat} {vs cs : List Value} (hx : ev L x = some (.pointer (some ⟨b, 0, none⟩))) (hy : ev L y = some (.agg vs.toArray)) (hz : szOf P T = some vs.length) (h1 : ∀ u ∈ vs, u.oneCell' = true)
    (hG : G ≤ w0.heap.size) (hs : St G w0 w H) (hm : Repl (.pt b cs T0) (.pt b vs T0) H H') (hfit : cs.length = vs.length)
    (k : ∀ w1, w1.heap.size = w.heap.size → (∀ k, k ≠ b → w1.heap[k]? = w.heap[k]?) → St G w0 w1 H' → Wl P n all l K L w1) : Wl P n all (⟨none, .store T x y, ty, pos, af, none⟩ :: l) K L w :=
  l_store hx hy rfl hz h1 hG hs hm (by omega) (by simp [← hfit]) k
theorem r_loadSp {x : Operand} {T T0 : TypeId} {b o m : Nat} {cs : List Value} (hx : ev L x = some (.pointer (some ⟨b, o, none⟩))) (hs : St G w0 w H) (hm : Repl (.pt b cs T0) (.pt b cs T0) H H) (hT : isAggB P T = some true) (hz : szOf P T = some m) (hfit : o + m ≤ cs.length) : Runs P n L ⟨some d, .load T x, ty, pos, af, none⟩ (.agg ((cs.drop o).take m).toArray) w := by
  have h := heap_cells (hs.get hm.mem) o
  refine r_loadN hx hT (fun j u hu => h j u ?_) (by rw [hz]; simp; omega)
  rw [List.getElem?_take] at hu
  split at hu
  · exact hu
  · cases hu

/-! ### Calls -/
theorem run_callFunc {g : Nat} (hg : fnOk P g = true) (args : Array Value) : (callFunc g args).run P w = .ok (.enter g args) w := by
  unfold fnOk at hg
  split at hg
  · rename_i fn hf
    simp only [Bool.and_eq_true, Bool.not_eq_true'] at hg
    have h1 : ¬ fn.name = "runtime.NumGoroutine" := by simpa using hg.1
    have h2 : ¬ fn.body = none := by cases hb : fn.body <;> simp [hb] at hg ⊢
    simp [callFunc, hf, h1, h2]
  · cases hg
theorem l_call {f : Operand} {args : Array Operand} {at_ : Array TypeId} {g : Nat} {cap vs : List Value} {R : Ending → World → Prop} (hf : ev L f = some (.func (.func g) #[] cap.toArray)) (ha : evs L args.toList = some vs) (hg : fnOk P g = true) (hd : Nat.blt d n = true)
    (hc : Calls P g (vs ++ cap).toArray w R) (k : ∀ e w1, R e w1 → ∃ v, e = .returned v ∧ Wl P n all l K ((d, v) :: L) w1) : Wl P n all (⟨some d, .call { callee := .value f, args := args, argTypes := at_ }, ty, pos, af, none⟩ :: l) K L w := by
  intro a hfr
  refine wpList_plain rfl fun K' hK => ?_
  unfold Oper.wp
  have h1 : args.map a.eval = vs.toArray := hfr.arr ha
  have hr : (execOp a.eval ⟨some d, .call { callee := .value f, args := args, argTypes := at_ }, ty, pos, af, none⟩).run P w = .ok (.enter g (vs ++ cap).toArray) w := by
    simp [execOp, resolve, Deferred.ofValue, hfr.ev hf, h1, invoke, run_callFunc hg]
  rw [hr]
  refine hc.mono fun e w1 he => ?_
  obtain ⟨v, rfl, h2⟩ := k e w1 he
  exact hK _ _ (h2 _ (hfr.put hd v))

/-! ### A function's begin and end -/
def argSlots : Nat → List Value → Slots
  | _, [] => []
  | i, v :: r => (i, v) :: argSlots (i + 1) r
theorem get_argSlots : ∀ (vs : List Value) (i t : Nat) (v : Value), get (argSlots i vs) t = some v → i ≤ t ∧ vs[t - i]? = some v
  | [], _, _, _, h => by simp [argSlots, get] at h
  | u :: r, i, t, v, h => by
    simp only [argSlots, get] at h
    split at h
    · rename_i e
      have e' := Nat.eq_of_beq_eq_true e
      subst e'
      injection h with h
      subst h
      exact ⟨Nat.le_refl _, by simp⟩
    · rename_i e
      obtain ⟨h1, h2⟩ := get_argSlots r (i + 1) t v h
      refine ⟨by omega, ?_⟩
      have : t - i = (t - (i + 1)) + 1 := by omega
      rw [this, List.getElem?_cons_succ]
      exact h2
def fin (P : Program) (n : Nat) (fn : Func) (R : Ending → World → Prop) : Post := fun e L w =>
  (e = .normal ∨ e = .ret) ∧ ∀ a, Fr a n L → ∃ v, (results fn a.tmps).run P w = .ok v w ∧ R (.returned v) w
theorem q_call {g : Nat} {fn : Func} {c : Code} {args : List Value} {R : Ending → World → Prop} (hf : P.funcs[g]? = some fn) (hb : fn.body = some c) (hn : fn.ntmps = n) (hl : Nat.ble args.length n = true)
    (h : Wps P n [.c c] (fin P n fn R) (argSlots 0 args) w) : Calls P g args.toArray w R := by
  refine calls_of_wp hf hb (Code.wp_mono ?_ (h _ ⟨?_, rfl, fun t v ht => ?_⟩))
  · intro e a' w' ⟨L', h1, he, h2⟩
    obtain ⟨v, h3, h4⟩ := h2 a' h1
    rcases he with rfl | rfl
    · exact ⟨h1.defers, v, h3, h4⟩
    · exact ⟨h1.defers, v, h3, h4⟩
  · have := Nat.le_of_ble_eq_true hl
    simp [hn]
    omega
  · obtain ⟨_, h2⟩ := get_argSlots args 0 t v ht
    have hlt := (List.getElem?_eq_some_iff.1 h2).1
    simp only [Nat.sub_zero] at h2 hlt
    have h3 : args[t] = v := by rw [List.getElem?_eq_getElem hlt] at h2; exact Option.some.inj h2
    simp [Array.getD_eq_getD_getElem?, Array.getElem?_append, hlt, h3]
theorem run_isAgg {T : TypeId} {b : Bool} (hT : isAggB P T = some b) : (isAgg T).run P w = .ok b w := by
  unfold isAggB at hT
  obtain ⟨u, hu, hu2⟩ := Option.map_eq_some_iff.1 hT
  cases u <;> simp at hu2 <;> subst hu2 <;> simp [isAgg, run_underlying hu]
theorem run_loadVarN {T : TypeId} {b o : Nat} {cs : List Value} (hT : isAggB P T = some true) (hz : szOf P T = some cs.length) (hc : Cells w b o cs) : (loadVar T ⟨b, o, none⟩).run P w = .ok (.agg cs.toArray) w := by
  unfold szOf at hz
  obtain ⟨i, hi1, hi2⟩ := Option.map_eq_some_iff.1 hz
  have hl := run_loadCells_list (P := P) w ⟨b, o, none⟩ cs (fun j u hu => by rw [add_plain]; exact hc j u hu)
  simp [loadVar, run_isAgg hT, sizeOf, typeInfo, hi1, hi2, hl]
theorem run_loadVar1 {T : TypeId} {b o : Nat} {v : Value} (hT : isAggB P T = some false) (hc : w.cell? ⟨b, o, none⟩ = some v) : (loadVar T ⟨b, o, none⟩).run P w = .ok v w := by
  simp [loadVar, run_isAgg hT, hc]
inductive Rs (P : Program) (L : Slots) (w : World) : List ResultVar → List Value → Prop
  | nil : Rs P L w [] []
  | tmp {t v r vs} : get L t = some v → Rs P L w r vs → Rs P L w (.tmp t :: r) (v :: vs)
  | cellN {t T b o cs r vs} : get L t = some (.pointer (some ⟨b, o, none⟩)) → isAggB P T = some true → szOf P T = some cs.length → Cells w b o cs → Rs P L w r vs → Rs P L w (.cell t T :: r) (.agg cs.toArray :: vs)
  | cell1 {t T b o v r vs} : get L t = some (.pointer (some ⟨b, o, none⟩)) → isAggB P T = some false → w.cell? ⟨b, o, none⟩ = some v → Rs P L w r vs → Rs P L w (.cell t T :: r) (v :: vs)
def resV : List Value → Value
  | [v] => v
  | vs => .tuple vs.toArray
def resOne (tmps : Array Value) : ResultVar → Sem Value
  | .tmp t => pure (tmps.getD t undef)
  | .cell a t => do loadVar t (← asAddr (tmps.getD a undef))
theorem asAddr_some (p : Addr) : asAddr (.pointer (some p)) = pure p := rfl
theorem run_results {a : Act} (ha : Fr a n L) {rs : List ResultVar} {vs : List Value} (h : Rs P L w rs vs) : (rs.mapM (resOne a.tmps)).run P w = .ok vs w := by
  induction h with
  | nil => rfl
  | tmp h _ ih =>
    simp only [List.mapM_cons, Sem.run_bind, ih, resOne, ha.at_ _ _ h, Sem.run_pure, Result.andThen_ok]
  | cellN h hT hz hc _ ih =>
    simp only [List.mapM_cons, Sem.run_bind, ih, resOne, ha.at_ _ _ h, asAddr_some, Sem.run_pure, Result.andThen_ok, run_loadVarN hT hz hc]
  | cell1 h hT hc _ ih =>
    simp only [List.mapM_cons, Sem.run_bind, ih, resOne, ha.at_ _ _ h, asAddr_some, Sem.run_pure, Result.andThen_ok, run_loadVar1 hT hc]
theorem results_eq (fn : Func) (tmps : Array Value) : results fn tmps = (do let vs ← fn.results.mapM (resOne tmps); pure (if h : vs.size = 1 then vs[0] else .tuple vs)) := by
  unfold results
  congr 2
theorem q_done {fn : Func} {e : Exit} {R : Ending → World → Prop} {vs : List Value} (he : e = .normal ∨ e = .ret) (h : Rs P L w fn.results.toList vs) (hR : R (.returned (resV vs)) w) : fin P n fn R e L w := by
  refine ⟨he, fun a ha => ⟨resV vs, ?_, hR⟩⟩
  have h1 := run_results ha h
  rw [results_eq, Array.mapM_eq_mapM_toList]
  simp only [Sem.run_bind, Sem.run_map, h1, Result.andThen_ok, Sem.run_pure]
  match vs with
  | [] => simp [resV]
  | [v] => simp [resV]
  | u :: v :: r => simp [resV]
theorem ret_bool {a b : Bool} (h : a = b) : Ending.returned (resV [.bool a]) = .returned (.bool b) := by rw [h]; rfl
theorem ret_int {k : IntKind} {a b : Int} (h : a = b) : Ending.returned (resV [.int k a]) = .returned (.int k b) := by rw [h]; rfl
end
end Go.Proofs.Ytfhghnhgcdiknaa
