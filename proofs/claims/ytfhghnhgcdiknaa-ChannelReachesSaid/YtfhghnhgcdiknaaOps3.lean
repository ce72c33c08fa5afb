/- More rules of the small logic: cuts of slices, make, max and min, equality of bools, pointers, a slice against nil; a cut in the code. No condition. -/
import Derived.Test.YtfhghnhgcdiknaaData
import Derived.Deep.OwnRows
namespace Go.Proofs.Ytfhghnhgcdiknaa
open Go.RowKit
section
variable {P : Program} {n : Nat} {Q : Post} {K : Slots → World → Prop} {L : Slots} {G : Nat} {w0 w w1 : World} {H R : List Res} {all : Array Oper} {l : List Oper} {d ty : Nat} {pos : String} {af : Array Edge} {s : List It}
/-- What follows is walked once, from J. -/
theorem s_cut {c : Code} (J : Slots → World → Prop) (h : Wps P n (.c c :: .again J :: s) Q L w) (k : ∀ L w, J L w → Wps P n s Q L w) : Wps P n (.c c :: s) Q L w := by
  intro a ha
  refine Code.wp_mono ?_ (h a ha)
  intro e a' w' ⟨L', h1, h2⟩
  refine ⟨L', h1, ?_⟩
  cases e with
  | normal => exact k L' w' h2
  | exit id => exact h2
  | goto l => exact h2
  | ret => exact h2
  | panic ch => exact h2
  | outgrown => exact h2
theorem r_max {x y : Operand} {ts : Array TypeId} {kd : IntKind} {p q : Int} (hx : ev L x = some (.int kd p)) (hy : ev L y = some (.int kd q)) : Runs P n L ⟨some d, .call { callee := .builtin .max, args := #[x, y], argTypes := ts }, ty, pos, af, none⟩ (.int kd (max p q)) w :=
  fun a ha => by
    simp only [execOp, resolve, invoke, builtin, Builtin.max_, Builtin.max2, List.map_toArray, List.map_cons, List.map_nil, ha.ev hx, ha.ev hy, Sem.run_bind, Sem.run_pure, Result.andThen_ok, List.foldlM_cons, List.foldlM_nil]
    congr 3
    omega
theorem r_min {x y : Operand} {ts : Array TypeId} {kd : IntKind} {p q : Int} (hx : ev L x = some (.int kd p)) (hy : ev L y = some (.int kd q)) : Runs P n L ⟨some d, .call { callee := .builtin .min, args := #[x, y], argTypes := ts }, ty, pos, af, none⟩ (.int kd (min p q)) w :=
  fun a ha => by
    simp only [execOp, resolve, invoke, builtin, Builtin.min_, Builtin.min2, List.map_toArray, List.map_cons, List.map_nil, ha.ev hx, ha.ev hy, Sem.run_bind, Sem.run_pure, Result.andThen_ok, List.foldlM_cons, List.foldlM_nil]
    congr 3
    omega
/-- Where a cut begins. -/
def cutA (A : Option Addr) (c lo sz : Nat) : Option Addr := if c = lo then A else A.map (·.add (lo * sz))
theorem r_slice {x : Operand} {lo hi mx : Option Operand} {A : Option Addr} {t e sz m c : Nat} {vl vh vm : Option Value} {l' h' m' : Nat} (hx : ev L x = some (.slice A m c)) (ht : elemOfP P t = some (e, sz))
    (hl : lo.map (ev L) = vl.map some) (hh : hi.map (ev L) = vh.map some) (hm : mx.map (ev L) = vm.map some)
    (el : (match vl with | none => l' = 0 | some v => v = .int .i64 (l' : Int))) (eh : (match vh with | none => h' = m ∧ vm = none | some v => v = .int .i64 (h' : Int))) (em : (match vm with | none => m' = c | some v => v = .int .i64 (m' : Int))) (h1 : l' ≤ h') (h2 : h' ≤ m') (h3 : m' ≤ c) (h4 : m ≤ c) :
    Runs P n L ⟨some d, .slice t x lo hi mx, ty, pos, af, none⟩ (.slice (cutA A m' l' sz) (h' - l') (m' - l')) w :=
  fun a ha => by
    unfold elemOfP at ht
    split at ht
    · rename_i e' hu
      unfold szOf at ht
      simp only [Option.map_map, Option.map_eq_some_iff] at ht
      obtain ⟨i, hi1, hi2⟩ := ht
      simp at hi2
      obtain ⟨rfl, rfl⟩ := hi2
      have ex : ∀ {o : Option Operand} {v : Option Value}, o.map (ev L) = v.map some → o.map a.eval = v := by
        intro o v h
        cases o with
        | none => cases v <;> simp at h ⊢
        | some z => cases v with
          | none => simp at h
          | some u =>
            simp only [Option.map_some, Option.some.injEq] at h
            simp [ha.ev h]
      have e1 := ex hl
      have e2 := ex hh
      have e3 := ex hm
      have hml : (m' = l') = (m' = l') := rfl
      cases vl with
      | none =>
        simp only at el
        subst el
        cases vh with
        | none =>
          obtain ⟨rfl, rfl⟩ := eh
          simp only at em
          subst em
          simp [execOp, Instr.sliceAt, Instr.slice, ha.ev hx, run_underlying hu, e1, e2, e3, Instr.sliceBounds, sizeOf, typeInfo, hi1, cutA]
        | some v =>
          simp only at eh
          subst eh
          cases vm with
          | none =>
            simp only at em
            subst em
            simp [execOp, Instr.sliceAt, Instr.slice, ha.ev hx, run_underlying hu, e1, e2, e3, Instr.sliceBounds, Instr.sliceBound, asIntOf, sizeOf, typeInfo, hi1, cutA, h2]
          | some u =>
            simp only at em
            subst em
            simp [execOp, Instr.sliceAt, Instr.slice, ha.ev hx, run_underlying hu, e1, e2, e3, Instr.sliceBounds, Instr.sliceBound, asIntOf, sizeOf, typeInfo, hi1, cutA, h2, h3]
      | some z =>
        simp only at el
        subst el
        cases vh with
        | none =>
          obtain ⟨rfl, rfl⟩ := eh
          simp only at em
          subst em
          simp [execOp, Instr.sliceAt, Instr.slice, ha.ev hx, run_underlying hu, e1, e2, e3, Instr.sliceBounds, Instr.sliceBound, asIntOf, sizeOf, typeInfo, hi1, cutA, h1]
        | some v =>
          simp only at eh
          subst eh
          cases vm with
          | none =>
            simp only at em
            subst em
            simp [execOp, Instr.sliceAt, Instr.slice, ha.ev hx, run_underlying hu, e1, e2, e3, Instr.sliceBounds, Instr.sliceBound, asIntOf, sizeOf, typeInfo, hi1, cutA, h2, h1]
          | some u =>
            simp only at em
            subst em
            simp [execOp, Instr.sliceAt, Instr.slice, ha.ev hx, run_underlying hu, e1, e2, e3, Instr.sliceBounds, Instr.sliceBound, asIntOf, sizeOf, typeInfo, hi1, cutA, h2, h3, h1]
    · cases ht
theorem cutA_some {b o c lo sz : Nat} : cutA (some ⟨b, o, none⟩) c lo sz = some ⟨b, if c = lo then o else o + lo * sz, none⟩ := by
  unfold cutA
  split <;> simp [add_plain]
theorem cutA_zero {A : Option Addr} {c sz : Nat} (hA : ∀ p, A = some p → ∃ b o, p = ⟨b, o, none⟩) : cutA A c 0 sz = A := by
  unfold cutA
  split
  · rfl
  · cases A with
    | none => rfl
    | some p =>
      obtain ⟨b, o, rfl⟩ := hA p rfl
      simp [add_plain]
/-- A cut of a slice that is read. -/
theorem Sl.cut {α : Type} {k : Kd α} {ok : Nat → Prop} {A : Option Addr} {c : Nat} {xs : List α} (h : Sl k w ok A c xs) {lo hi m : Nat} (h1 : lo ≤ hi) (h2 : hi ≤ xs.length) (h3 : hi ≤ m) (h4 : m ≤ c) : Sl k w ok (cutA A m lo k.sz) (m - lo) ((xs.take hi).drop lo) := by
  refine ⟨by simp; omega, by have := h.2.1; omega, fun j x hj => ?_⟩
  rw [List.getElem?_drop, List.getElem?_take] at hj
  split at hj
  · obtain ⟨b, o, cs, hA, hb, hK, hc⟩ := h.2.2 _ x hj
    refine ⟨b, if m = lo then o else o + lo * k.sz, cs, by rw [hA, cutA_some], hb, hK, ?_⟩
    rw [if_neg (by omega)]
    have e : o + lo * k.sz + j * k.sz = o + (lo + j) * k.sz := by rw [Nat.add_mul]; omega
    rwa [e]
  · cases hj
/-- make([]T, m), T of one cell. -/
theorem l_make {x y : Operand} {t e bytes m : Nat} {z : Value} (hx : ev L x = some (.int .i64 (m : Int))) (hy : ev L y = some (.int .i64 (m : Int))) (ht : P.underlying t = some (.slice e)) (hi : (P.info? e).map (fun i => (i.zero, i.size, i.bytes)) = some (some z, 1, bytes)) (hz : z.cells = #[z]) (hb : bytes * m ≤ 281474976710656) (hm : m ≤ 9223372036854775807) (hd : Nat.blt d n = true) (hs : St G w0 w H)
    (k : ∀ w1 b, w.heap.size = b → Ext w w1 → St G w0 w1 (.pt b (List.replicate m z) e :: H) → Wl P n all l K ((d, .slice (some ⟨b, 0, none⟩) m m) :: L) w1) : Wl P n all (⟨some d, .makeSlice t x y, ty, pos, af, none⟩ :: l) K L w := by
  have hr := Go.run_make_row' (P := P) t e z bytes ht hi hz .i64 .i64 m hb (by omega) w
  have e1 : madeCells #[z] m = (List.replicate m z).toArray := by
    apply Array.ext'
    simp [madeCells]
    apply List.ext_getElem?
    intro j
    by_cases hj : j < m
    · simp [hj, Nat.mod_one]
    · simp [hj]
  refine l_val (v := .slice (some ⟨w.heap.size, 0, none⟩) m m) (w1 := w.alloc (.cells (List.replicate m z).toArray e)) hd (fun a ha => ?_) (k _ _ rfl (Ext.alloc _ _) (st_new hs _ e))
  rw [e1] at hr
  simp [execOp, ha.ev hx, ha.ev hy, hr]
/-! ### Equality of what is no number -/
theorem run_equal {t : TypeId} {x y : Value} {r : Bool} (h : (Op.equalIn (9999 + 1) t x y).run P w = .ok r w) : (Op.equal t x y).run P w = .ok r w := h
theorem r_eq {x y : Operand} {t t' : TypeId} {u v : Value} {r : Bool} (hx : ev L x = some u) (hy : ev L y = some v)
    (hg : (eqGuard .eql t x y u v).run P w = .ok () w) (hb : binOp .eql t u v = (do pure (.bool (← Op.equal t u v)))) (h : (Op.equalIn (9999 + 1) t u v).run P w = .ok r w) : Runs P n L ⟨some d, .binOp .eql t x y t', ty, pos, af, none⟩ (.bool r) w :=
  fun a ha => by
    have h1 := run_equal h
    simp only [execOp, ha.ev hx, ha.ev hy, Sem.run_bind, hg, Result.andThen_ok, hb, h1, Sem.run_pure]
theorem r_ne {x y : Operand} {t t' : TypeId} {u v : Value} {r : Bool} (hx : ev L x = some u) (hy : ev L y = some v)
    (hg : (eqGuard .neq t x y u v).run P w = .ok () w) (hb : binOp .neq t u v = (do pure (.bool (!(← Op.equal t u v))))) (h : (Op.equalIn (9999 + 1) t u v).run P w = .ok r w) : Runs P n L ⟨some d, .binOp .neq t x y t', ty, pos, af, none⟩ (.bool (!r)) w :=
  fun a ha => by
    have h1 := run_equal h
    simp only [execOp, ha.ev hx, ha.ev hy, Sem.run_bind, hg, Result.andThen_ok, hb, h1, Sem.run_pure]
theorem eqIn_bool {t : TypeId} (dd : Nat) (p q : Bool) (ht : P.underlying t = some .bool) : (Op.equalIn (dd + 1) t (.bool p) (.bool q)).run P w = .ok (p == q) w := by
  simp [Op.equalIn, run_underlying ht]
theorem r_eqb {x y : Operand} {t t' : TypeId} {p q : Bool} (hx : ev L x = some (.bool p)) (hy : ev L y = some (.bool q)) (ht : P.underlying t = some .bool) : Runs P n L ⟨some d, .binOp .eql t x y t', ty, pos, af, none⟩ (.bool (p == q)) w :=
  r_eq hx hy rfl rfl (eqIn_bool 9999 p q ht)
theorem r_neb {x y : Operand} {t t' : TypeId} {p q : Bool} (hx : ev L x = some (.bool p)) (hy : ev L y = some (.bool q)) (ht : P.underlying t = some .bool) : Runs P n L ⟨some d, .binOp .neq t x y t', ty, pos, af, none⟩ (.bool (!(p == q))) w :=
  r_ne hx hy rfl rfl (eqIn_bool 9999 p q ht)
theorem eqIn_nil {t e : TypeId} (dd : Nat) (A : Option Addr) (m c m' c' : Nat) (ht : P.underlying t = some (.slice e)) : (Op.equalIn (dd + 1) t (.slice A m c) (.slice none m' c')).run P w = .ok A.isNone w := by
  cases A <;> simp [Op.equalIn, run_underlying ht]
theorem r_eqnil {x y : Operand} {t t' e : TypeId} {A : Option Addr} {m c m' c' : Nat} (hx : ev L x = some (.slice A m c)) (hy : ev L y = some (.slice none m' c')) (ht : P.underlying t = some (.slice e)) : Runs P n L ⟨some d, .binOp .eql t x y t', ty, pos, af, none⟩ (.bool A.isNone) w :=
  r_eq hx hy rfl rfl (eqIn_nil 9999 A m c m' c' ht)
theorem eqIn_ptr {t e : TypeId} (dd : Nat) (A : Option Addr) (ht : P.underlying t = some (.pointer e)) : (Op.equalIn (dd + 1) t (.pointer A) (.pointer none)).run P w = .ok A.isNone w := by
  cases A <;> simp [Op.equalIn, run_underlying ht]
theorem r_eqpnil {x y : Operand} {t t' e : TypeId} {A : Option Addr} (hx : ev L x = some (.pointer A)) (hy : ev L y = some (.pointer none)) (ht : P.underlying t = some (.pointer e)) : Runs P n L ⟨some d, .binOp .eql t x y t', ty, pos, af, none⟩ (.bool A.isNone) w :=
  r_eq hx hy rfl rfl (eqIn_ptr 9999 A ht)
theorem r_nepnil {x y : Operand} {t t' e : TypeId} {A : Option Addr} (hx : ev L x = some (.pointer A)) (hy : ev L y = some (.pointer none)) (ht : P.underlying t = some (.pointer e)) : Runs P n L ⟨some d, .binOp .neq t x y t', ty, pos, af, none⟩ (.bool (!A.isNone)) w :=
  r_ne hx hy rfl rfl (eqIn_ptr 9999 A ht)
/-- append(v, xs...), the xs a block of one's own. -/
theorem l_appendP {s x : Operand} {t e sz bytes base m j b' T' : Nat} {z v : Value} {cs news : List Value} {H : List Res} {H' : Value → List Res} (ht : P.underlying t = some (.slice e)) (hi : (P.info? e).map (fun i => (i.zero, i.size, i.bytes)) = some (some z, sz, bytes)) (hzs : z.cells.size = sz) (hsz : Nat.blt 0 sz = true)
    (hv : ev L s = some v) (hx : ev L x = some (.slice (some ⟨b', 0, none⟩) j j)) (hs : St G w0 w H) (hq : Repl (.pt b' news T') (.pt b' news T') H H) (hl : news.length = j * sz) (h1 : ∀ u ∈ news, u.oneCell' = true)
    (hbytes : (m + j) * bytes ≤ 140737488355328) (hby : Nat.blt 0 bytes = true) (hG : G ≤ w0.heap.size) (hbase : base ≤ w.heap.size) (hm : ∀ v', Repl (.row base e sz v m cs) (.row base e sz v' (m + j) (cs ++ news)) H (H' v')) (hd : Nat.blt d n = true)
    (k : ∀ v' w1, w.heap.size ≤ w1.heap.size → (∀ k, k < w.heap.size → v.ownBlock ≠ some k → w1.heap[k]? = w.heap[k]?) → St G w0 w1 (H' v') → Wl P n all l K ((d, v') :: L) w1) :
    Wl P n all (⟨some d, .call { callee := .builtin .append, args := #[s, x], argTypes := #[t, t] }, ty, pos, af, none⟩ :: l) K L w :=
  l_append ht hi hzs hsz hv hx hl (fun i u hu => by rw [add_plain, Nat.zero_add]; exact heap_cell (hs.get hq.mem) hu) h1 hbytes hby hG hbase hs hm hd k
theorem one_ints (is : List Nat) : ∀ u ∈ is.map (fun i : Nat => Value.int .i64 (i : Int)), u.oneCell' = true := fun u hu => by
  obtain ⟨i, _, rfl⟩ := List.mem_map.1 hu
  rfl
theorem one1 {u : Value} (h : u.oneCell' = true) : ∀ x ∈ [u], x.oneCell' = true := fun x hx => by rw [List.mem_singleton.1 hx]; exact h
theorem row_foot {base e sz m : Nat} {v : Value} {cs : List Value} (h : w.ownsRow base e sz v m cs) : Foot (fun w => w.ownsRow base e sz v m cs) w (fun k => k < G ∨ v.ownBlock = some k) := by
  intro w' hw'
  rcases h.2 with ⟨rfl, h0⟩ | ⟨g', cap', cur, rfl, hb, hgg, hnc, hcm, hcs, htake⟩
  · exact ⟨h.1, .inl ⟨rfl, h0⟩⟩
  · exact ⟨h.1, .inr ⟨g', cap', cur, rfl, hb, (hw' g' (.inr rfl) (Array.getElem?_eq_some_iff.1 hgg).1).trans hgg, hnc, hcm, hcs, htake⟩⟩
/-- A row of one's own has been written by somebody else. -/
theorem St.rowTurn {H : List Res} {base e sz m m' : Nat} {v : Value} {cs cs' : List Value} (hs : St G w0 w (.row base e sz v m cs :: H)) (hG : G ≤ w0.heap.size) (h : w1.ownsRow base e sz v m' cs') (h1 : w1.os = w.os) (h2 : w1.tape = w.tape) (h3 : w1.output = w.output) (h4 : w.heap.size ≤ w1.heap.size) (hdr : w.drawn ≤ w1.drawn)
    (h5 : ∀ k, k < w.heap.size → v.ownBlock ≠ some k → w1.heap[k]? = w.heap[k]?) : St G w0 w1 (.row base e sz v m' cs' :: H) :=
  hs.write (r' := .row base e sz v m' cs') hG hdr h1 h2 h3 h4 (fun k hk hr => h5 k hk hr) (fun k hk => ⟨Nat.lt_of_lt_of_le (hs.dom _ List.mem_cons_self k hk).2 h4, .inl hk⟩) (row_foot h)
theorem Sl.on {α : Type} {k : Kd α} {ok : Nat → Prop} {A : Option Addr} {c : Nat} {xs : List α} (h : Sl k w0 ok A c xs) (hz : 0 < k.sz) (hs : St G w0 w H) : Sl k w (fun b => b < w0.heap.size) A c xs :=
  (h.mono (fun _ _ hk => hk) hz).move (fun b hb _ => hs.below.block b hb)
theorem l_store1s {x y : Operand} {T T0 : TypeId} {b o : Nat} {v : Value} {cs : List Value} {H H' : List Res} (hx : ev L x = some (.pointer (some ⟨b, o, none⟩))) (hy : ev L y = some v) (h1 : v.oneCell' = true) (hz : szOf P T = some 1)
    (hG : G ≤ w0.heap.size) (hs : St G w0 w H) (hm : Repl (.pt b cs T0) (.pt b (cs.set o v) T0) H H') (hfit : o < cs.length)
    (k : ∀ w1, w1.heap.size = w.heap.size → (∀ k, k ≠ b → w1.heap[k]? = w.heap[k]?) → St G w0 w1 H' → Wl P n all l K L w1) : Wl P n all (⟨none, .store T x y, ty, pos, af, none⟩ :: l) K L w :=
  l_store1 hx hy h1 hz hG hs hm (by simpa using hfit) k
/-- A struct that is written out. -/
theorem r_build {t : TypeId} {parts : Array (Nat × Operand)} {vs : List Value} {v : Value} (hv : evs L (parts.toList.map (·.2)) = some vs) (hb : (Instr.build t ((parts.toList.map (·.1)).zip vs).toArray).run P w = .ok v w) : Runs P n L ⟨some d, .build t parts, ty, pos, af, none⟩ v w :=
  fun a ha => by
    have e : parts.map (fun p => (p.1, a.eval p.2)) = ((parts.toList.map (·.1)).zip vs).toArray := by
      rw [← ha.evs hv, List.map_map]
      apply Array.ext'
      simp only [Array.toList_map]
      induction parts.toList with
      | nil => rfl
      | cons x r ih => simp [ih]
    simp [execOp, e, hb]
end
end Go.Proofs.Ytfhghnhgcdiknaa
