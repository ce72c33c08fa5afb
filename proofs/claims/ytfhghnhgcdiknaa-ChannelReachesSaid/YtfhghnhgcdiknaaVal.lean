/- Values that are made and not written any more: slices laid anew, a fresh start. No condition. -/
import Derived.Test.YtfhghnhgcdiknaaMap
namespace Go.Proofs.Ytfhghnhgcdiknaa
open Go.RowKit
set_option linter.unusedSimpArgs false
set_option linter.unusedVariables false
section
variable {α : Type} {dk : Kd α} {P : Program} {n : Nat} {K : Slots → World → Prop} {L : Slots} {w0 w : World} {H : List Res} {all : Array Oper} {l : List Oper} {dst ty : Nat} {pos : String} {af : Array Edge} {ok : Nat → Prop}
/-- append(nil, xs...): a row of one's own with the same elements. -/
theorem l_copy {s x : Operand} {t e bytes c : Nat} {z : Value} {A : Option Addr} {xs : List α} (ht : P.underlying t = some (.slice e)) (hi : (P.info? e).map (fun i => (i.zero, i.size, i.bytes)) = some (some z, dk.sz, bytes)) (hzs : z.cells.size = dk.sz) (hsz : Nat.blt 0 dk.sz = true)
    (hv : ev L s = some (.slice none 0 0)) (hx : ev L x = some (.slice A xs.length c)) (h : Sl dk w ok A c xs) (hbytes : xs.length * bytes ≤ 140737488355328) (hby : Nat.blt 0 bytes = true) (hd : Nat.blt dst n = true)
    (k : ∀ v' cs w1, Reps dk w ok xs cs → St 0 w w1 [.row 0 e dk.sz v' xs.length cs] → Wl P n all l K ((dst, v') :: L) w1) :
    Wl P n all (⟨some dst, .call { callee := .builtin .append, args := #[s, x], argTypes := #[t, t] }, ty, pos, af, none⟩ :: l) K L w := by
  cases A with
  | none =>
    have hxs := h.none_nil
    subst hxs
    exact l_append0 (base := 0) ht hi hv hx (row_none w 0 e dk.sz) hd (k _ [] w (Reps.nil dk w ok) ((St.refl 0 w).nil_row 0 e dk.sz))
  | some p =>
    obtain ⟨cs, hR, hl, hn, h1⟩ := h.news
    refine l_append (base := 0) (m := 0) (cs := []) (H := [.row 0 e dk.sz (.slice none 0 0) 0 []]) (H' := fun v' => [.row 0 e dk.sz v' (0 + xs.length) ([] ++ cs)]) ht hi hzs hsz hv hx hl hn h1 (by rwa [Nat.zero_add]) hby (Nat.zero_le _) (Nat.zero_le _) ((St.refl 0 w).nil_row 0 e dk.sz) (fun v' => .here) hd ?_
    intro v' w1 _ _ hs
    rw [Nat.zero_add, List.nil_append] at hs
    exact k v' cs w1 hR hs
/-- The same, the elements told at an earlier world. -/
theorem l_copyB {wb : World} {G : Nat} {Hb : List Res} (hb : St G wb w Hb) {s x : Operand} {t e bytes c : Nat} {z : Value} {A : Option Addr} {xs : List α} (ht : P.underlying t = some (.slice e)) (hi : (P.info? e).map (fun i => (i.zero, i.size, i.bytes)) = some (some z, dk.sz, bytes)) (hzs : z.cells.size = dk.sz) (hsz : Nat.blt 0 dk.sz = true)
    (hv : ev L s = some (.slice none 0 0)) (hx : ev L x = some (.slice A xs.length c)) (h : Sl dk wb ok A c xs) (hbytes : xs.length * bytes ≤ 140737488355328) (hby : Nat.blt 0 bytes = true) (hd : Nat.blt dst n = true)
    (k : ∀ v' cs w1, Reps dk wb ok xs cs → St 0 w w1 [.row 0 e dk.sz v' xs.length cs] → Wl P n all l K ((dst, v') :: L) w1) :
    Wl P n all (⟨some dst, .call { callee := .builtin .append, args := #[s, x], argTypes := #[t, t] }, ty, pos, af, none⟩ :: l) K L w := by
  cases A with
  | none =>
    have hxs := h.none_nil
    subst hxs
    exact l_append0 (base := 0) ht hi hv hx (row_none w 0 e dk.sz) hd (k _ [] w (Reps.nil dk wb ok) ((St.refl 0 w).nil_row 0 e dk.sz))
  | some p =>
    obtain ⟨cs, hR, hl, hn, h1⟩ := h.news
    refine l_append (base := 0) (m := 0) (cs := []) (H := [.row 0 e dk.sz (.slice none 0 0) 0 []]) (H' := fun v' => [.row 0 e dk.sz v' (0 + xs.length) ([] ++ cs)]) ht hi hzs hsz hv hx hl (fun i u hu => cell_on (hn i u hu) hb) h1 (by rwa [Nat.zero_add]) hby (Nat.zero_le _) (Nat.zero_le _) ((St.refl 0 w).nil_row 0 e dk.sz) (fun v' => .here) hd ?_
    intro v' w1 _ _ hs
    rw [Nat.zero_add, List.nil_append] at hs
    exact k v' cs w1 hR hs
end
/-- make([]T, m), m told. -/
theorem l_makeN {P : Program} {n : Nat} {K : Slots → World → Prop} {L : Slots} {G : Nat} {w0 w : World} {H : List Res} {all : Array Oper} {l : List Oper} {dst ty : Nat} {pos : String} {af : Array Edge} {x y : Operand} {t e sz bytes m : Nat} {z : Value} {cs : List Value} (hx : ev L x = some (.int .i64 (m : Int))) (hy : ev L y = some (.int .i64 (m : Int))) (ht : P.underlying t = some (.slice e)) (hi : (P.info? e).map (fun i => (i.zero, i.size, i.bytes)) = some (some z, sz, bytes)) (hcs : madeCells z.cells (m * sz) = cs.toArray) (hb : bytes * m ≤ 281474976710656) (hm : m ≤ 9223372036854775807) (hd : Nat.blt dst n = true) (hs : St G w0 w H)
    (k : ∀ w1 b, w.heap.size = b → Ext w w1 → St G w0 w1 (.pt b cs e :: H) → Wl P n all l K ((dst, .slice (some ⟨b, 0, none⟩) m m) :: L) w1) : Wl P n all (⟨some dst, .makeSlice t x y, ty, pos, af, none⟩ :: l) K L w := by
  obtain ⟨i, hi0, hi1⟩ := Option.map_eq_some_iff.1 hi
  simp only [Prod.mk.injEq] at hi1
  obtain ⟨hz0, hz1, hz2⟩ := hi1
  have hb' : (i.bytes : Int) * (m : Int) ≤ 281474976710656 := by
    have h : ((i.bytes * m : Nat) : Int) ≤ 281474976710656 := by rw [hz2]; omega
    rwa [Int.natCast_mul] at h
  have hr := run_make (P := P) w t e i z ht hi0 hz0 .i64 .i64 m m (by omega) (Int.le_refl _) hb' (by omega)
  simp only [Int.toNat_natCast, hz1, hcs] at hr
  exact l_val (v := .slice (some ⟨w.heap.size, 0, none⟩) m m) (w1 := w.alloc (.cells cs.toArray e)) hd (fun a ha => by simp [execOp, ha.ev hx, ha.ev hy, hr]) (k _ _ rfl (Ext.alloc _ _) (st_new hs _ e))
section
variable {α : Type} {d : Kd α} {w : World} {ok : Nat → Prop} {xs : List α} {cs : List Value}
theorem Sl.all_ {A : Option Addr} {c : Nat} (h : Sl d w ok A c xs) (hz : 0 < d.sz) : Sl d w (fun _ => True) A c xs := h.mono (fun _ _ _ => trivial) hz
theorem Kd.all_ (d : Kd α) {x : α} (h : d.K w ok x cs) : d.K w (fun _ => True) x cs := d.mono (fun _ _ _ => trivial) h
theorem Reps.all_ (h : Reps d w ok xs cs) : Reps d w (fun _ => True) xs cs := h.mono (fun _ _ _ => trivial)
theorem Reps.onr {G : Nat} {w1 : World} {H : List Res} (h : Reps d w ok xs cs) (hs : St G w w1 H) : Reps d w1 ok xs cs := h.move (fun k _ hk => hs.below.block k hk)
/-- A row whose elements are told, as a slice. -/
theorem row_slT {base e m c : Nat} {A : Option Addr} (h : w.ownsRow base e d.sz (.slice A m c) m cs) (hR : Reps d w ok xs cs) (hm : xs.length = m) : Sl d w (fun _ => True) A c xs := by
  subst hm
  obtain ⟨A', c', hv, hsl⟩ := sl_of_row (d := d) (xs := xs) (ok := fun _ => True) h hR.all_ rfl (fun _ _ => trivial)
  simp only [Value.slice.injEq, true_and] at hv
  obtain ⟨rfl, rfl⟩ := hv
  exact hsl
theorem St.toBelow {G : Nat} {w0 w : World} {H : List Res} (h : St G w0 w H) : Ext w0 w := h.toExt
end
theorem part_setQ {w : World} {ok : Nat → Prop} {p : TPart} {cs : List Value} {A : Option Addr} {c : Nat} {qs : List TQueue} (h : Kd.part.K w ok p cs) (hq : Sl Kd.queue w ok A c qs) : Kd.part.K w ok { p with Queues := qs } (cs.set 10 (.slice A qs.length c)) := by
  obtain ⟨A3, c3, A4, c4, A5, c5, A6, c6, A7, c7, A8, c8, A9, c9, A10, c10, A12, c12, A14, c14, rfl, h3, h4, h5, h6, h7, h8, h9, h10, h12, h14⟩ := h
  exact ⟨A3, c3, A4, c4, A5, c5, A6, c6, A7, c7, A8, c8, A9, c9, A, c, A12, c12, A14, c14, rfl, h3, h4, h5, h6, h7, h8, h9, hq, h12, h14⟩
theorem part_setS {w : World} {ok : Nat → Prop} {p : TPart} {cs : List Value} {A : Option Addr} {c : Nat} {ss : List TSample} (h : Kd.part.K w ok p cs) (hq : Sl Kd.sample w ok A c ss) : Kd.part.K w ok { p with Samples := ss } (cs.set 9 (.slice A ss.length c)) := by
  obtain ⟨A3, c3, A4, c4, A5, c5, A6, c6, A7, c7, A8, c8, A9, c9, A10, c10, A12, c12, A14, c14, rfl, h3, h4, h5, h6, h7, h8, h9, h10, h12, h14⟩ := h
  exact ⟨A3, c3, A4, c4, A5, c5, A6, c6, A7, c7, A8, c8, A, c, A10, c10, A12, c12, A14, c14, rfl, h3, h4, h5, h6, h7, h8, hq, h10, h12, h14⟩
end Go.Proofs.Ytfhghnhgcdiknaa
