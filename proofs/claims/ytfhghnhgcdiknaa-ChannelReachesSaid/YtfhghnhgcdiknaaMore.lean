/- More about slices of kinds and about what one owns. No condition. -/
import Derived.Test.YtfhghnhgcdiknaaOps3
import Derived.Test.YtfhghnhgcdiknaaKinds
namespace Go.Proofs.Ytfhghnhgcdiknaa
open Go.RowKit
set_option linter.unusedSimpArgs false
set_option linter.unusedVariables false
section
variable {α : Type} {d : Kd α} {w : World} {ok : Nat → Prop} {c : Nat} {xs : List α}
/-- What append reads of a slice. -/
theorem Sl.news {p : Addr} (h : Sl d w ok (some p) c xs) : ∃ cs, Reps d w ok xs cs ∧ cs.length = xs.length * d.sz ∧ (∀ i u, cs[i]? = some u → w.cell? (p.add i) = some u) ∧ ∀ u ∈ cs, u.oneCell' = true := by
  cases xs with
  | nil => exact ⟨[], Reps.nil d w ok, by simp, fun i u hu => by simp at hu, fun u hu => by cases hu⟩
  | cons x xs =>
    obtain ⟨b, o, hA, _⟩ := h.some_ (by simp)
    injection hA with hA
    subst hA
    obtain ⟨cs, hR, hc, h1⟩ := h.cells
    refine ⟨cs, hR, hR.1, fun i u hu => ?_, h1⟩
    have := hc i u hu
    have e : (⟨b, o, none⟩ : Addr).add i = ⟨b, o + i, none⟩ := by
      unfold Addr.add
      split
      · rename_i h0; subst h0; rfl
      · rfl
    rw [e]
    exact this
theorem Sl.none_nil (h : Sl d w ok none c xs) : xs = [] := by
  cases xs with
  | nil => rfl
  | cons x xs =>
    obtain ⟨b, o, hA, _⟩ := h.some_ (by simp)
    cases hA
theorem isNone_some {A : Option Addr} (h : ¬ A = none) : ∃ p, A = some p := by
  cases A with
  | none => exact absurd rfl h
  | some p => exact ⟨p, rfl⟩
/-! ### Parts of a row -/
theorem seg_get {cs l : List Value} {o k j : Nat} {v : Value} (h : (cs.drop o).take k = l) (hv : l[j]? = some v) : cs[o + j]? = some v := by
  subst h
  rw [List.getElem?_take] at hv
  split at hv
  · rwa [List.getElem?_drop] at hv
  · cases hv
theorem seg_len {cs l : List Value} {o k : Nat} (h : (cs.drop o).take k = l) (hl : l.length = k) (hk : 0 < k) : o + k ≤ cs.length := by
  subst h
  rw [List.length_take, List.length_drop] at hl
  omega
theorem seg_put {cs l : List Value} {o k j : Nat} {v : Value} (h : (cs.drop o).take k = l) (hl : l.length = k) (hj : j < k) : cs.take (o + j) ++ [v] ++ cs.drop (o + j + 1) = cs.take o ++ l.set j v ++ cs.drop (o + k) := by
  have hfit := seg_len h hl (by omega)
  subst h
  apply List.ext_getElem?
  intro i
  simp only [List.getElem?_append, List.length_append, List.length_take, List.length_singleton, List.length_set, List.length_drop, List.getElem?_take, List.getElem?_drop, List.getElem?_set]
  by_cases h1 : i < o
  · simp [h1, show i < cs.length by omega, show min (o + j) cs.length = o + j by omega, show min o cs.length = o by omega, show min k (cs.length - o) = k by omega, show i < o + j + 1 by omega, show i < o + j by omega, show i < o + k by omega]
  · by_cases h2 : i < o + j
    · simp [h1, h2, show i < cs.length by omega, show i < o + k by omega, show ¬ j = i - o by omega, show min (o + j) cs.length = o + j by omega, show min o cs.length = o by omega, show min k (cs.length - o) = k by omega, show i - o < k by omega, show o + (i - o) = i by omega, show i < o + j + 1 by omega]
    · by_cases h3 : i = o + j
      · subst h3
        simp [show min (o + j) cs.length = o + j by omega, show min o cs.length = o by omega, show min k (cs.length - o) = k by omega, show o + j - o = j by omega, hj, show o + j < o + k by omega]
        omega
      · by_cases h4 : i < o + k
        · simp [h1, h2, show min (o + j) cs.length = o + j by omega, show min o cs.length = o by omega, show min k (cs.length - o) = k by omega, show ¬ i < o + j + 1 by omega, h4, show ¬ j = i - o by omega, show i - o < k by omega, show o + (i - o) = i by omega, show o + j + 1 + (i - (o + j + 1)) = i by omega]
        · simp [h1, h2, h4, show min (o + j) cs.length = o + j by omega, show min o cs.length = o by omega, show min k (cs.length - o) = k by omega, show ¬ i < o + j + 1 by omega, show o + j + 1 + (i - (o + j + 1)) = i by omega, show o + k + (i - (o + k)) = i by omega]
theorem put_len {cs l : List Value} {o k : Nat} (hl : l.length = k) (hfit : o + k ≤ cs.length) : (cs.take o ++ l ++ cs.drop (o + k)).length = cs.length := by
  simp only [List.length_append, List.length_take, List.length_drop]
  omega
theorem seg_same {cs l : List Value} {o k : Nat} (hl : l.length = k) (hfit : o + k ≤ cs.length) : ((cs.take o ++ l ++ cs.drop (o + k)).drop o).take k = l := by
  rw [List.append_assoc, List.drop_append_of_le_length (by rw [List.length_take]; omega), List.drop_take_self, List.nil_append, ← hl, List.take_left]
theorem seg_other {cs l : List Value} {o k p : Nat} (hl : l.length = k) (hfit : o + k ≤ cs.length) (hp : p + k ≤ o ∨ o + k ≤ p) : ((cs.take o ++ l ++ cs.drop (o + k)).drop p).take k = (cs.drop p).take k := by
  apply List.ext_getElem?
  intro i
  simp only [List.getElem?_take, List.getElem?_drop, List.getElem?_append, List.length_append, List.length_take]
  split
  · rcases hp with hp | hp
    · simp [show p + i < o by omega, show p + i < cs.length by omega, show min o cs.length = o by omega, show p + i < o + l.length by omega]
    · simp [show min o cs.length = o by omega, show ¬ p + i < o by omega, show ¬ p + i < o + l.length by omega, hl, show ¬ p + i < o + k by omega, show o + k + (p + i - (o + k)) = p + i by omega]
  · rfl
theorem put_put {cs l l' : List Value} {o k : Nat} (hfit : o + k ≤ cs.length) (hl : l.length = k) : (cs.take o ++ l ++ cs.drop (o + k)).take o ++ l' ++ (cs.take o ++ l ++ cs.drop (o + k)).drop (o + k) = cs.take o ++ l' ++ cs.drop (o + k) := by
  have h1 : (cs.take o ++ l ++ cs.drop (o + k)).take o = cs.take o := by
    rw [List.append_assoc, List.take_append_of_le_length (by rw [List.length_take]; omega), List.take_take, Nat.min_self]
  have h2 : (cs.take o ++ l ++ cs.drop (o + k)).drop (o + k) = cs.drop (o + k) := by
    have : (cs.take o ++ l).length = o + k := by rw [List.length_append, List.length_take, hl]; omega
    rw [← this, List.drop_left]
  rw [h1, h2]
/-- A row of a flat kind, as a slice. -/
theorem row_sl {w w2 : World} {ok F : Nat → Prop} {base e m c : Nat} {A : Option Addr} {cs : List Value} (h : w2.ownsRow base e d.sz (.slice A m c) m cs) (hR : Reps d w ok xs cs) (hF : ∀ k, (Value.slice A m c).ownBlock = some k → F k) (hm : ∀ x l, d.K w ok x l → d.K w2 F x l := by exact fun _ _ h => h) (hx : m = xs.length := by rfl) : Sl d w2 F A c xs := by
  subst hx
  obtain ⟨A', c', hv, hsl⟩ := sl_of_row (d := d) (xs := xs) (ok := F) h ⟨hR.1, fun j x hj => hm _ _ (hR.2 j x hj)⟩ rfl hF
  simp only [Value.slice.injEq, true_and] at hv
  obtain ⟨rfl, rfl⟩ := hv
  exact hsl
theorem row_sl2 {w2 : World} {F F1 : Nat → Prop} {base e m c : Nat} {A : Option Addr} {cs : List Value} (h : w2.ownsRow base e d.sz (.slice A m c) m cs) (hR : Reps d w2 F1 xs cs) (hF : ∀ k, (Value.slice A m c).ownBlock = some k → F k) (hF1 : ∀ k, F1 k → F k) (hx : m = xs.length := by rfl) : Sl d w2 F A c xs := by
  subst hx
  obtain ⟨A', c', hv, hsl⟩ := sl_of_row (d := d) (xs := xs) (ok := F) h (hR.mono (fun k hk _ => hF1 k hk)) rfl hF
  simp only [Value.slice.injEq, true_and] at hv
  obtain ⟨rfl, rfl⟩ := hv
  exact hsl
theorem rep_any {w : World} {ok ok' : Nat → Prop} {w' : World} {cs : List Value} (hR : Reps d w ok xs cs) (hm : ∀ x l, d.K w ok x l → d.K w' ok' x l := by exact fun _ _ h => h) : Reps d w' ok' xs cs := ⟨hR.1, fun j x hj => hm _ _ (hR.2 j x hj)⟩
theorem reps_in {w : World} {F F1 : Nat → Prop} {cs : List Value} (hR : Reps d w F1 xs cs) (hF1 : ∀ k, F1 k → F k) : Reps d w F xs cs := hR.mono (fun k hk _ => hF1 k hk)
theorem mul_apart {i j k : Nat} (h : i ≠ j) : j * k + k ≤ i * k ∨ i * k + k ≤ j * k := by
  rcases Nat.lt_or_gt_of_ne h with h | h
  · exact .inr (by rw [← Nat.succ_mul]; exact Nat.mul_le_mul_right _ h)
  · exact .inl (by rw [← Nat.succ_mul]; exact Nat.mul_le_mul_right _ h)
/-- Two read-only facts as one, over both footprints. -/
theorem St.join2 {G : Nat} {w0 w : World} {H : List Res} {F F' : Nat → Prop} {φ ψ χ : World → Prop} (h : St G w0 w (.ro F φ :: .ro F' ψ :: H)) (hi : ∀ w', φ w' → ψ w' → χ w') : St G w0 w (.ro (fun k => F k ∨ F' k) χ :: H) := h.join χ hi
theorem row_some {w : World} {base e sz m : Nat} {v : Value} {cs : List Value} (h : w.ownsRow base e sz v m cs) (hm : 0 < m) : ∃ g c, v = .slice (some ⟨g, 0, none⟩) m c ∧ m ≤ c := by
  rcases h.2 with ⟨_, h0⟩ | ⟨g, cap, cur, rfl, _, _, hc, _⟩
  · omega
  · exact ⟨g, cap, rfl, hc⟩
end
theorem St.last {G : Nat} {w0 w : World} {r : Res} {F : Nat → Prop} {φ ψ : World → Prop} (h : St G w0 w [r, .ro F φ]) (hi : ∀ w', φ w' → ψ w') : St G w0 w [r, .ro F ψ] := (h.swap.hide ψ hi).swap
theorem St.ro0 {G : Nat} {w0 w : World} {r : Res} (h : St G w0 w [r]) (φ : World → Prop) (hi : ∀ w', φ w') : St G w0 w [r, .ro (fun _ => False) φ] := (h.pure_ φ (fun w' _ => hi w')).swap
/-- One element more is done. -/
theorem join_step {α : Type} {d : Kd α} {G : Nat} {w0 w : World} {xs : List α} {cs cx : List Value} {r : Res} {F F2 : Nat → Prop} {k : Nat} (h : St G w0 w [r, .ro F2 (fun w' => ∀ x, xs[k]? = some x → d.K w' F2 x cx), .ro F (fun w' => ∀ j x, j < k → xs[j]? = some x → d.K w' F x ((cs.drop (j * d.sz)).take d.sz))]) (hcl : cs.length = xs.length * d.sz) (hcx : cx.length = d.sz) (hk : k < xs.length) :
    St G w0 w [r, .ro (fun b => F2 b ∨ F b) (fun w' => ∀ j x, j < k + 1 → xs[j]? = some x → d.K w' (fun b => F2 b ∨ F b) x (((cs.take (k * d.sz) ++ cx ++ cs.drop (k * d.sz + d.sz)).drop (j * d.sz)).take d.sz))] := by
  have hfit : k * d.sz + d.sz ≤ cs.length := by rw [hcl, ← Nat.succ_mul]; exact Nat.mul_le_mul_right _ hk
  have h1 : St G w0 w [.ro F2 (fun w' => ∀ x, xs[k]? = some x → d.K w' F2 x cx), .ro F (fun w' => ∀ j x, j < k → xs[j]? = some x → d.K w' F x ((cs.drop (j * d.sz)).take d.sz)), r] :=
    h.perm ((List.Perm.swap _ _ _).trans ((List.Perm.swap _ _ _).cons _))
  refine (h1.join _ (fun w' h2 h3 j x hj hx => ?_)).swap
  by_cases e : j = k
  · subst e
    rw [seg_same hcx hfit]
    exact d.mono (fun b hb _ => .inl hb) (h2 x hx)
  · rw [seg_other hcx hfit (mul_apart (fun e' => e e'.symm))]
    exact d.mono (fun b hb _ => .inr hb) (h3 j x (by omega) hx)
theorem perm_erase {α : Type} : ∀ {H : List α} {i : Nat} {r : α}, H[i]? = some r → H.Perm (r :: H.eraseIdx i)
  | [], i, r, h => by simp at h
  | x :: H, 0, r, h => by
    simp at h
    subst h
    exact .refl _
  | x :: H, i + 1, r, h => by
    simp only [List.getElem?_cons_succ] at h
    exact ((perm_erase h).cons x).trans (.swap _ _ _)
theorem St.toFront {G : Nat} {w0 w : World} {H : List Res} {r : Res} (h : St G w0 w H) (i : Nat) (hr : H[i]? = some r) : St G w0 w (r :: H.eraseIdx i) := h.perm (perm_erase hr)
theorem St.joinAll {G : Nat} {w0 w : World} {H : List Res} (h : St G w0 w H) : St G w0 w [.ro (fun k => ∃ r, r ∈ H ∧ r.fp k) (fun w' => ∀ r, r ∈ H → r.φ w')] := by
  refine ⟨h.below, h.drawn, fun s hs => ?_, fun s hs => ?_, List.pairwise_singleton _ _⟩
  · rw [List.mem_singleton.1 hs]
    intro w' hw' s hs
    exact h.foot s hs w' (fun k hk hlt => hw' k (hk.imp id (fun hk => ⟨s, hs, hk⟩)) hlt)
  · rw [List.mem_singleton.1 hs]
    exact fun b ⟨s, hs, hb⟩ => h.dom s hs b hb
/-- Some are kept, of the others one thing is said. -/
theorem St.keep {G : Nat} {w0 w : World} (K : List Res) {H : List Res} (h : St G w0 w (K ++ H)) (φ : World → Prop) (hi : ∀ w', (∀ r, r ∈ H → r.φ w') → φ w') : St G w0 w (K ++ [.ro (fun k => ∃ r, r ∈ H ∧ r.fp k) φ]) := by
  have hf := h.foot
  have hp := List.pairwise_append.1 h.sep
  have hj := (h.sub (H' := H) (List.sublist_append_right _ _)).joinAll
  refine ⟨h.below, h.drawn, fun s hs => ?_, fun s hs => ?_, List.pairwise_append.2 ⟨hp.1, List.pairwise_singleton _ _, fun a ha s hs b h1 h2 => ?_⟩⟩
  · rcases List.mem_append.1 hs with hs | hs
    · exact hf s (List.mem_append_left _ hs)
    · rw [List.mem_singleton.1 hs]
      exact (hj.foot _ List.mem_cons_self).imp hi
  · rcases List.mem_append.1 hs with hs | hs
    · exact h.dom s (List.mem_append_left _ hs)
    · rw [List.mem_singleton.1 hs]
      exact fun b hb => hj.dom _ List.mem_cons_self b hb
  · rw [List.mem_singleton.1 hs] at h2
    obtain ⟨r, hr, h3⟩ := h2
    exact hp.2.2 a ha r hr b h1 h3
/-- Append onto a slice that is full: it is laid anew. -/
theorem l_appendF {P : Program} {n : Nat} {K : Slots → World → Prop} {L : Slots} {G : Nat} {w0 w : World} {H : List Res} {all : Array Oper} {l : List Oper} {dst ty : Nat} {pos : String} {af : Array Edge} {s x : Operand} {t e sz bytes m j c : Nat} {z : Value} {A : Option Addr} {cs news : List Value} {p : Addr}
    (ht : P.underlying t = some (.slice e)) (hi : (P.info? e).map (fun i => (i.zero, i.size, i.bytes)) = some (some z, sz, bytes)) (hzs : z.cells.size = sz)
    (hv : ev L s = some (.slice A m m)) (hl0 : cs.length = m * sz) (hA : A = none → m = 0) (hcs : ∀ b, A = some b → ∀ i u, cs[i]? = some u → w.cell? (b.add i) = some u)
    (hx : ev L x = some (.slice (some p) j c)) (hl : news.length = j * sz) (hnews : ∀ i u, news[i]? = some u → w.cell? (p.add i) = some u) (hj : 0 < j)
    (hbytes : (m + j) * bytes ≤ 140737488355328) (hby : Nat.blt 0 bytes = true) (hs : St G w0 w H) (hd : Nat.blt dst n = true)
    (k : ∀ v' w1, Ext w w1 → St G w0 w1 (.row 0 e sz v' (m + j) (cs ++ news) :: H) → Wl P n all l K ((dst, v') :: L) w1) :
    Wl P n all (⟨some dst, .call { callee := .builtin .append, args := #[s, x], argTypes := #[t, t] }, ty, pos, af, none⟩ :: l) K L w := by
  obtain ⟨i, hi0, hi1⟩ := Option.map_eq_some_iff.1 hi
  simp only [Prod.mk.injEq] at hi1
  obtain ⟨hz0, hz1, hz2⟩ := hi1
  have hb0 : 0 < bytes := by simpa using hby
  have hmj : m + j ≤ 140737488355328 := Nat.le_trans (Nat.le_mul_of_pos_right _ hb0) hbytes
  have key : ∃ old, old < m + j ∧ (Builtin.append_ #[t, t] ty #[.slice A m m, .slice (some p) j c]).run P w = .ok (.slice (some ⟨w.heap.size, 0, none⟩) (m + j) (grownCap w (m + j) old e)) (w.drew.alloc (.cells (cs.toArray ++ news.toArray ++ Builtin.zeroCells z.cells (grownCap w (m + j) old e - (m + j))) e)) := by
    cases A with
    | none =>
      have hm0 := hA rfl
      subst hm0
      have hc0 : cs = [] := List.eq_nil_of_length_eq_zero (by simpa using hl0)
      subst hc0
      refine ⟨0, by omega, ?_⟩
      have := run_append_nil (P := P) w t ty e i z ht hi0 hz0 p j c news (by rw [hz1]; exact hl) hnews hj (by omega) (by rw [hz2]; have := hbytes; simp only [Nat.zero_add] at this; omega)
      simpa using this
    | some b => exact ⟨m, by omega, run_append_grow (P := P) w t ty e i z ht hi0 hz0 b m m cs (by rw [hz1]; exact hl0) (hcs b rfl) p j c news (by rw [hz1]; exact hl) hnews (by omega) (by omega) (by rw [hz2]; exact growslice_fits (by omega) hbytes)⟩
  obtain ⟨old, ho, hr⟩ := key
  have hge := grownCap_ge w (m + j) old e
  have hcm : grownCap w (m + j) old e ≤ maxLen := grownCap_le_maxLen w (m + j) old e (by simp only [maxLen]; omega)
  let cells : List Value := (cs.toArray ++ news.toArray ++ Builtin.zeroCells z.cells (grownCap w (m + j) old e - (m + j))).toList
  have hex : Ext w (w.drew.alloc (.cells cells.toArray e)) := (Ext.drew w).trans (Ext.alloc _ _)
  have hcl : cells.length = grownCap w (m + j) old e * sz := by
    show (cs.toArray ++ news.toArray ++ Builtin.zeroCells z.cells (grownCap w (m + j) old e - (m + j))).toList.length = _
    rw [Array.length_toList]
    simp only [Array.size_append, List.size_toArray, size_zeroCells, hzs, hl0, hl, ← Nat.add_mul]
    congr 1
    omega
  have hct : cells.take ((m + j) * sz) = cs ++ news := by
    have h2 : (m + j) * sz = (cs ++ news).length := by rw [List.length_append, hl0, hl, Nat.add_mul]
    rw [h2]
    simp [cells, ← List.append_assoc]
  have hca : cells.toArray = cs.toArray ++ news.toArray ++ Builtin.zeroCells z.cells (grownCap w (m + j) old e - (m + j)) := by simp only [cells, Array.toArray_toList]
  rw [← hca] at hr
  clear_value cells
  have hst : St G w0 (w.drew.alloc (.cells cells.toArray e)) (.pt w.heap.size cells e :: H) := st_new (hs.ext (Ext.drew w)) cells e
  refine l_val (v := .slice (some ⟨w.heap.size, 0, none⟩) (m + j) (grownCap w (m + j) old e)) (w1 := w.drew.alloc (.cells cells.toArray e)) hd (fun a ha => by simp [execOp, resolve, invoke, builtin, ha.ev hv, ha.ev hx, hr]) (k _ _ hex ?_)
  refine hst.turn (r' := .row 0 e sz (.slice (some ⟨w.heap.size, 0, none⟩) (m + j) (grownCap w (m + j) old e)) (m + j) (cs ++ news)) (fun h => h.mono (fun k hk => hk.imp id (fun h => ?_))) ((hst.foot _ List.mem_cons_self).imp (fun w' hw' => ⟨?_, .inr ⟨w.heap.size, _, cells.toArray, rfl, Nat.zero_le _, hw', hge, hcm, by simpa using hcl, ?_⟩⟩)) (fun k hk => ?_)
  · have : k = w.heap.size := h
    subst this
    rfl
  · rw [List.length_append, hl0, hl, Nat.add_mul]
  · simpa using hct
  · simp [Res.fp, Value.ownBlock] at hk
    exact hk.symm
/-- What a function does to one element of a row of one's own. -/
def DoOk {α : Type} (P : Program) (f : Nat) (cap : List Value) (d : Kd α) (e : Nat) (w0 : World) (ok : Nat → Prop) (xs : List α) : Prop :=
  ∀ (w : World) (g c i : Nat) (cs : List Value) (H : List Res) (x : α), xs[i]? = some x → St 0 w0 w (.row 0 e d.sz (.slice (some ⟨g, 0, none⟩) xs.length c) xs.length cs :: H) → d.K w0 ok x ((cs.drop (i * d.sz)).take d.sz) →
    Calls P f (.pointer (some ⟨g, 0 + i * d.sz, none⟩) :: cap).toArray w (fun e' w' => e' = .returned (.tuple #[]) ∧ ∃ (cx : List Value) (F : Nat → Prop), cx.length = d.sz ∧
      St 0 w0 w' (.row 0 e d.sz (.slice (some ⟨g, 0, none⟩) xs.length c) xs.length (cs.take (i * d.sz) ++ cx ++ cs.drop (i * d.sz + d.sz)) :: .ro F (fun w' => d.K w' F x cx) :: H))
end Go.Proofs.Ytfhghnhgcdiknaa
