/- More rules of the small logic: rows that are appended to and written, equality, slices. No condition. -/
import Derived.Test.YtfhghnhgcdiknaaOps
import Derived.Maps.AppendAt
import Derived.Laws.OwnMore
import Derived.Deep.AppendLies
namespace Go.Proofs.Ytfhghnhgcdiknaa
open Go.RowKit
section
variable {P : Program} {n : Nat} {K : Slots → World → Prop} {L : Slots} {G : Nat} {w0 w w1 : World} {H R : List Res} {all : Array Oper} {l : List Oper} {d ty : Nat} {pos : String} {af : Array Edge}

/-! ### Rows -/
theorem row_len {base e sz m : Nat} {v : Value} {cs : List Value} (h : w.ownsRow base e sz v m cs) : cs.length = m * sz := h.1
/-- A row's value is a slice. -/
theorem row_slice {base e sz m : Nat} {v : Value} {cs : List Value} (h : w.ownsRow base e sz v m cs) : ∃ A c, v = .slice A m c ∧ m ≤ c ∧ c ≤ 9223372036854775807 ∧ (∀ g, v.ownBlock = some g ↔ A = some ⟨g, 0, none⟩) ∧ (∀ p, A = some p → ∃ g, p = ⟨g, 0, none⟩) := by
  rcases h.2 with ⟨rfl, rfl⟩ | ⟨g, cap, cur, rfl, hb, hg, hnc, hcm, _⟩
  · exact ⟨none, 0, rfl, Nat.le_refl _, by omega, by simp [Value.ownBlock], fun p hp => by cases hp⟩
  · refine ⟨_, cap, rfl, hnc, by simpa [maxLen] using hcm, fun g' => ?_, fun p hp => ⟨g, (Option.some.inj hp).symm⟩⟩
    simp [Value.ownBlock]
theorem row_cells {base e sz m c g : Nat} {cs : List Value} (h : w.ownsRow base e sz (.slice (some ⟨g, 0, none⟩) m c) m cs) (o : Nat) : Cells w g o (cs.drop o) := by
  intro j u hu
  rw [List.getElem?_drop] at hu
  have h1 := h.cells (g := g) rfl (o + j) u hu
  rwa [add_plain, Nat.zero_add] at h1
theorem row_store {base e sz m c g : Nat} {cs : List Value} (h : w.ownsRow base e sz (.slice (some ⟨g, 0, none⟩) m c) m cs) {T : TypeId} {o : Nat} {vs : List Value} {v : Value} (hv : v.cells = vs.toArray) (hz : szOf P T = some vs.length) (h1 : ∀ u ∈ vs, u.oneCell' = true) (hfit : o + vs.length ≤ cs.length) :
    ∃ w1, (storeVar T ⟨g, o, none⟩ v).run P w = .ok () w1 ∧ w1.ownsRow base e sz (.slice (some ⟨g, 0, none⟩) m c) m (cs.take o ++ vs ++ cs.drop (o + vs.length)) ∧ w1.os = w.os ∧ w1.tape = w.tape ∧ w1.output = w.output ∧ w1.heap.size = w.heap.size ∧ w.drawn ≤ w1.drawn ∧ ∀ k, k ≠ g → w1.heap[k]? = w.heap[k]? := by
  rcases h.2 with ⟨h', _⟩ | ⟨g', cap', cur, h', hb, hg, hnc, hcm, hcs, htake⟩
  · simp at h'
  · simp only [Value.slice.injEq, Option.some.injEq, Addr.mk.injEq, and_true, true_and] at h'
    obtain ⟨rfl, rfl⟩ := h'
    have hl : cs.length ≤ cur.size := by rw [← htake, List.length_take]; simp; omega
    have hst := run_storeVar (P := P) (T := T) (o := o) (cur := cur.toList) (by simpa using hg) hv hz h1 (by simp; omega)
    refine ⟨_, hst, ⟨?_, .inr ⟨g, c, _, rfl, hb, setRow_heap w g cur _ e _ hg, hnc, hcm, ?_, ?_⟩⟩, rfl, rfl, rfl, by simp, Nat.le_refl _, fun k hk => setRow_other w g k _ hk⟩
    · have := h.1
      simp only [List.length_append, List.length_take, List.length_drop]
      omega
    · simp only [List.size_toArray, List.length_append, List.length_take, List.length_drop, Array.length_toList]
      omega
    · have h2 : m * sz = cs.length := h.1.symm
      rw [h2]
      rw [h2] at htake
      apply List.ext_getElem?
      intro j
      rw [← htake]
      have hcl : cs.length ≤ cur.toList.length := by simpa using hl
      simp only [List.getElem?_take, List.getElem?_append, List.length_append, List.length_take, List.getElem?_drop]
      have : min o (min cs.length cur.toList.length) = o := by omega
      have h3 : min o cur.toList.length = o := by omega
      have hmin : min cs.length cur.toList.length = cs.length := by omega
      rw [this, h3]
      simp only [hmin]
      by_cases hj : j < cs.length
      · rw [if_pos hj]
        by_cases hjo : j < o
        · simp only [hjo, if_true]
          have : j < o + vs.length := by omega
          simp only [this, if_true]
          rw [if_pos hj]
        · by_cases hjv : j < o + vs.length
          · simp only [hjo, if_false, hjv, if_true]
          · simp only [hjo, if_false, hjv]
            have : o + vs.length + (j - (o + vs.length)) = j := by omega
            rw [this, if_pos hj]
      · rw [if_neg hj]
        have h4 : ¬ j < o := by omega
        have h5 : ¬ j < o + vs.length := by omega
        simp only [h4, if_false, h5]
        have : o + vs.length + (j - (o + vs.length)) = j := by omega
        rw [this, if_neg hj]
/-- A store into a row of one's own. -/
theorem l_storeR {x y : Operand} {T base e sz m c g o : Nat} {v : Value} {vs cs cs' : List Value} {H' : List Res} (hx : ev L x = some (.pointer (some ⟨g, o, none⟩))) (hy : ev L y = some v) (hv : v.cells = vs.toArray) (hz : szOf P T = some vs.length) (h1 : ∀ u ∈ vs, u.oneCell' = true)
    (hG : G ≤ w0.heap.size) (hs : St G w0 w H) (hm : Repl (.row base e sz (.slice (some ⟨g, 0, none⟩) m c) m cs) (.row base e sz (.slice (some ⟨g, 0, none⟩) m c) m cs') H H') (hfit : o + vs.length ≤ cs.length) (he : cs.take o ++ vs ++ cs.drop (o + vs.length) = cs')
    (k : ∀ w1, w1.heap.size = w.heap.size → (∀ k, k ≠ g → w1.heap[k]? = w.heap[k]?) → St G w0 w1 H' → Wl P n all l K L w1) : Wl P n all (⟨none, .store T x y, ty, pos, af, none⟩ :: l) K L w := by
  subst he
  obtain ⟨H0, hp1, hp2⟩ := hm.front
  have hs1 := hs.perm hp1
  have hown := hs1.get (r := .row base e sz (.slice (some ⟨g, 0, none⟩) m c) m cs) List.mem_cons_self
  obtain ⟨w1, hr, hown1, h2, h3, h4, h5, hdr, h6⟩ := row_store (P := P) (T := T) hown hv hz h1 hfit
  refine l_skip (w1 := w1) (fun a ha => by simp [execOp, Instr.storeAt, ha.ev hx, ha.ev hy, Instr.sureAddr, hr]) (k w1 h5 h6 ((hs1.write (w1 := w1) (r' := .row base e sz _ m _) hG hdr h2 h3 h4 (by omega) (fun k _ hk => h6 k (fun he => hk (by subst he; rfl))) (fun k hk => ?_) ?_).perm hp2.symm))
  · refine ⟨?_, .inl hk⟩
    rw [h5]
    exact (hs1.dom _ List.mem_cons_self k hk).2
  · intro w' hw'
    exact World.ownsRow.kept hown1 (row := none) ⟨rfl, rfl, rfl, Nat.le_refl _, fun _ _ _ => rfl⟩ (.inr (by simp [Value.ownBlock])) |> fun h => by
      rcases h.2 with ⟨h', _⟩ | ⟨g', cap', cur, h', hb, hg, hnc, hcm, hcs, htake⟩
      · simp at h'
      · simp only [Value.slice.injEq, Option.some.injEq, Addr.mk.injEq, and_true, true_and] at h'
        obtain ⟨rfl, rfl⟩ := h'
        exact ⟨h.1, .inr ⟨g, c, cur, rfl, hb, (hw' g (.inr rfl) (Array.getElem?_eq_some_iff.1 hg).1).trans hg, hnc, hcm, hcs, htake⟩⟩
/-- Whole elements read out of a row of one's own. -/
theorem r_loadNR {x : Operand} {T base e sz m c g o k' : Nat} {cs : List Value} (hx : ev L x = some (.pointer (some ⟨g, o, none⟩))) (hs : St G w0 w H) (hm : Repl (.row base e sz (.slice (some ⟨g, 0, none⟩) m c) m cs) (.row base e sz (.slice (some ⟨g, 0, none⟩) m c) m cs) H H) (hT : isAggB P T = some true) (hz : szOf P T = some k') (hfit : o + k' ≤ cs.length) : Runs P n L ⟨some d, .load T x, ty, pos, af, none⟩ (.agg ((cs.drop o).take k').toArray) w := by
  have h := row_cells (hs.get hm.mem) o
  refine r_loadN hx hT (fun j u hu => h j u ?_) (by rw [hz]; simp; omega)
  rw [List.getElem?_take] at hu
  split at hu
  · exact hu
  · cases hu
theorem r_load1R {x : Operand} {T base e sz m c g o : Nat} {v : Value} {cs : List Value} (hx : ev L x = some (.pointer (some ⟨g, o, none⟩))) (hs : St G w0 w H) (hm : Repl (.row base e sz (.slice (some ⟨g, 0, none⟩) m c) m cs) (.row base e sz (.slice (some ⟨g, 0, none⟩) m c) m cs) H H) (hT : isAggB P T = some false) (hv : cs[o]? = some v) : Runs P n L ⟨some d, .load T x, ty, pos, af, none⟩ (v) w := by
  have h := row_cells (hs.get hm.mem) 0 o v (by simpa using hv)
  exact r_load1 hx hT (by simpa using h)

/-! ### append -/
/-- Append draws at most once and never puts a draw back. -/
theorem append_drawn {w w1 : World} {base m c : Nat} {t ty e : TypeId} {i : TypeInfo} {z v v' : Value} {n : Nat} {xs : List Value} {a : Addr} {news : List Value} (ht : P.underlying t = some (.slice e)) (hi : P.info? e = some i) (hz : i.zero = some z)
    (hown : w.ownsRow base e i.size v n xs) (hl : news.length = m * i.size) (hnews : ∀ j u, news[j]? = some u → w.cell? (a.add j) = some u) (h1 : ∀ u ∈ news, u.oneCell' = true)
    (h63 : n + m ≤ maxLen) (hbytes : (n + m) * i.bytes ≤ 140737488355328)
    (hr : (Builtin.append_ #[t, t] ty #[v, .slice (some a) m c]).run P w = .ok v' w1) : w.drawn ≤ w1.drawn := by
  have hsmall : n + m ≤ 9223372036854775807 := by simp only [maxLen] at h63; omega
  rcases hown.2 with ⟨rfl, rfl⟩ | ⟨g, cap, cur, rfl, hbg, hg, hnc, hcm, hcs, htake⟩
  · by_cases hm : m = 0
    · subst hm
      have hn : news = [] := List.eq_nil_of_length_eq_zero (by simpa using hl)
      subst hn
      simp [Builtin.append_, run_underlying ht, sizeOf, typeInfo, hi, Builtin.lenOf, Builtin.firstCells, loadCells, loadCellsFrom] at hr
      exact Nat.le_of_eq (congrArg World.drawn hr.2)
    · have hq := run_append_nil (P := P) w t ty e i z ht hi hz a m c news hl hnews (by omega) (by omega) (by have hb := hbytes; simp only [Nat.zero_add] at hb; omega)
      rw [hr] at hq
      injection hq with _ hq
      rw [hq]
      exact Nat.le_succ _
  · by_cases hroom : n + m ≤ cap
    · have hfit : n * i.size + news.length ≤ cur.size := by rw [hl, hcs, ← Nat.add_mul]; exact Nat.mul_le_mul_right _ hroom
      have hq := run_append_room (P := P) w t ty e i ht hi g n cap cur hg a m c news hl hnews h1 hroom hfit
      rw [hr] at hq
      injection hq with _ hq
      rw [hq]
      exact Nat.le_refl _
    · have holds : ∀ j u, xs[j]? = some u → w.cell? ((⟨g, 0, none⟩ : Addr).add j) = some u := hown.cells (g := g) rfl
      have hq := run_append_grow (P := P) w t ty e i z ht hi hz ⟨g, 0, none⟩ n cap xs hown.1 holds a m c news hl hnews (by omega) (by omega) (growslice_fits (by omega) hbytes)
      rw [hr] at hq
      injection hq with _ hq
      rw [hq]
      exact Nat.le_succ _
theorem l_append {s x : Operand} {t e sz bytes base m j c : Nat} {z v : Value} {cs news : List Value} {p : Addr} {H' : Value → List Res} (ht : P.underlying t = some (.slice e)) (hi : (P.info? e).map (fun i => (i.zero, i.size, i.bytes)) = some (some z, sz, bytes)) (hzs : z.cells.size = sz) (hsz : Nat.blt 0 sz = true)
    (hv : ev L s = some v) (hx : ev L x = some (.slice (some p) j c)) (hl : news.length = j * sz) (hnews : ∀ i u, news[i]? = some u → w.cell? (p.add i) = some u) (h1 : ∀ u ∈ news, u.oneCell' = true)
    (hbytes : (m + j) * bytes ≤ 140737488355328) (hby : Nat.blt 0 bytes = true) (hG : G ≤ w0.heap.size) (hbase : base ≤ w.heap.size) (hs : St G w0 w H) (hm : ∀ v', Repl (.row base e sz v m cs) (.row base e sz v' (m + j) (cs ++ news)) H (H' v')) (hd : Nat.blt d n = true)
    (k : ∀ v' w1, w.heap.size ≤ w1.heap.size → (∀ k, k < w.heap.size → v.ownBlock ≠ some k → w1.heap[k]? = w.heap[k]?) → St G w0 w1 (H' v') → Wl P n all l K ((d, v') :: L) w1) :
    Wl P n all (⟨some d, .call { callee := .builtin .append, args := #[s, x], argTypes := #[t, t] }, ty, pos, af, none⟩ :: l) K L w := by
  obtain ⟨i, hi0, hi1⟩ := Option.map_eq_some_iff.1 hi
  simp only [Prod.mk.injEq] at hi1
  obtain ⟨hz0, hz1, hz2⟩ := hi1
  obtain ⟨H0, hp1, _⟩ := (hm v).front
  have hs1 := hs.perm hp1
  have hown := hs1.get (r := .row base e sz v m cs) List.mem_cons_self
  have hb0 : 0 < bytes := by simpa using hby
  have hmj : m + j ≤ 140737488355328 := Nat.le_trans (Nat.le_mul_of_pos_right _ hb0) hbytes
  obtain ⟨v', w1, hr, hown1, hg, _, hat⟩ := run_append_own_at (P := P) w base t ty e i z sz bytes ht hi0 hz0 hz1 hz2 hzs (by simpa using hsz) v m cs hown p j c news hl hnews h1 (by simp only [maxLen]; omega) hbytes hbase
  refine l_val (w1 := w1) (v := v') hd (fun a ha => by simp [execOp, resolve, invoke, builtin, ha.ev hv, ha.ev hx, hr]) (k v' w1 hg.size (fun k hk hne => hg.block k hk (fun he => hne he.symm)) ?_)
  obtain ⟨H1, hp3, hp4⟩ := (hm v').front
  have hs2 := hs.perm hp3
  have hdr : w.drawn ≤ w1.drawn := append_drawn (P := P) ht hi0 hz0 (by rw [hz1]; exact hown) (by rw [hz1]; exact hl) hnews h1 (by simp only [maxLen]; omega) (by rw [hz2]; exact hbytes) hr
  refine (hs2.write (w1 := w1) (r' := .row base e sz v' (m + j) (cs ++ news)) hG hdr hg.os hg.tape hg.output hg.size (fun k hk hr => hg.block k hk (fun he => hr he.symm)) (fun k hk => ?_) ?_).perm hp4.symm
  · have hlt := (hown1.lt k hk).2
    refine ⟨hlt, ?_⟩
    have hk' : v'.ownBlock = some k := hk
    rcases hat with hat | hat
    · left
      exact hat.symm.trans hk'
    · right
      rw [hat] at hk'
      injection hk' with hk'
      omega
  · intro w' hw'
    rcases hown1.2 with ⟨rfl, h0⟩ | ⟨g', cap', cur, rfl, hb, hgg, hnc, hcm, hcs, htake⟩
    · exact ⟨hown1.1, .inl ⟨rfl, h0⟩⟩
    · exact ⟨hown1.1, .inr ⟨g', cap', cur, rfl, hb, (hw' g' (.inr rfl) (Array.getElem?_eq_some_iff.1 hgg).1).trans hgg, hnc, hcm, hcs, htake⟩⟩
/-- Nothing is appended: the source is nil. -/
theorem l_append0 {s x : Operand} {t e sz bytes base m c : Nat} {z v : Value} {cs : List Value} (ht : P.underlying t = some (.slice e)) (hi : (P.info? e).map (fun i => (i.zero, i.size, i.bytes)) = some (some z, sz, bytes))
    (hv : ev L s = some v) (hx : ev L x = some (.slice none 0 c)) (hown : w.ownsRow base e sz v m cs) (hd : Nat.blt d n = true)
    (k : Wl P n all l K ((d, v) :: L) w) :
    Wl P n all (⟨some d, .call { callee := .builtin .append, args := #[s, x], argTypes := #[t, t] }, ty, pos, af, none⟩ :: l) K L w := by
  obtain ⟨i, hi0, hi1⟩ := Option.map_eq_some_iff.1 hi
  refine l_val (w1 := w) (v := v) hd (fun a ha => ?_) k
  rcases hown.2 with ⟨rfl, rfl⟩ | ⟨g', cap', cur, rfl, hb, hgg, hnc, hcm, hcs, htake⟩
  · simp [execOp, resolve, invoke, builtin, ha.ev hv, ha.ev hx, Builtin.append_, run_underlying ht, sizeOf, typeInfo, hi0, Builtin.lenOf, Builtin.firstCells, loadCells]
  · have hnc' : ¬ cap' < m := by omega
    simp [execOp, resolve, invoke, builtin, ha.ev hv, ha.ev hx, Builtin.append_, run_underlying ht, sizeOf, typeInfo, hi0, Builtin.lenOf, Builtin.firstCells, storeCells, hnc']
/-- A new row of one element; of none. -/
theorem row_of_pt {b e sz : Nat} {cs : List Value} {m base : Nat} (hb : base ≤ b) (hl : cs.length = m * sz) (hm : m ≤ 9223372036854775807) (h : w.heap[b]? = some (.cells cs.toArray e (0, 0))) : w.ownsRow base e sz (.slice (some ⟨b, 0, none⟩) m m) m cs :=
  ⟨hl, .inr ⟨b, m, cs.toArray, rfl, hb, h, Nat.le_refl _, by simpa [maxLen] using hm, by simpa using hl, by rw [← hl]; simp⟩⟩
theorem St.pt_row {H : List Res} {b e sz : Nat} {cs : List Value} {m base : Nat} (hs : St G w0 w (.pt b cs e :: H)) (hb : base ≤ b) (hl : cs.length = m * sz) (hm : m ≤ 9223372036854775807) : St G w0 w (.row base e sz (.slice (some ⟨b, 0, none⟩) m m) m cs :: H) := by
  have hf := hs.foot _ List.mem_cons_self
  refine hs.turn (r' := .row base e sz (.slice (some ⟨b, 0, none⟩) m m) m cs) (fun h => h.mono (fun k hk => hk.imp id (fun h => ?_))) (hf.imp (fun w' hw' => row_of_pt hb hl hm hw')) (fun k hk => ?_)
  · have : k = b := h
    subst this
    rfl
  · simp [Res.fp, Value.ownBlock] at hk
    exact hk.symm
theorem row_none (w : World) (base e sz : Nat) : w.ownsRow base e sz (.slice none 0 0) 0 [] := World.ownsRow_nil w base e sz
/-- A nil slice is a row of one's own. -/
theorem St.nil_row {H : List Res} (hs : St G w0 w H) (base e sz : Nat) : St G w0 w (.row base e sz (.slice none 0 0) 0 [] :: H) :=
  ⟨hs.below, hs.drawn, fun r hr => by
    rcases List.mem_cons.1 hr with rfl | hr
    · exact fun w' _ => row_none w' base e sz
    · exact hs.foot r hr, fun r hr => by
    rcases List.mem_cons.1 hr with rfl | hr
    · intro b hb; simp [Res.fp, Value.ownBlock] at hb
    · exact hs.dom r hr, List.pairwise_cons.2 ⟨fun r _ b hb => by simp [Res.fp, Value.ownBlock] at hb, hs.sep⟩⟩
theorem l_bs0 {H : List Res} {t e sz : Nat} (ht : P.underlying t = some (.slice e)) (hz : szOf P e = some sz) (hd : Nat.blt d n = true) (hs : St G w0 w H)
    (k : ∀ w1 b, w.heap.size = b → Ext w w1 → St G w0 w1 (.pt b [] e :: H) → Wl P n all l K ((d, .slice (some ⟨b, 0, none⟩) 0 0) :: L) w1) : Wl P n all (⟨some d, .buildSlice t 0 #[], ty, pos, af, none⟩ :: l) K L w := by
  refine l_val (v := .slice (some ⟨w.heap.size, 0, none⟩) 0 0) (w1 := w.alloc (.cells #[] e)) hd (fun a ha => ?_) (k _ _ rfl (Ext.alloc _ _) (st_new hs [] e))
  unfold szOf at hz
  obtain ⟨i, hi1, hi2⟩ := Option.map_eq_some_iff.1 hz
  simp [execOp, Instr.buildSlice, run_underlying ht, sizeOf, typeInfo, hi1, Instr.fill, newRow]
  have h0 : Array.range 0 = #[] := by simp [Array.eq_empty_iff_size_eq_zero]
  simp [h0]

/-! ### Slices that are written out -/
theorem fold_seg (off : Nat) : ∀ (vs : List Value) (j : Nat) (cells : List Value), off + j + vs.length ≤ cells.length →
    (vs.zipIdx j).foldl (fun (cs : Array Value) (p : Value × Nat) => cs.setIfInBounds (off + p.2) p.1) cells.toArray = (cells.take (off + j) ++ vs ++ cells.drop (off + j + vs.length)).toArray
  | [], j, cells, _ => by simp
  | v :: vs, j, cells, h => by
    simp only [List.length_cons] at h
    rw [List.zipIdx_cons, List.foldl_cons]
    simp only [List.setIfInBounds_toArray]
    have h1 := fold_seg off vs (j + 1) (cells.set (off + j) v) (by rw [List.length_set]; omega)
    rw [h1]
    have e := list_seg_step cells (off + j) v vs (by omega)
    have e2 : off + (j + 1) = off + j + 1 := by omega
    rw [e2, e]
    congr 3
theorem fill_all (sz : Nat) : ∀ (parts : List Value) (k : Nat) (cells : List Value), (∀ v ∈ parts, v.cells.size = sz) → (k + parts.length) * sz ≤ cells.length →
    Instr.fill (fun i => some (i * sz, sz)) cells.toArray ((parts.zipIdx k).map fun p => (p.2, p.1)) = some (cells.take (k * sz) ++ parts.flatMap (fun v => v.cells.toList) ++ cells.drop ((k + parts.length) * sz)).toArray
  | [], k, cells, _, _ => by simp [Instr.fill]
  | v :: parts, k, cells, h1, h2 => by
    have hv := h1 v (by simp)
    have hle : k * sz + sz ≤ cells.length := by
      have : (k + 1) * sz ≤ (k + (v :: parts).length) * sz := Nat.mul_le_mul_right _ (by simp only [List.length_cons]; omega)
      rw [Nat.succ_mul] at this
      omega
    rw [List.zipIdx_cons, List.map_cons]
    simp only [Instr.fill, hv, List.size_toArray]
    rw [if_neg (by simp <;> omega)]
    have hf := fold_seg (k * sz) v.cells.toList 0 cells (by simp [hv]; omega)
    have e0 : v.cells.zipIdx.foldl (fun (cs : Array Value) (p : Value × Nat) => match p with | (c, j) => cs.setIfInBounds (k * sz + j) c) cells.toArray = (cells.take (k * sz) ++ v.cells.toList ++ cells.drop (k * sz + sz)).toArray := by
      rw [← Array.foldl_toList, Array.toList_zipIdx]
      simpa [hv] using hf
    rw [e0]
    have hl : (cells.take (k * sz) ++ v.cells.toList ++ cells.drop (k * sz + sz)).length = cells.length := by
      simp only [List.length_append, List.length_take, List.length_drop, Array.length_toList, hv]; omega
    rw [fill_all sz parts (k + 1) _ (fun u hu => h1 u (by simp [hu])) (by rw [hl]; simp only [List.length_cons] at h2; rw [show k + 1 + parts.length = k + (parts.length + 1) by omega]; exact h2)]
    congr 2
    have hA : (cells.take (k * sz) ++ v.cells.toList).length = (k + 1) * sz := by
      simp only [List.length_append, List.length_take, Array.length_toList, hv, Nat.succ_mul]; omega
    rw [List.take_append_of_le_length (by rw [hA]; exact Nat.le_refl _), ← hA, List.take_length, List.drop_append, hA]
    rw [List.drop_eq_nil_of_le (by
      simp only [List.length_append, List.length_take, Array.length_toList, hv]
      have : (k + 1) * sz ≤ (k + 1 + parts.length) * sz := Nat.mul_le_mul_right _ (by omega)
      rw [Nat.succ_mul] at this
      omega)]
    rw [List.nil_append, List.drop_drop, List.flatMap_cons]
    simp only [List.append_assoc, List.length_cons]
    congr 3
    congr 1
    have e1 : (k + 1 + parts.length) * sz = (k + (parts.length + 1)) * sz := by congr 1; omega
    have : (k + 1) * sz ≤ (k + 1 + parts.length) * sz := Nat.mul_le_mul_right _ (by omega)
    have e3 : (k + 1) * sz = k * sz + sz := Nat.succ_mul _ _
    omega
theorem l_bsN {H : List Res} {t e sz : Nat} {parts : Array (Nat × Operand)} {m : Nat} {vs cs : List Value} (ht : P.underlying t = some (.slice e)) (hz : szOf P e = some sz) (hzero : (zeroOf P e).isSome = true)
    (hp : parts.toList.map (·.1) = List.range m) (hv : evs L (parts.toList.map (·.2)) = some vs) (hsz : ∀ v ∈ vs, v.cells.size = sz) (hcs : vs.flatMap (fun v => v.cells.toList) = cs) (hm : m * sz ≤ 1000) (hd : Nat.blt d n = true) (hs : St G w0 w H)
    (k : ∀ w1 b, w.heap.size = b → Ext w w1 → St G w0 w1 (.pt b cs e :: H) → Wl P n all l K ((d, .slice (some ⟨b, 0, none⟩) m m) :: L) w1) : Wl P n all (⟨some d, .buildSlice t m parts, ty, pos, af, none⟩ :: l) K L w := by
  subst hcs
  refine l_val (v := .slice (some ⟨w.heap.size, 0, none⟩) m m) (w1 := w.alloc (.cells (vs.flatMap (fun v => v.cells.toList)).toArray e)) hd (fun a ha => ?_) (k _ _ rfl (Ext.alloc _ _) (st_new hs _ e))
  unfold szOf at hz
  obtain ⟨i, hi1, hi2⟩ := Option.map_eq_some_iff.1 hz
  obtain ⟨zs, hzs⟩ := Option.isSome_iff_exists.1 hzero
  unfold zeroOf at hzs
  obtain ⟨z, hz1, _⟩ := Option.map_eq_some_iff.1 hzs
  rw [hi1] at hz1
  simp only [Option.bind_some] at hz1
  have hlen : vs.length = m := by
    have h1 := ha.evs hv
    have h2 := congrArg List.length h1
    have h3 := congrArg List.length hp
    simp at h2 h3
    omega
  have hpv : (parts.map fun p => (p.1, a.eval p.2)).toList = (vs.zipIdx 0).map fun p => (p.2, p.1) := by
    have h1 := ha.evs hv
    rw [List.map_map] at h1
    apply List.ext_getElem?
    intro j
    have h4 := congrArg (fun l : List Nat => l[j]?) hp
    have h5 := congrArg (fun l : List Value => l[j]?) h1
    simp only [List.getElem?_map, Array.toList_map, List.getElem?_zipIdx, Nat.zero_add] at h4 h5 ⊢
    cases hj : parts.toList[j]? with
    | none =>
      rw [hj] at h5
      simp at h5
      rw [List.getElem?_eq_none h5]
      rfl
    | some q =>
      rw [hj] at h4 h5
      simp only [Option.map_some, Function.comp] at h4 h5
      have hjm : j < m := by
        have := (List.getElem?_eq_some_iff.1 h4.symm).1
        simpa using this
      rw [List.getElem?_range hjm] at h4
      injection h4 with h4
      simp [← h5, h4]
  have hfill : ∀ X : Array Value, X.size = m * sz → Instr.fill (fun i => some (i * sz, sz)) X (parts.map fun p => (p.1, a.eval p.2)).toList = some (vs.flatMap (fun v => v.cells.toList)).toArray := by
    intro X hX
    have hf := fill_all sz vs 0 X.toList hsz (by simp [hlen, hX])
    rw [hpv]
    simp only [Nat.zero_mul, List.take_zero, List.nil_append, Nat.zero_add, hlen] at hf
    rw [List.drop_eq_nil_of_le (by simp [hX]), List.append_nil] at hf
    simpa using hf
  have hbig : ¬ m * sz > 2 ^ 24 := by omega
  simp only [execOp, Instr.buildSlice, Sem.run_bind, run_underlying ht, Result.andThen_ok, sizeOf, typeInfo, run_program, hi1, Sem.run_pure, hi2, hbig, if_false, Sem.run_ite]
  by_cases h0 : m * sz = 0
  · simp only [h0, if_true]
    rw [hfill _ (by simp [h0])]
    simp [newRow]
  · simp only [h0, if_false]
    have hzr : (zeroValue e).run P w = .ok z w := by simp [zeroValue, typeInfo, hi1, hz1]
    rw [hzr]
    simp only [Result.andThen_ok]
    rw [hfill _ (by simp)]
    simp [newRow]
end
end Go.Proofs.Ytfhghnhgcdiknaa
