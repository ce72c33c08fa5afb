/- The sort, by the shelf's contract. -/
import Derived.Test.YtcapkhhflhpnpaaWg
import Derived.Test.YtcapkhhflhpnpaaShelf
import Derived.Lib.QuietBelow
namespace Go.Proofs.Ytcapkhhflhpnpaa
open Go.RowKit Go.Lib Go.Sort
def cmpF (xs : List TProc) (i j : Fin xs.length) : Int := cmpP xs i.1 j.1 i.2 j.2
theorem cmpI_neg (x y : Int) : cmpI x y < 0 ↔ x < y := by unfold cmpI; repeat' split <;> simp_all <;> omega
theorem cmpI_zero (x y : Int) : cmpI x y = 0 ↔ x = y := by unfold cmpI; repeat' split <;> simp_all <;> omega
theorem lt_cmp (xs : List TProc) (i j : Fin xs.length) : ltOf (cmpF xs) i j = aheadB xs i.1 j.1 := by
  unfold ltOf cmpF cmpP
  rw [aheadB_eq i.2 j.2]
  simp only [orI, cmpI_zero]
  by_cases h1 : xs[i.1].Prio = xs[j.1].Prio
  · by_cases h2 : xs[i.1].Since = xs[j.1].Since
    · simp only [h1, h2, if_true, bne_self_eq_false, Bool.false_eq_true, if_false]
      split
      · rename_i h3
        rw [decide_eq_false (by omega), decide_eq_false (by omega)]
      · exact decide_eq_decide.2 (cmpI_neg _ _)
    · simp only [h1, h2, if_true, if_false, bne_self_eq_false, Bool.false_eq_true, bne_iff_ne, ne_eq, not_false_eq_true]
      exact decide_eq_decide.2 (cmpI_neg _ _)
  · have h1' : ¬ xs[j.1].Prio = xs[i.1].Prio := fun e => h1 e.symm
    simp only [h1, h1', if_true, if_false, bne_iff_ne, ne_eq, not_false_eq_true]
    exact decide_eq_decide.2 (cmpI_neg _ _)
theorem swo (xs : List TProc) : SWO (ltOf (cmpF xs)) := by
  refine ⟨fun x => ?_, fun x y z => ?_, fun x y z => ?_⟩ <;> simp only [lt_cmp]
  · exact ahead_irrefl xs _
  · exact ahead_trans
  · intro h1 h2
    by_cases e : x.1 = y.1
    · rw [e]; exact h2
    · by_cases e2 : y.1 = z.1
      · rw [← e2]; exact h1
      · have h3 := ahead_trans (ahead_tot e2 h2) (ahead_tot e h1)
        refine Bool.eq_false_iff.2 fun h4 => ?_
        have := ahead_trans h3 h4
        rw [ahead_irrefl] at this
        cases this
theorem grow_of_ext {w w' : World} (h : Ext w w') : ∃ q os, w' = grow (w.drewN q) os := by
  obtain ⟨p, hp⟩ := regrown_of_below h.bel
  refine ⟨w'.drawn - w.drawn, p.os, ?_⟩
  rw [hp]
  have hd := h.drawn
  rw [hp] at hd
  have hd : w.drawn ≤ p.d := hd
  show grow (redrawn w p.d) p.os = grow { w with drawn := w.drawn + (p.d - w.drawn) } p.os
  rw [show w.drawn + (p.d - w.drawn) = p.d by omega]
  rfl
theorem sortWorld_heap {α : Type} [Inhabited α] (enc : α → Value) (w : World) (blk off m : Nat) (d : Array α) (os : Array Obj) (k : Nat) (hk : k < w.heap.size) : (sortWorld enc w blk off m d os).heap[k]? = if blk = k then (w.heap[k]?).map (onCells (putCells enc off d)) else w.heap[k]? := by
  unfold sortWorld
  rw [heap_grow_old _ _ (by rw [size_putRow]; exact hk)]
  show ((w.heap.modify blk _)[k]?) = _
  rw [Array.getElem?_modify]
theorem cells_at {w w' : World} {b o : Nat} {cs : List Value} (h : Cells w b o cs) (hb : w'.heap[b]? = w.heap[b]?) : Cells w' b o cs := fun j v hj => by
  have := h j v hj
  unfold World.cell? at this ⊢
  simp only [hb]
  exact this
theorem sort_ok : SortOk := by
  intro w xs A c bl base m v is hrow hbl hlt hnd hle hbox hx
  rcases hrow.2 with ⟨rfl, rfl⟩ | ⟨g, cap, cur, rfl, hbg, hg, hmc, hcm, hcs, htake⟩
  · have he : is = [] := by
      have := hrow.1
      simp only [idx, List.length_map, Nat.zero_mul] at this
      exact List.eq_nil_of_length_eq_zero this
    subst he
    refine (AnyF.slices_SortFunc_none laysSlF06_f11 none 0 (.func (.func 12) #[] #[.pointer (some ⟨bl, 0, none⟩)]) w).mono ?_
    rintro e w1 ⟨rfl, rfl⟩
    exact ⟨rfl, by simpa using hrow, rfl, rfl, rfl, Nat.le_refl _, Nat.le_refl _, fun _ _ _ => rfl⟩
  · have hlen : is.length = m := by
      have := hrow.1
      simpa [idx] using this
    have hblk : g < w.heap.size := (Array.getElem?_eq_some_iff.1 hg).1
    by_cases h0 : m = 0
    · subst h0
      have he : is = [] := List.eq_nil_of_length_eq_zero hlen
      subst he
      refine (AnyF.slices_SortFunc_none laysSlF06_f11 (some ⟨g, 0, none⟩) cap (.func (.func 12) #[] #[.pointer (some ⟨bl, 0, none⟩)]) w).mono ?_
      rintro e w1 ⟨rfl, rfl⟩
      exact ⟨rfl, by simpa using hrow, rfl, rfl, rfl, Nat.le_refl _, Nat.le_refl _, fun _ _ _ => rfl⟩
    · have hne : 0 < is.length := by omega
      haveI : Inhabited (Fin xs.length) := ⟨⟨is[0], hlt _ (List.getElem_mem hne)⟩⟩
      let fs : List (Fin xs.length) := is.pmap (fun i h => ⟨i, h⟩) hlt
      have hfs : fs.map Fin.val = is := by
        simp only [fs, List.map_pmap]
        simp
      have hfl : fs.length = m := by rw [← hlen, ← hfs, List.length_map]
      let enc : Fin xs.length → Value := fun i => .int .i64 (i.1 : Int)
      have hidx : ∀ l : List (Fin xs.length), idx (l.map Fin.val) = l.map enc := fun l => by simp [idx, enc, Function.comp_def]
      have hxs : ∀ i : Fin xs.length, ∃ b o, A = some ⟨b, o, none⟩ ∧ g ≠ b ∧ Cells w b (o + i.1 * 18) (procCells xs[i.1]) := fun i => by
        obtain ⟨b, o, cs, hA, hok, hK, hc⟩ := hx.at_ i.2
        have := proc_cells hK
        subst this
        exact ⟨b, o, hA, fun e => hok (congrArg some e), hc⟩
      have hbl' : g ≠ bl := fun e => hbl (congrArg some e)
      have hcell : ∀ j, j < fs.toArray.size → w.cell? ⟨g, 0 + j, none⟩ = some (enc fs.toArray[j]!) := by
        intro j hj
        have hj' : j < fs.length := by simpa using hj
        have h1 := hrow.cells (g := g) rfl j (.int .i64 ((is[j]'(by omega) : Nat) : Int)) (by simp [idx, List.getElem?_eq_getElem (show j < is.length by omega)])
        have h2 : (is[j]'(by omega)) = (fs[j]).1 := by
          have : is[j]? = (fs.map Fin.val)[j]? := by rw [hfs]
          rw [List.getElem?_eq_getElem (by omega), List.getElem?_eq_getElem (by simpa using hj')] at this
          simpa using this
        rw [h2] at h1
        rw [getElem!_pos fs.toArray j hj]
        rw [Nat.zero_add]
        have e0 : (⟨g, j, none⟩ : Addr) = (⟨g, 0, none⟩ : Addr).add j := by
          unfold Addr.add
          split <;> simp_all
        rw [e0]
        simpa [enc] using h1
      have hcmp : CmpLays1 Try.prog 12 #[.pointer (some ⟨bl, 0, none⟩)] enc (cmpF xs) g 0 fs.toArray.size w := by
        intro q os dk hdk x y
        obtain ⟨b, o, hA, hgb, hcx⟩ := hxs x
        obtain ⟨b', o', hA', _, hcy⟩ := hxs y
        rw [hA] at hA'
        injection hA' with hA'
        injection hA' with e1 e2
        subst e1 e2
        have hbw : b < w.heap.size := World.block_lt_of_cell? w _ (by have := hcx 0 (.int .i64 xs[x.1].State) rfl; exact this)
        have hblw : bl < w.heap.size := World.block_lt_of_cell? w _ hbox
        have hm : ∀ k, k < w.heap.size → g ≠ k → (sortWorld enc w g 0 q dk os).heap[k]? = w.heap[k]? := fun k hk hgk => by rw [sortWorld_heap _ _ _ _ _ _ _ _ hk, if_neg hgk]
        refine (closure_any (c := c) x.1 y.1 _ x.2 y.2 ?_ (cells_at hcx (hm b hbw hgb)) (cells_at hcy (hm b hbw hgb))).mono ?_
        · rw [hA] at hbox
          have : (sortWorld enc w g 0 q dk os).cell? ⟨bl, 0, none⟩ = w.cell? ⟨bl, 0, none⟩ := by simp only [World.cell?, hm bl hblw hbl']
          rw [this]; exact hbox
        · rintro e w1 ⟨rfl, hs⟩
          exact ⟨rfl, grow_of_ext hs.toExt⟩
      have hH : Holds enc w g 0 fs.toArray := fun j hj => ⟨hcell j hj, by simp [World.frozen?, hg]⟩
      have hsz : fs.toArray.size = m := by simpa using hfl
      have hcall := Any.slices_SortFunc_total laysSlF6_f11 enc (fun _ => rfl) (cmpF xs) (swo xs) 12 #[.pointer (some ⟨bl, 0, none⟩)] g 0 cap fs.toArray w (fun args w => by kernel_rfl) hcmp hH hblk (by rw [hsz]; omega) (fun x y h1 h2 => by
        rw [lt_cmp] at h1 h2
        by_cases e : x.1 = y.1
        · exact Fin.ext e
        · have := ahead_tot e h1
          rw [h2] at this
          cases this)
      rw [hsz] at hcall
      refine hcall.mono ?_
      rintro e w1 ⟨rfl, q, os, rfl⟩
      have hms : ((fs.mergeSort fun x y => !(ltOf (cmpF xs)) y x).map Fin.val) = is.mergeSort (fun i j => !aheadB xs j i) := by
        rw [List.map_mergeSort (s := fun i j => !aheadB xs j i) (fun a _ b _ => by rw [lt_cmp]), hfs]
      refine ⟨rfl, ⟨?_, .inr ⟨g, cap, putCells enc 0 (fs.mergeSort fun x y => !(ltOf (cmpF xs)) y x).toArray cur, rfl, hbg, ?_, hmc, hcm, by simpa [putCells] using hcs, ?_⟩⟩, rfl, rfl, rfl, ?_, ?_, ?_⟩
      · simp [idx, hlen]
      · rw [sortWorld_heap _ _ _ _ _ _ _ _ hblk, if_pos rfl, hg]
        rfl
      · rw [← hms, hidx]
        apply List.ext_getElem?
        intro k
        simp only [Nat.mul_one, List.getElem?_take, Array.getElem?_toList]
        have hl2 : (fs.mergeSort fun x y => !(ltOf (cmpF xs)) y x).length = m := by simpa using hfl
        by_cases hk : k < m
        · rw [if_pos hk]
          have hkc : k < cur.size := by omega
          simp only [putCells, Array.getElem?_mapIdx, Array.getElem?_eq_getElem hkc, Option.map_some, List.size_toArray, hl2]
          rw [if_pos ⟨Nat.zero_le _, by omega⟩, getElem!_pos _ (k - 0) (by simpa [hfl] using hk), List.getElem?_map, List.getElem?_eq_getElem (by omega)]
          simp
        · rw [if_neg hk, List.getElem?_eq_none (by simpa [hl2] using hk)]
      · unfold sortWorld; rw [size_grow, size_putRow]; exact Nat.le_add_right _ _
      · show w.drawn ≤ (w.drawn + q); omega
      · intro k hk hne
        rw [sortWorld_heap _ _ _ _ _ _ _ _ hk, if_neg (fun e => hne (congrArg some e))]
end Go.Proofs.Ytcapkhhflhpnpaa
