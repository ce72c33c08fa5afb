/- Maps that are sets (each element is true): made, asked, written and ranged over, in the small logic. No condition. -/
import Derived.Test.YtfhghnhgcdiknaaAuto
import Derived.Maps.RangeRun
namespace Go.Proofs.Ytfhghnhgcdiknaa
open Go.RowKit
open Go.ChangeMaps (setBlock)
set_option linter.unusedSimpArgs false
set_option linter.unusedVariables false
set_option linter.unusedSectionVars false
section
variable {α : Type} [DecidableEq α]
def ent (kv : α → Value) (p : α × Nat) : MapEntry := ⟨kv p.1, .bool true, p.2⟩
def ents (kv : α → Value) (L : List (α × Nat)) : Array MapEntry := (L.map (ent kv)).toArray
def findL (x : α) : List (α × Nat) → Nat → Option (Nat × Value)
  | [], _ => none
  | p :: L, i => if x = p.1 then some (i, .bool true) else findL x L (i + 1)
/-- Keys of type k are the values kv. -/
structure KeyOk (P : Program) (k : TypeId) (kv : α → Value) : Prop where
  check : ∀ (w : World) (em : Bool) (x : α), (Instr.checkKey em 10000 k (kv x)).run P w = .ok () w
  find : ∀ (w : World) (x : α) (L : List (α × Nat)), (Instr.findKey k (kv x) (L.map (ent kv))).run P w = .ok (findL x L 0) w
  stays : ∀ (w : World) (x : α), (Instr.keyThatStays (kv x) (kv x)).run P w = .ok (kv x) w
theorem findNow_int (x : Int) : ∀ (L : List (Int × Nat)) (i : Nat), Instr.findNow (.int .i64) (.int .i64 x) (L.map (ent (fun a => .int .i64 a))) i = some (findL x L i)
  | [], _ => rfl
  | p :: L, i => by
    simp only [List.map_cons, Instr.findNow, ent, Instr.sameNow, if_true, findL]
    by_cases h : x = p.1
    · simp [h]
    · have : (x == p.1) = false := by simpa using h
      rw [this]
      simp only [h, if_false]
      exact findNow_int x L (i + 1)
theorem key_int {P : Program} {k : TypeId} (hk : P.underlying k = some (.int .i64)) : KeyOk P k (fun a : Int => .int .i64 a) where
  check w em x := by
    have h : ∀ n, (Instr.checkKey em (n + 1) k (.int .i64 x)).run P w = .ok () w := fun n => by
      unfold Instr.checkKey
      simp [run_underlying hk]
    exact h 9999
  find w x L := by simp [Instr.findKey, run_underlying hk, findNow_int x L 0]
  stays w x := by
    have h : ∀ n, Instr.sameBits n (.int .i64 x) (.int .i64 x) = true := fun n => by
      cases n <;> (show (IntKind.i64 == IntKind.i64 && x == x) = true; simp)
    unfold Instr.keyThatStays
    rw [if_pos (h 10000)]
    rfl
theorem findL_some {x : α} : ∀ {L : List (α × Nat)} {i j : Nat} {v : Value}, findL x L i = some (j, v) → v = .bool true ∧ ∃ p, i ≤ j ∧ L[j - i]? = some p ∧ p.1 = x
  | [], _, _, _, h => by simp [findL] at h
  | p :: L, i, j, v, h => by
    simp only [findL] at h
    split at h
    · rename_i e
      simp only [Option.some.injEq, Prod.mk.injEq] at h
      obtain ⟨rfl, rfl⟩ := h
      exact ⟨rfl, p, Nat.le_refl _, by simp, e.symm⟩
    · obtain ⟨hv, q, hle, hq, hx⟩ := findL_some h
      refine ⟨hv, q, by omega, ?_, hx⟩
      have : j - i = (j - (i + 1)) + 1 := by omega
      rw [this, List.getElem?_cons_succ]
      exact hq
theorem findL_none {x : α} : ∀ {L : List (α × Nat)} {i : Nat}, findL x L i = none → x ∉ L.map (·.1)
  | [], _, _ => by simp
  | p :: L, i, h => by
    simp only [findL] at h
    split at h
    · cases h
    · rename_i e
      have := findL_none h
      simp only [List.map_cons, List.mem_cons, not_or]
      exact ⟨e, this⟩
theorem findL_mem {x : α} : ∀ {L : List (α × Nat)} {i j : Nat} {v : Value}, findL x L i = some (j, v) → x ∈ L.map (·.1) := by
  intro L i j v h
  obtain ⟨_, p, _, hp, rfl⟩ := findL_some h
  exact List.mem_map.2 ⟨p, List.mem_of_getElem? hp, rfl⟩
/-- A map's block. -/
def mapφ (kv : α → Value) (b : Nat) (L : List (α × Nat)) (clock : Nat) : World → Prop := fun w => w.heap[b]? = some (.map (ents kv L) clock)
abbrev mapR (kv : α → Value) (b : Nat) (L : List (α × Nat)) (clock : Nat) : Res := .ro (fun k => k = b) (mapφ kv b L clock)
def iterφ (b r : Nat) (since c0 : Nat) (seen : Array Nat) : World → Prop := fun w => w.heap[r]? = some (.mapIter (some b) since seen c0)
abbrev iterR (b r : Nat) (since c0 : Nat) (seen : Array Nat) : Res := .ro (fun k => k = r) (iterφ b r since c0 seen)
def addL (L : List (α × Nat)) (clock : Nat) (x : α) : List (α × Nat) := if x ∈ L.map (·.1) then L else L ++ [(x, clock)]
def addC (L : List (α × Nat)) (clock : Nat) (x : α) : Nat := if x ∈ L.map (·.1) then clock else clock + 1
/-- Stamps are apart, and older than the clock. -/
def Good (L : List (α × Nat)) (clock : Nat) : Prop := (L.map (·.2)).Nodup ∧ (∀ p ∈ L, p.2 < clock) ∧ (L.map (·.1)).Nodup
theorem Good.nil : Good ([] : List (α × Nat)) 0 := ⟨by simp, by simp, by simp⟩
theorem Good.add {L : List (α × Nat)} {clock : Nat} (h : Good L clock) (x : α) : Good (addL L clock x) (addC L clock x) := by
  unfold addL addC
  split
  · exact h
  · rename_i hx
    refine ⟨?_, ?_, ?_⟩
    · rw [List.map_append, List.nodup_append]
      refine ⟨h.1, by simp, ?_⟩
      intro a ha b hb
      obtain ⟨p, hp, rfl⟩ := List.mem_map.1 ha
      have := h.2.1 p hp
      simp at hb
      omega
    · intro p hp
      rcases List.mem_append.1 hp with hp | hp
      · exact Nat.lt_succ_of_lt (h.2.1 p hp)
      · rw [List.mem_singleton.1 hp]; exact Nat.lt_succ_self _
    · rw [List.map_append, List.nodup_append]
      refine ⟨h.2.2, by simp, ?_⟩
      intro a ha b hb
      simp at hb
      subst hb
      intro e
      exact hx (e ▸ ha)
theorem mem_addL {L : List (α × Nat)} {clock : Nat} {x y : α} : y ∈ (addL L clock x).map (·.1) ↔ y = x ∨ y ∈ L.map (·.1) := by
  unfold addL
  split
  · rename_i h
    constructor
    · exact .inr
    · rintro (rfl | h')
      · exact h
      · exact h'
  · simp only [List.map_append, List.map_cons, List.map_nil, List.mem_append, List.mem_singleton]
    constructor <;> rintro (h | h) <;> first | exact .inr h | exact .inl h
section
variable {P : Program} {n : Nat} {K : Slots → World → Prop} {L : Slots} {G : Nat} {w0 w w1 : World} {H : List Res} {all : Array Oper} {l : List Oper} {d ty : Nat} {pos : String} {af : Array Edge} {k e t : TypeId} {kv : α → Value}
theorem st_newObj (hs : St G w0 w H) (o : Obj) : St G w0 (w.alloc o) (.ro (fun k => k = w.heap.size) (fun w' => w'.heap[w.heap.size]? = some o) :: H) := by
  have hb : Ext w (w.alloc o) := Ext.alloc _ _
  have h1 := hs.ext hb
  have hn : (w.alloc o).heap[w.heap.size]? = some o := heap_alloc_new w o
  refine ⟨h1.below, h1.drawn, fun r hr => ?_, fun r hr => ?_, List.pairwise_cons.2 ⟨fun r hr b hb1 hb2 => ?_, h1.sep⟩⟩
  · rcases List.mem_cons.1 hr with rfl | hr
    · intro w' hw'
      exact (hw' w.heap.size (.inr rfl) (by simp)).trans hn
    · exact h1.foot r hr
  · rcases List.mem_cons.1 hr with rfl | hr
    · intro b hb
      have : b = w.heap.size := hb
      subst this
      exact ⟨hs.size, by simp⟩
    · exact h1.dom r hr
  · have : b = w.heap.size := hb1
    subst this
    exact absurd (hs.dom r hr _ hb2).2 (Nat.lt_irrefl _)
/-- One's own block of one object is another object now. -/
theorem st_setObj {H H' : List Res} (hG : G ≤ w0.heap.size) (hs : St G w0 w H) {b : Nat} {φ φ' : World → Prop} {o : Obj} (hlt : b < w.heap.size) (hm : Repl (.ro (fun k => k = b) φ) (.ro (fun k => k = b) φ') H H') (hφ : ∀ w' : World, w'.heap[b]? = some o → φ' w') : St G w0 (setBlock w b o) H' := by
  obtain ⟨H0, h1, h2⟩ := hm.front
  have hs1 := hs.perm h1
  have hsz : (setBlock w b o).heap.size = w.heap.size := by simp [setBlock]
  have hn : (setBlock w b o).heap[b]? = some o := by simp [setBlock, hlt]
  refine (hs1.write (w1 := setBlock w b o) (r' := .ro (fun k => k = b) φ') hG (Nat.le_refl _) rfl rfl rfl (by rw [hsz]; exact Nat.le_refl _) (fun k _ hk => ?_) (fun k hk => ?_) ?_).perm h2.symm
  · have : k ≠ b := hk
    simp [setBlock, Array.getElem?_setIfInBounds, Ne.symm this]
  · have : k = b := hk
    subst this
    exact ⟨by rw [hsz]; exact hlt, .inl rfl⟩
  · intro w' hw'
    exact hφ w' ((hw' b (.inr rfl) (by rw [hsz]; exact hlt)).trans hn)
theorem l_makeMap (hd : Nat.blt d n = true) (hs : St G w0 w H) (kv : α → Value)
    (k : ∀ w1 b, w.heap.size = b → Ext w w1 → St G w0 w1 (mapR kv b [] 0 :: H) → Wl P n all l K ((d, .map (some b)) :: L) w1) : Wl P n all (⟨some d, .makeMap t none, ty, pos, af, none⟩ :: l) K L w := by
  refine l_val (v := .map (some w.heap.size)) (w1 := w.alloc (.map #[] 0)) hd (fun a ha => ?_) (k _ _ rfl (Ext.alloc _ _) (st_newObj hs (.map #[] 0)))
  simp [execOp, Instr.makeMap, newObj, Sem.run]
theorem map_look (hK : KeyOk P k kv) (ht : P.underlying t = some (.map k e)) (hz : (zeroValue e).run P w = .ok (.bool false) w) {b : Nat} {M : List (α × Nat)} {clock : Nat} (hb : mapφ kv b M clock w) (x : α) : (Instr.lookup t (.map (some b)) (kv x) false).run P w = .ok (.bool (decide (x ∈ M.map (·.1)))) w := by
  have hb' : w.heap[b]? = some (.map (ents kv M) clock) := hb
  have hf := hK.find w x M
  cases hq : findL x M 0 with
  | none =>
    rw [hq] at hf
    simp [Instr.lookup, run_underlying ht, MapKept.run_getObj_map hb', hK.check w _ x, ents, hf, hz, Result.andThen]
    have := findL_none hq
    simpa using this
  | some r =>
    obtain ⟨j, v⟩ := r
    rw [hq] at hf
    obtain ⟨rfl, _⟩ := findL_some hq
    simp [Instr.lookup, run_underlying ht, MapKept.run_getObj_map hb', hK.check w _ x, ents, hf, Result.andThen]
    simpa using findL_mem hq
theorem r_look {m x : Operand} {a : α} {b : Nat} {M : List (α × Nat)} {clock : Nat} (hm : ev L m = some (.map (some b))) (hx : ev L x = some (kv a)) (hK : KeyOk P k kv) (ht : P.underlying t = some (.map k e)) (hz : zeroOf P e = some [.bool false]) (hz2 : (zeroValue e).run P w = .ok (.bool false) w) (hs : St G w0 w H) (hr : Repl (mapR kv b M clock) (mapR kv b M clock) H H) :
    Runs P n L ⟨some d, .lookup t m x false, ty, pos, af, none⟩ (.bool (decide (a ∈ M.map (·.1)))) w :=
  fun ac ha => by
    have h := map_look (P := P) hK ht hz2 (b := b) (M := M) (clock := clock) (hs.get hr.mem) a
    simp [execOp, ha.ev hm, ha.ev hx, h]
theorem ents_modify {M : List (α × Nat)} {j : Nat} {p : α × Nat} (hp : M[j]? = some p) (x : α) (hx : p.1 = x) : (ents kv M).modify j (fun e => { e with key := kv x, val := .bool true }) = ents kv M := by
  apply Array.ext'
  apply List.ext_getElem?
  intro i
  rw [Array.toList_modify, List.getElem?_modify]
  by_cases h : j = i
  · subst h
    subst hx
    simp [ents, hp, ent]
  · simp [h]
theorem map_put (hG : G ≤ w0.heap.size) (hK : KeyOk P k kv) (ht : P.underlying t = some (.map k e)) {b : Nat} {M : List (α × Nat)} {clock : Nat} {H' : List Res} (hs : St G w0 w H) (x : α) (hr : Repl (mapR kv b M clock) (mapR kv b (addL M clock x) (addC M clock x)) H H') :
    ∃ w1, (Instr.mapUpdate t (.map (some b)) (kv x) (.bool true)).run P w = .ok () w1 ∧ St G w0 w1 H' ∧ w1.heap.size = w.heap.size := by
  have hb : w.heap[b]? = some (.map (ents kv M) clock) := hs.get hr.mem
  have hlt : b < w.heap.size := (Array.getElem?_eq_some_iff.1 hb).1
  have hf := hK.find w x M
  cases hq : findL x M 0 with
  | none =>
    rw [hq] at hf
    have hx := findL_none hq
    refine ⟨setBlock w b (.map ((ents kv M).push ⟨kv x, .bool true, clock⟩) (clock + 1)), ?_, st_setObj hG hs hlt hr ?_, by simp [setBlock]⟩
    · simp [Instr.mapUpdate, run_underlying ht, MapKept.run_getObj_map hb, hK.check w false x, ents, hf, MapKept.run_setObj_map _ hb, Result.andThen, setBlock]
    · intro w' hw'
      show w'.heap[b]? = _
      rw [hw', addL, if_neg hx, addC, if_neg hx]
      simp [ents, ent]
  | some r =>
    obtain ⟨j, v⟩ := r
    rw [hq] at hf
    have hx := findL_mem hq
    obtain ⟨rfl, p, _, hp, hpx⟩ := findL_some hq
    simp only [Nat.sub_zero] at hp
    refine ⟨setBlock w b (.map (ents kv M) clock), ?_, st_setObj hG hs hlt hr ?_, by simp [setBlock]⟩
    · have hget : ((ents kv M)[j]?).map (·.key) = some (kv x) := by simp [ents, hp, ent, hpx]
      have hmod := ents_modify (kv := kv) hp x hpx
      have h2 : (Instr.mapUpdate t (.map (some b)) (kv x) (.bool true)).run P w = ((setObj b (.map ((ents kv M).modify j (fun e => { e with key := kv x, val := .bool true })) clock)).run P w) := by
        have hf' : (Instr.findKey k (kv x) (ents kv M).toList).run P w = .ok (some (j, .bool true)) w := by simpa [ents] using hf
        simp [Instr.mapUpdate, run_underlying ht, MapKept.run_getObj_map hb, hK.check w false x, hf', Result.andThen, hget, hK.stays w x]
      rw [h2, hmod]
      simp [MapKept.run_setObj_map _ hb, setBlock]
    · intro w' hw'
      show w'.heap[b]? = _
      rw [hw', addL, if_pos hx, addC, if_pos hx]
theorem l_put {m x v : Operand} {a : α} {b : Nat} {M : List (α × Nat)} {clock : Nat} {H' : List Res} (hm : ev L m = some (.map (some b))) (hx : ev L x = some (kv a)) (hv : ev L v = some (.bool true)) (hK : KeyOk P k kv) (ht : P.underlying t = some (.map k e)) (hG : G ≤ w0.heap.size) (hs : St G w0 w H) (hr : Repl (mapR kv b M clock) (mapR kv b (addL M clock a) (addC M clock a)) H H')
    (k : ∀ w1, w1.heap.size = w.heap.size → St G w0 w1 H' → Wl P n all l K L w1) : Wl P n all (⟨none, .mapUpdate t m x v, ty, pos, af, none⟩ :: l) K L w := by
  obtain ⟨w1, h1, h2, h3⟩ := map_put (P := P) hG hK ht hs a hr
  exact l_skip (w1 := w1) (fun ac ha => by simp [execOp, ha.ev hm, ha.ev hx, ha.ev hv, h1]) (k w1 h3 h2)
theorem l_insert {m x v : Operand} {a : α} {b : Nat} {M : List (α × Nat)} {clock : Nat} {H' : List Res} (hm : ev L m = some (.map (some b))) (hx : ev L x = some (kv a)) (hv : ev L v = some (.bool true)) (hK : KeyOk P k kv) (ht : P.underlying t = some (.map k e)) (hG : G ≤ w0.heap.size) (hs : St G w0 w H) (hr : Repl (mapR kv b M clock) (mapR kv b (addL M clock a) (addC M clock a)) H H')
    (k : ∀ w1, w1.heap.size = w.heap.size → St G w0 w1 H' → Wl P n all l K L w1) : Wl P n all (⟨none, .insert t m x v, ty, pos, af, none⟩ :: l) K L w := by
  obtain ⟨w1, h1, h2, h3⟩ := map_put (P := P) hG hK ht hs a hr
  exact l_skip (w1 := w1) (fun ac ha => by simp [execOp, ha.ev hm, ha.ev hx, ha.ev hv, h1]) (k w1 h3 h2)
theorem l_range {m : Operand} {b : Nat} {M : List (α × Nat)} {clock : Nat} (hm : ev L m = some (.map (some b))) (ht : P.underlying t = some (.map k e)) (hd : Nat.blt d n = true) (hs : St G w0 w H) (hr : Repl (mapR kv b M clock) (mapR kv b M clock) H H)
    (k : ∀ w1 r, w.heap.size = r → St G w0 w1 (iterR b r clock clock #[] :: H) → Wl P n all l K ((d, .pointer (some ⟨r, 0, none⟩)) :: L) w1) : Wl P n all (⟨some d, .range t m, ty, pos, af, none⟩ :: l) K L w := by
  have hb : w.heap[b]? = some (.map (ents kv M) clock) := hs.get hr.mem
  refine l_val (v := .pointer (some ⟨w.heap.size, 0, none⟩)) (w1 := w.alloc (.mapIter (some b) clock #[] clock)) hd (fun a ha => ?_) (k _ _ rfl (st_newObj hs _))
  simp [execOp, Instr.range, ha.ev hm, run_underlying ht, MapKept.run_getObj_map hb, newObj, Sem.run, Result.andThen]
theorem leftOf_mem {M : List (α × Nat)} {seen : Array Nat} {x : MapEntry} (h : x ∈ (leftOf (ents kv M) seen).toList) : ∃ p ∈ M, x = ent kv p ∧ seen.contains p.2 = false := by
  simp only [leftOf, ents, Array.toList_filter, List.mem_filter, List.mem_map] at h
  obtain ⟨⟨p, hp, rfl⟩, h2⟩ := h
  exact ⟨p, hp, rfl, by simpa [ent] using h2⟩
theorem leftOf_none {M : List (α × Nat)} {seen : Array Nat} (h : (leftOf (ents kv M) seen).size = 0) : ∀ p ∈ M, seen.contains p.2 = true := by
  intro p hp
  have h0 : (leftOf (ents kv M) seen).toList = [] := List.eq_nil_of_length_eq_zero (by simpa using h)
  by_cases hc : seen.contains p.2 = true
  · exact hc
  · exfalso
    have : ent kv p ∈ (leftOf (ents kv M) seen).toList := by
      simp only [leftOf, ents, Array.toList_filter, List.mem_filter, List.mem_map]
      exact ⟨⟨p, hp, rfl⟩, by simpa [ent] using hc⟩
    rw [h0] at this
    cases this
/-- How many are left. -/
def leftN (M : List (α × Nat)) (seen : Array Nat) : Nat := (M.filter (fun p => !seen.contains p.2)).length
theorem leftN_push {M : List (α × Nat)} {seen : Array Nat} {p : α × Nat} (hp : p ∈ M) (hs : seen.contains p.2 = false) : leftN M (seen.push p.2) < leftN M seen := by
  unfold leftN
  have h1 : M.filter (fun q => !(seen.push p.2).contains q.2) = (M.filter (fun q => !seen.contains q.2)).filter (fun q => !(q.2 == p.2)) := by
    rw [List.filter_filter]
    apply List.filter_congr
    intro q _
    simp only [Array.contains_push, Bool.not_or]
    rw [Bool.and_comm]
  rw [h1]
  have hm : p ∈ M.filter (fun q => !seen.contains q.2) := List.mem_filter.2 ⟨hp, by rw [hs]; rfl⟩
  exact List.length_filter_lt_length_iff_exists.2 ⟨p, hm, by simp⟩
theorem l_next {it : Operand} {b r : Nat} {M : List (α × Nat)} {clock : Nat} {seen : Array Nat} {H' : α × Nat → List Res} (hi : ev L it = some (.pointer (some ⟨r, 0, none⟩))) (hd : Nat.blt d n = true) (hG : G ≤ w0.heap.size) (hs : St G w0 w H) (hr : Repl (mapR kv b M clock) (mapR kv b M clock) H H) (hir : Repl (iterR b r clock clock seen) (iterR b r clock clock seen) H H) (hit : ∀ p : α × Nat, Repl (iterR b r clock clock seen) (iterR b r clock clock (seen.push p.2)) H (H' p)) (hgood : Good M clock)
    (k0 : (∀ p ∈ M, seen.contains p.2 = true) → Wl P n all l K ((d, .tuple #[.bool false]) :: L) w)
    (k1 : ∀ p w1, p ∈ M → seen.contains p.2 = false → St G w0 w1 (H' p) → Wl P n all l K ((d, .tuple #[.bool true, kv p.1, .bool true]) :: L) w1) : Wl P n all (⟨some d, .next it false, ty, pos, af, none⟩ :: l) K L w := by
  have hb : w.heap[b]? = some (.map (ents kv M) clock) := hs.get hr.mem
  have hrr : w.heap[r]? = some (.mapIter (some b) clock seen clock) := hs.get hir.mem
  have hlt : r < w.heap.size := (Array.getElem?_eq_some_iff.1 hrr).1
  rcases run_next_at (P := P) w ty r b clock clock seen (ents kv M) clock hrr hb (fun x hx => by
      simp only [ents, List.mem_map] at hx
      obtain ⟨p, hp, rfl⟩ := hx
      exact hgood.2.1 p hp) (Nat.le_refl _) with ⟨h0, h1⟩ | ⟨x, hx, w1, hw1, h1⟩
  · exact l_val hd (fun a ha => by simp [execOp, ha.ev hi, h1]) (k0 (leftOf_none h0))
  · obtain ⟨p, hp, rfl, hns⟩ := leftOf_mem hx
    have he : Ext w w1 := by rcases hw1 with rfl | rfl; exact Ext.refl _; exact Ext.drew _
    have hs1 := hs.ext he
    have hlt1 : r < w1.heap.size := Nat.lt_of_lt_of_le hlt he.size
    refine l_val (v := .tuple #[.bool true, kv p.1, .bool true]) hd (fun a ha => by simp [execOp, ha.ev hi, h1, ent]) (k1 p _ hp hns (st_setObj hG hs1 hlt1 (hit p) (o := .mapIter (some b) clock (seen.push p.2) clock) (fun w' h => h)))
theorem r_entry {it : Operand} {b r : Nat} {M : List (α × Nat)} {clock : Nat} {seen : Array Nat} {p : α × Nat} (hi : ev L it = some (.pointer (some ⟨r, 0, none⟩))) (hs : St G w0 w H) (hr : Repl (mapR kv b M clock) (mapR kv b M clock) H H) (hir : Repl (iterR b r clock clock (seen.push p.2)) (iterR b r clock clock (seen.push p.2)) H H) (hgood : Good M clock) (hp : p ∈ M) :
    Runs P n L ⟨some d, .entry it, ty, pos, af, none⟩ (.tuple #[kv p.1, .bool true]) w := by
  have hb : w.heap[b]? = some (.map (ents kv M) clock) := hs.get hr.mem
  have hrr : w.heap[r]? = some (.mapIter (some b) clock (seen.push p.2) clock) := hs.get hir.mem
  have h := run_entry_at (P := P) w r b clock seen (ents kv M) clock (ent kv p) hrr hb (by simp only [ents]; exact List.mem_map.2 ⟨p, hp, rfl⟩) (by simp only [ents, List.map_map]; exact hgood.1)
  exact fun a ha => by simp [execOp, ha.ev hi, h, ent]
end
end
end Go.Proofs.Ytfhghnhgcdiknaa
