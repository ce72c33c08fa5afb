/- Walks. -/
import Derived.Test.YtcapkhhflhpnpaaWb
import Derived.Test.YtcapkhhflhpnpaaOps3
namespace Go.Proofs.Ytcapkhhflhpnpaa
open Go.RowKit
def mostN (n : Nat) (mode : Int) : Nat := if mode = 2 then n else if mode = 1 then min 1 n else 0
def readyB (xs : List TProc) (i : Nat) : Bool := match xs[i]? with
  | some x => x.State == 1 && !x.Suspended
  | none => false
def candN (xs : List TProc) (k : Nat) : List Nat := (List.range k).filter (readyB xs)
def idx (is : List Nat) : List Value := is.map fun i : Nat => .int .i64 (i : Int)
def ordL (xs : List TProc) (mode : Int) : List Nat := (candN xs (mostN xs.length mode)).mergeSort (fun i j => !aheadB xs j i)
theorem candN_succ (xs : List TProc) (k : Nat) : candN xs (k + 1) = candN xs k ++ (if readyB xs k then [k] else []) := by
  simp only [candN, List.range_succ, List.filter_append, List.filter_cons, List.filter_nil]
theorem candN_len (xs : List TProc) (k : Nat) : (candN xs k).length ≤ k := by
  have := List.length_filter_le (readyB xs) (List.range k)
  simpa [candN] using this
theorem readyB_at {xs : List TProc} {k : Nat} (hk : k < xs.length) : readyB xs k = (xs[k].State == 1 && !xs[k].Suspended) := by simp [readyB, List.getElem?_eq_getElem hk]
theorem mostN_le (n : Nat) (mode : Int) : mostN n mode ≤ n := by unfold mostN; split <;> (try split) <;> omega
theorem idx_len (is : List Nat) : (idx is).length = is.length := by simp [idx]
theorem idx_append (is js : List Nat) : idx (is ++ js) = idx is ++ idx js := by simp [idx]
/-- What the sort does: its contract (proved elsewhere). -/
def SortOk : Prop := ∀ (w : World) (xs : List TProc) (A : Option Addr) (c bl base m : Nat) (v : Value) (is : List Nat), w.ownsRow base 3 1 v m (idx is) → v.ownBlock ≠ some bl → (∀ i, i ∈ is → i < xs.length) → is.Nodup → is.length ≤ 1000000 →
  w.cell? ⟨bl, 0, none⟩ = some (.slice A xs.length c) → Sl Kd.proc w (fun k => v.ownBlock ≠ some k) A c xs →
  Calls Try.prog 11 #[v, .func (.func 12) #[] #[.pointer (some ⟨bl, 0, none⟩)]] w (fun e w1 => e = .returned (.tuple #[]) ∧ w1.ownsRow base 3 1 v m (idx (is.mergeSort (fun i j => !aheadB xs j i))) ∧ w1.os = w.os ∧ w1.tape = w.tape ∧ w1.output = w.output ∧ w.heap.size ≤ w1.heap.size ∧ w.drawn ≤ w1.drawn ∧ ∀ k, k < w.heap.size → v.ownBlock ≠ some k → w1.heap[k]? = w.heap[k]?)
theorem candN_mem {xs : List TProc} {k i : Nat} (h : i ∈ candN xs k) : i < k := by
  simp [candN] at h
  exact h.1
theorem candN_nodup (xs : List TProc) (k : Nat) : (candN xs k).Nodup := List.Nodup.sublist List.filter_sublist List.nodup_range

set_option maxRecDepth 100000 in
theorem order_any (hsort : SortOk) {xs : List TProc} {A : Option Addr} {c : Nat} (mode : Int) (w : World) {ok : Nat → Prop} (hx : Sl Kd.proc w ok A c xs) (hb : xs.length ≤ 1000) :
    Calls Try.prog 7 #[.slice A xs.length c, .int .i64 mode] w (fun e w' => ∃ v, e = .returned v ∧ St 0 w w' [.row w.heap.size 3 1 v (ordL xs mode).length (idx (ordL xs mode))]) := by
  refine q_call (n := 47) (args := [.slice A xs.length c, .int .i64 mode]) Try.func7 rfl rfl rfl ?_
  have hs0 := St.refl 0 w
  have hlx := hx.len
  have hxc := hx.1
  have hml := mostN_le xs.length mode
  refine s_seq ?_
  refine s_region ?_
  refine l_box rfl rfl rfl hs0 ?_
  intro w1 b2 hb2 hx1 hs1
  refine l_r (r_assign rfl) rfl ?_
  refine l_nil ?_
  refine s_seq ?_
  refine s_region ?_
  refine l_r (r_assign rfl) rfl ?_
  refine l_nil ?_
  refine s_seq ?_
  refine s_seq ?_
  refine s_region ?_
  refine l_r (r_move rfl) rfl ?_
  refine l_nil ?_
  refine s_cut (fun L' w' => Sub [(2, .pointer (some ⟨b2, 0, none⟩)), (5, .int .i64 ((mostN xs.length mode : Nat) : Int))] L' ∧ St 0 w w' [.pt b2 [.slice A xs.length c] 22]) ?_ ?_
  ·
    refine s_block ?_
    refine s_seq ?_
    refine s_block ?_
    refine s_seq ?_
    refine s_block ?_
    refine s_seq ?_
    refine s_seq ?_
    refine s_seq ?_
    refine s_region ?_
    by_cases hc2 : mode = 2
    ·
      refine l_r (r_cmp rfl rfl (b := true) (congrArg some (beq_iff_eq.2 hc2))) rfl ?_
      refine l_r (r_assign rfl) rfl ?_
      refine l_nil ?_
      refine s_then rfl ?_
      refine s_exit rfl ?_
      refine s_region ?_
      refine l_r (r_load1p rfl hs1 Repl.here ag22 rfl) rfl ?_
      refine l_r (r_len rfl el22) rfl ?_
      refine l_r (r_assign rfl) rfl ?_
      refine l_nil ?_
      refine s_mark ?_
      refine s_seq ?_
      refine s_region ?_
      refine l_r (r_move rfl) rfl ?_
      refine l_r (r_max rfl rfl) rfl ?_
      refine l_r (r_load1p rfl hs1 Repl.here ag22 rfl) rfl ?_
      refine l_r (r_len rfl el22) rfl ?_
      refine l_r (r_min rfl rfl) rfl ?_
      refine l_r (r_assign rfl) rfl ?_
      refine l_nil ?_
      refine s_exit rfl ?_
      refine s_again ?_
      exact ⟨(.cons rfl (.cons (congrArg (fun z => some (Value.int .i64 z)) (by simp only [mostN, *] <;> (first | omega | (simp; omega) | simp))) .nil)), hs1⟩
    ·
      refine l_r (r_cmp rfl rfl (b := false) (congrArg some (beq_eq_false_iff_ne.2 hc2))) rfl ?_
      refine l_r (r_assign rfl) rfl ?_
      refine l_nil ?_
      refine s_else rfl ?_
      refine s_skip ?_
      refine s_seq ?_
      refine s_region ?_
      by_cases hc3 : mode = 1
      ·
        refine l_r (r_cmp rfl rfl (b := true) (congrArg some (beq_iff_eq.2 hc3))) rfl ?_
        refine l_r (r_assign rfl) rfl ?_
        refine l_nil ?_
        refine s_then rfl ?_
        refine s_exit rfl ?_
        refine s_seq ?_
        refine s_region ?_
        refine l_r (r_move rfl) rfl ?_
        refine l_r (r_max rfl rfl) rfl ?_
        refine l_r (r_load1p rfl hs1 Repl.here ag22 rfl) rfl ?_
        refine l_r (r_len rfl el22) rfl ?_
        refine l_r (r_min rfl rfl) rfl ?_
        refine l_r (r_assign rfl) rfl ?_
        refine l_nil ?_
        refine s_exit rfl ?_
        refine s_again ?_
        exact ⟨(.cons rfl (.cons (congrArg (fun z => some (Value.int .i64 z)) (by simp only [mostN, *] <;> (first | omega | (simp; omega) | simp))) .nil)), hs1⟩
      ·
        refine l_r (r_cmp rfl rfl (b := false) (congrArg some (beq_eq_false_iff_ne.2 hc3))) rfl ?_
        refine l_r (r_assign rfl) rfl ?_
        refine l_nil ?_
        refine s_else rfl ?_
        refine s_skip ?_
        refine s_exit rfl ?_
        refine s_again ?_
        exact ⟨(.cons rfl (.cons (congrArg (fun z => some (Value.int .i64 z)) (by simp only [mostN, *] <;> (first | omega | (simp; omega) | simp))) .nil)), hs1⟩
  rintro _ w4 ⟨hsub, hs4⟩
  refine s_sub [(2, .pointer (some ⟨b2, 0, none⟩)), (5, .int .i64 ((mostN xs.length mode : Nat) : Int))] hsub ?_
  refine s_seq ?_
  refine s_region ?_
  refine l_r (r_assign rfl) rfl ?_
  refine l_nil ?_
  refine s_seq ?_
  refine s_seq ?_
  refine s_region ?_
  refine l_r (r_load1p rfl hs4 Repl.here ag22 rfl) rfl ?_
  refine l_r (r_move rfl) rfl ?_
  refine l_r (r_slice (vl := none) (vh := some _) (vm := none) rfl el22 rfl rfl rfl rfl rfl rfl (Nat.zero_le _) (by omega) (Nat.le_refl _) hx.1) rfl ?_
  refine l_r (r_len rfl el22) rfl ?_
  refine l_r (r_move rfl) rfl ?_
  refine l_nil ?_
  refine s_block ?_
  refine s_loop (fun m L wl => ∃ (k : Nat) (v : Value), L = [(2, .pointer (some ⟨b2, 0, none⟩)), (6, v), (23, .slice (cutA A c 0 18) (mostN xs.length mode - 0) (c - 0)), (24, .int .i64 (((mostN xs.length mode - 0 : Nat)) : Int)), (25, .int .i64 ((k : Nat) : Int))] ∧ m = mostN xs.length mode - k ∧ k ≤ mostN xs.length mode ∧ St 0 w wl [.row w.heap.size 3 1 v (candN xs k).length (idx (candN xs k)), .pt b2 [.slice A xs.length c] 22]) _ [(2, .pointer (some ⟨b2, 0, none⟩)), (6, .slice none 0 0), (23, .slice (cutA A c 0 18) (mostN xs.length mode - 0) (c - 0)), (24, .int .i64 (((mostN xs.length mode - 0 : Nat)) : Int)), (25, .int .i64 ((0 : Nat) : Int))] (.cons rfl (.cons rfl (.cons rfl (.cons rfl (.cons rfl .nil))))) ⟨0, .slice none 0 0, rfl, rfl, ⟨Nat.zero_le _, hs4.nil_row _ _ _⟩⟩ ?_
  rintro _ _ w5 ⟨k, v, rfl, rfl, hk, hs5⟩
  have hcl := candN_len xs k
  refine s_seq ?_
  refine s_region ?_
  by_cases hc6 : (k : Int) < ((mostN xs.length mode - 0 : Nat) : Int)
  ·
    refine l_r (r_cmp rfl rfl (b := true) (congrArg some (decide_eq_true hc6))) rfl ?_
    have hkm : k < mostN xs.length mode := by omega
    have hkx : k < xs.length := by omega
    obtain ⟨b, o, hA, hck⟩ := sl_proc (hx.cut (lo := 0) (hi := xs.length) (m := c) (Nat.zero_le _) (Nat.le_refl _) hx.1 (Nat.le_refl _)) (i := k) (by simpa using hkx)
    have hck : Cells w b (o + k * 18) (procCells xs[k]) := by simpa using hck
    refine l_nil ?_
    refine s_seq ?_
    refine s_then rfl ?_
    refine s_skip ?_
    refine s_seq ?_
    refine s_block ?_
    refine s_seq ?_
    refine s_region ?_
    refine l_r (r_move rfl) rfl ?_
    refine l_r (r_indexA rfl hA rfl (by omega) (by omega) el22) rfl ?_
    refine l_r (r_loadN rfl ag33 (hck.on hs5) sz33) rfl ?_
    refine l_alloc zz33 rfl hs5 ?_
    intro w7 b8 hb8 hx7 hs7
    refine l_r (r_assign rfl) rfl ?_
    refine l_storeAll rfl rfl sz33 (one_proc _) (Nat.zero_le _) hs7 Repl.here rfl ?_
    intro w8 hz8 hk8 hs8
    refine l_nil ?_
    refine s_seq ?_
    refine s_region ?_
    refine l_r (r_field rfl fo33_0) rfl ?_
    refine l_r (r_load1p rfl hs8 Repl.here ag3 rfl) rfl ?_
    by_cases hc9 : xs[k].State = 1
    ·
      refine l_r (r_cmp rfl rfl (b := true) (congrArg some (beq_iff_eq.2 hc9))) rfl ?_
      refine l_r (r_move rfl) rfl ?_
      refine l_on (dj := 33) rfl rfl rfl ?_
      refine l_r (r_field rfl fo33_2) rfl ?_
      refine l_on (dj := 33) rfl rfl rfl ?_
      refine l_r (r_load1p rfl hs8 Repl.here ag4 rfl) rfl ?_
      refine l_on (dj := 33) rfl rfl rfl ?_
      refine l_r (r_not rfl) rfl ?_
      refine l_r (r_pick_t rfl rfl) rfl ?_
      refine l_nil ?_
      refine s_cond rfl (fun hcc => ?_) (fun hcc => ?_)
      ·
        refine s_region ?_
        refine l_r (r_move rfl) rfl ?_
        refine l_r (r_move rfl) rfl ?_
        refine l_bsN (m := 1) Try.underlying25 sz3 (by rw [zz3]; rfl) rfl rfl (by
            intro v hv
            simp only [List.mem_cons, List.not_mem_nil, or_false] at hv
            subst hv
            rfl) rfl (by decide) rfl hs8 ?_
        intro w11 b40 hb40 hx11 hs11
        refine l_appendP (news := [.int .i64 (k : Int)]) Try.underlying25 rw3 rfl rfl rfl rfl hs11 Repl.here rfl (one1 rfl) (by omega) rfl (Nat.zero_le _) (by have := hs11.size; omega) (fun _ => (Repl.there (Repl.there Repl.here))) rfl ?_
        intro v12 w12 hz12 hk12 hs12
        refine l_r (r_assign rfl) rfl ?_
        refine l_nil ?_
        refine s_mark ?_
        refine s_region ?_
        refine l_r (r_inc rfl (by omega)) rfl ?_
        refine l_r (r_move rfl) rfl ?_
        refine l_nil ?_
        refine s_again ?_
        exact ⟨_, [(2, .pointer (some ⟨b2, 0, none⟩)), (6, v12), (23, .slice (cutA A c 0 18) (mostN xs.length mode - 0) (c - 0)), (24, .int .i64 (((mostN xs.length mode - 0 : Nat)) : Int)), (25, .int .i64 (((k + 1) : Nat) : Int))], by omega, (.cons rfl (.cons rfl (.cons rfl (.cons rfl (.cons rfl .nil))))), ⟨(k + 1), v12, rfl, rfl, ⟨by omega, by
              have e : candN xs (k + 1) = candN xs k ++ [k] := by rw [candN_succ, readyB_at hkx]; simp [*]
              rw [e]
              rw [idx_append, List.length_append]
              exact hs12.tail.tail⟩⟩⟩
      ·
        refine s_skip ?_
        refine s_mark ?_
        refine s_region ?_
        refine l_r (r_inc rfl (by omega)) rfl ?_
        refine l_r (r_move rfl) rfl ?_
        refine l_nil ?_
        refine s_again ?_
        exact ⟨_, [(2, .pointer (some ⟨b2, 0, none⟩)), (6, v), (23, .slice (cutA A c 0 18) (mostN xs.length mode - 0) (c - 0)), (24, .int .i64 (((mostN xs.length mode - 0 : Nat)) : Int)), (25, .int .i64 (((k + 1) : Nat) : Int))], by omega, (.cons rfl (.cons rfl (.cons rfl (.cons rfl (.cons rfl .nil))))), ⟨(k + 1), v, rfl, rfl, ⟨by omega, by
              have e : candN xs (k + 1) = candN xs k := by rw [candN_succ, readyB_at hkx]; simp [*]
              rw [e]
              exact hs8.tail⟩⟩⟩
    ·
      refine l_r (r_cmp rfl rfl (b := false) (congrArg some (beq_eq_false_iff_ne.2 hc9))) rfl ?_
      refine l_r (r_move rfl) rfl ?_
      refine l_off (dj := 33) (b := false) rfl rfl rfl rfl rfl ?_
      refine l_off (dj := 33) (b := false) rfl rfl rfl rfl rfl ?_
      refine l_off (dj := 33) (b := false) rfl rfl rfl rfl rfl ?_
      refine l_r (r_pick_f rfl rfl) rfl ?_
      refine l_nil ?_
      refine s_else rfl ?_
      refine s_skip ?_
      refine s_mark ?_
      refine s_region ?_
      refine l_r (r_inc rfl (by omega)) rfl ?_
      refine l_r (r_move rfl) rfl ?_
      refine l_nil ?_
      refine s_again ?_
      exact ⟨_, [(2, .pointer (some ⟨b2, 0, none⟩)), (6, v), (23, .slice (cutA A c 0 18) (mostN xs.length mode - 0) (c - 0)), (24, .int .i64 (((mostN xs.length mode - 0 : Nat)) : Int)), (25, .int .i64 (((k + 1) : Nat) : Int))], by omega, (.cons rfl (.cons rfl (.cons rfl (.cons rfl (.cons rfl .nil))))), ⟨(k + 1), v, rfl, rfl, ⟨by omega, by
            have e : candN xs (k + 1) = candN xs k := by rw [candN_succ, readyB_at hkx]; simp [*]
            rw [e]
            exact hs8.tail⟩⟩⟩
  ·
    refine l_r (r_cmp rfl rfl (b := false) (congrArg some (decide_eq_false hc6))) rfl ?_
    refine l_nil ?_
    refine s_seq ?_
    refine s_else rfl ?_
    refine s_exit rfl ?_
    refine s_seq ?_
    refine s_region ?_
    refine l_r (r_move rfl) rfl ?_
    refine l_r (r_makefunc rfl rfl) rfl ?_
    have hkm : k = mostN xs.length mode := by omega
    subst hkm
    have hrow := hs5.get (r := .row _ _ _ _ _ _) List.mem_cons_self
    have hdom := hs5.dom _ List.mem_cons_self
    have hneq : v.ownBlock ≠ some b2 := fun h => (List.pairwise_cons.1 hs5.sep).1 (.pt b2 [.slice A xs.length c] 22) (by simp) b2 h rfl
    refine l_call rfl rfl fk11 rfl (hsort w5 xs A c b2 _ _ v (candN xs (mostN xs.length mode)) hrow hneq (fun i hi => Nat.lt_of_lt_of_le (candN_mem hi) hml) (candN_nodup _ _) (by omega) (heap_cell (hs5.get (r := .pt b2 [.slice A xs.length c] 22) (by simp)) rfl) ((hx.on (by decide) hs5).mono (fun b hb _ h => Nat.not_lt.2 (hdom b h).1 hb) (by decide))) ?_
    rintro _ w13 ⟨rfl, hr, h1, h2, h3, h4, hdr, h5⟩
    have hs13 := hs5.rowTurn (Nat.zero_le _) hr h1 h2 h3 h4 hdr h5
    refine ⟨_, rfl, ?_⟩
    refine l_nil ?_
    refine s_seq ?_
    refine s_region ?_
    refine l_r (r_move rfl) rfl ?_
    refine l_r (r_assign rfl) rfl ?_
    refine l_nil ?_
    refine s_ret ?_
    refine q_done (.inr rfl) (.tmp rfl .nil) ⟨v, rfl, ?_⟩
    have e : (ordL xs mode).length = (candN xs (mostN xs.length mode)).length := by simp [ordL]
    rw [e]
    exact hs13.one

end Go.Proofs.Ytcapkhhflhpnpaa
