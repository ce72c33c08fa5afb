/- Walks of small functions. -/
import Derived.Test.YtcapkhhflhpnpaaWa
namespace Go.Proofs.Ytcapkhhflhpnpaa
open Go.RowKit
def orI : List Int → Int
  | [] => 0
  | x :: r => if x = 0 then orI r else x
theorem orI_zero {xs : List Int} (k : Nat) (h : ∀ j (h1 : j < xs.length), j < k → xs[j] = 0) : orI xs = orI (xs.drop k) := by
  induction k generalizing xs with
  | zero => rfl
  | succ k ih =>
    cases xs with
    | nil => rfl
    | cons x r =>
      have h0 : x = 0 := h 0 (by simp) (by omega)
      simp only [orI, h0, if_true, List.drop_succ_cons]
      exact ih (fun j h1 h2 => by
        have h5 := h (j + 1) (by simpa using h1) (by omega)
        simpa only [List.getElem_cons_succ] using h5)
theorem orI_at {xs : List Int} {k : Nat} (hk : k < xs.length) (h : ∀ j (h1 : j < xs.length), j < k → xs[j] = 0) (hx : xs[k] ≠ 0) : orI xs = xs[k] := by
  rw [orI_zero k h, List.drop_eq_getElem_cons hk, orI, if_neg hx]
theorem orI_none {xs : List Int} (h : ∀ j (h1 : j < xs.length), xs[j] = 0) : orI xs = 0 := by
  rw [orI_zero xs.length (fun j h1 _ => h j h1), List.drop_length]; rfl

set_option maxRecDepth 100000 in
theorem or_any {xs : List Int} {A : Option Addr} {c : Nat} (w : World) {ok : Nat → Prop} (hx : Sl Kd.int w ok A c xs) :
    Calls Try.prog 13 #[.slice A xs.length c] w (fun e w' => e = .returned (.int .i64 (orI xs)) ∧ St 0 w w' []) := by
  refine q_call (n := 18) (args := [.slice A xs.length c]) Try.func13 rfl rfl rfl ?_
  have hs0 := St.refl 0 w
  have hlx := hx.len
  refine s_seq ?_
  refine s_region ?_
  refine l_r (r_assign rfl) rfl ?_
  refine l_nil ?_
  refine s_seq ?_
  refine s_region ?_
  refine l_r (r_assign rfl) rfl ?_
  refine l_nil ?_
  refine s_seq ?_
  refine s_seq ?_
  refine s_region ?_
  refine l_r (r_move rfl) rfl ?_
  refine l_r (r_len rfl el25) rfl ?_
  refine l_r (r_move rfl) rfl ?_
  refine l_nil ?_
  refine s_block ?_
  refine s_loop (fun m L wl => ∃ k : Nat, L = [(3, .int .i64 0), (6, .slice A xs.length c), (7, .int .i64 (xs.length : Int)), (8, .int .i64 ((k : Nat) : Int))] ∧ m = xs.length - k ∧ k ≤ xs.length ∧ Ext w wl ∧ ∀ j (h1 : j < xs.length), j < k → xs[j] = 0) _ [(3, .int .i64 0), (6, .slice A xs.length c), (7, .int .i64 (xs.length : Int)), (8, .int .i64 ((0 : Nat) : Int))] (.cons rfl (.cons rfl (.cons rfl (.cons rfl .nil)))) ⟨0, rfl, rfl, ⟨Nat.zero_le _, Ext.refl _, fun j _ h => by omega⟩⟩ ?_
  rintro _ _ w1 ⟨k, rfl, rfl, hk, hbel, heq⟩
  have hs1 : St 0 w w1 [] := (St.refl 0 w).ext hbel
  refine s_seq ?_
  refine s_region ?_
  by_cases hc2 : (k : Int) < (xs.length : Int)
  ·
    refine l_r (r_cmp rfl rfl (b := true) (congrArg some (decide_eq_true hc2))) rfl ?_
    have hkx : k < xs.length := by omega
    obtain ⟨b, o, hAx, hxk⟩ := sl_int hx hkx
    refine l_nil ?_
    refine s_seq ?_
    refine s_then rfl ?_
    refine s_skip ?_
    refine s_seq ?_
    refine s_block ?_
    refine s_seq ?_
    refine s_region ?_
    refine l_r (r_indexA rfl hAx rfl (by omega) (by omega) el25) rfl ?_
    refine l_r (r_load1 rfl ag3 (cell_on hxk hs1)) rfl ?_
    refine l_r (r_assign rfl) rfl ?_
    refine l_nil ?_
    refine s_seq ?_
    refine s_region ?_
    refine l_r (r_move rfl) rfl ?_
    refine l_r (r_move rfl) rfl ?_
    by_cases hc3 : xs[k] = 0
    ·
      refine l_r (r_cmp rfl rfl (b := false) (congrArg some (bne_eq_false_iff_eq.2 hc3))) rfl ?_
      have hz := ‹xs[k] = 0›
      refine l_nil ?_
      refine s_else rfl ?_
      refine s_skip ?_
      refine s_mark ?_
      refine s_region ?_
      refine l_r (r_inc rfl (by omega)) rfl ?_
      refine l_r (r_move rfl) rfl ?_
      refine l_nil ?_
      refine s_again ?_
      exact ⟨_, [(3, .int .i64 0), (6, .slice A xs.length c), (7, .int .i64 (xs.length : Int)), (8, .int .i64 (((k + 1) : Nat) : Int))], by omega, (.cons rfl (.cons rfl (.cons rfl (.cons rfl .nil)))), ⟨(k + 1), rfl, rfl, ⟨by omega, hs1.toExt, fun j h1 h3 => by
            rcases Nat.lt_or_ge j k with h4 | h4
            · exact heq j h1 h4
            · have : j = k := by omega
              subst this
              exact hz⟩⟩⟩
    ·
      refine l_r (r_cmp rfl rfl (b := true) (congrArg some (bne_iff_ne.2 hc3))) rfl ?_
      refine l_nil ?_
      refine s_then rfl ?_
      refine s_seq ?_
      refine s_region ?_
      refine l_r (r_move rfl) rfl ?_
      refine l_r (r_assign rfl) rfl ?_
      refine l_nil ?_
      refine s_ret ?_
      exact q_done (.inr rfl) (.tmp rfl .nil) ⟨ret_int ((orI_at hkx heq ‹_›).symm), hs1⟩
  ·
    refine l_r (r_cmp rfl rfl (b := false) (congrArg some (decide_eq_false hc2))) rfl ?_
    refine l_nil ?_
    refine s_seq ?_
    refine s_else rfl ?_
    refine s_exit rfl ?_
    refine s_seq ?_
    refine s_region ?_
    refine l_r (r_move rfl) rfl ?_
    refine l_r (r_assign rfl) rfl ?_
    refine l_nil ?_
    refine s_ret ?_
    exact q_done (.inr rfl) (.tmp rfl .nil) ⟨ret_int ((orI_none (fun j h1 => heq j h1 (by omega))).symm), hs1⟩

def cmpP (xs : List TProc) (i j : Nat) (hi : i < xs.length) (hj : j < xs.length) : Int := orI [cmpI xs[j].Prio xs[i].Prio, cmpI xs[i].Since xs[j].Since, cmpI i j]

set_option maxRecDepth 100000 in
theorem closure_any {xs : List TProc} {b o c bl : Nat} (i j : Nat) (w : World) (hi : i < xs.length) (hj : j < xs.length) (hbox : w.cell? ⟨bl, 0, none⟩ = some (.slice (some ⟨b, o, none⟩) xs.length c)) (hci : Cells w b (o + i * 18) (procCells xs[i])) (hcj : Cells w b (o + j * 18) (procCells xs[j])) :
    Calls Try.prog 12 #[.int .i64 (i : Int), .int .i64 (j : Int), .pointer (some ⟨bl, 0, none⟩)] w (fun e w' => e = .returned (.int .i64 (cmpP xs i j hi hj)) ∧ St 0 w w' []) := by
  refine q_call (n := 31) (args := [.int .i64 (i : Int), .int .i64 (j : Int), .pointer (some ⟨bl, 0, none⟩)]) Try.func12 rfl rfl rfl ?_
  have hs0 := St.refl 0 w
  refine s_seq ?_
  refine s_region ?_
  refine l_r (r_assign rfl) rfl ?_
  refine l_nil ?_
  refine s_seq ?_
  refine s_any (by kernel_rfl) (fun w' => Ext w w') (fun L' w' => ∃ b6 b7, Sub [(0, .int .i64 (i : Int)), (1, .int .i64 (j : Int)), (6, .pointer (some ⟨b6, 0, none⟩)), (7, .pointer (some ⟨b7, 0, none⟩))] L' ∧ St 0 w w' [.pt b6 (procCells xs[i]) 33, .pt b7 (procCells xs[j]) 33]) ?_ ?_
  ·
    intro w1 hx1 hh1
    have hs1 := hs0.ext hx1
    refine wa_take 0 rfl (by kernel_rfl) (fun w' hw' => r_load1 rfl ag22 (cell_on hbox ((St.refl 0 w).ext hw'))) (hs1.toExt) rfl ?_
    refine wa_take 1 rfl (by kernel_rfl) (fun w' hw' => r_move rfl) (hs1.toExt) rfl ?_
    refine wa_take 2 rfl (by kernel_rfl) (fun w' hw' => r_index rfl rfl (by omega) (by omega) el22) (hs1.toExt) rfl ?_
    refine wa_take 3 rfl (by kernel_rfl) (fun w' hw' => r_loadN rfl ag33 (hci.on ((St.refl 0 w).ext hw')) sz33) (hs1.toExt) rfl ?_
    refine wa_take 4 rfl (by kernel_rfl) (fun w' hw' => r_load1 rfl ag22 (cell_on hbox ((St.refl 0 w).ext hw'))) (hs1.toExt) rfl ?_
    refine wa_take 5 rfl (by kernel_rfl) (fun w' hw' => r_move rfl) (hs1.toExt) rfl ?_
    refine wa_take 6 rfl (by kernel_rfl) (fun w' hw' => r_index rfl rfl (by omega) (by omega) el22) (hs1.toExt) rfl ?_
    refine wa_take 7 rfl (by kernel_rfl) (fun w' hw' => r_loadN rfl ag33 (hcj.on ((St.refl 0 w).ext hw')) sz33) (hs1.toExt) rfl ?_
    refine wa_one [8, 9] (by kernel_rfl) rfl ?_
    intro i hi
    simp only [List.mem_cons, List.not_mem_nil, or_false] at hi
    rcases hi with rfl | rfl
    ·
      refine ⟨_, rfl, ?_⟩
      refine l_alloc zz33 rfl hs1 ?_
      intro w2 b6 hb6 hx2 hs2
      refine l_nil ⟨hs2.toExt, ?_⟩
      refine wa_one [9] (by kernel_rfl) rfl ?_
      intro i hi
      simp only [List.mem_cons, List.not_mem_nil, or_false] at hi
      subst hi
      refine ⟨_, rfl, ?_⟩
      refine l_alloc zz33 rfl hs2 ?_
      intro w3 b7 hb7 hx3 hs3
      refine l_nil ⟨hs3.toExt, ?_⟩
      refine wa_one [10] (by kernel_rfl) rfl ?_
      intro i hi
      simp only [List.mem_cons, List.not_mem_nil, or_false] at hi
      subst hi
      refine ⟨_, rfl, ?_⟩
      refine l_storeAll rfl rfl sz33 (one_proc _) (Nat.zero_le _) hs3 (Repl.there Repl.here) rfl ?_
      intro w4 hz4 hk4 hs4
      refine l_nil ⟨hs4.toExt, ?_⟩
      refine wa_one [11] (by kernel_rfl) rfl ?_
      intro i hi
      simp only [List.mem_cons, List.not_mem_nil, or_false] at hi
      subst hi
      refine ⟨_, rfl, ?_⟩
      refine l_storeAll rfl rfl sz33 (one_proc _) (Nat.zero_le _) hs4 Repl.here rfl ?_
      intro w5 hz5 hk5 hs5
      refine l_nil ⟨hs5.toExt, ?_⟩
      exact wa_done (by kernel_rfl) ⟨b6, b7, (.cons rfl (.cons rfl (.cons rfl (.cons rfl .nil)))), (by first | exact hs5 | exact hs5.swap)⟩
    ·
      refine ⟨_, rfl, ?_⟩
      refine l_alloc zz33 rfl hs1 ?_
      intro w6 b7 hb7 hx6 hs6
      refine l_nil ⟨hs6.toExt, ?_⟩
      refine wa_one [8] (by kernel_rfl) rfl ?_
      intro i hi
      simp only [List.mem_cons, List.not_mem_nil, or_false] at hi
      subst hi
      refine ⟨_, rfl, ?_⟩
      refine l_alloc zz33 rfl hs6 ?_
      intro w7 b6 hb6 hx7 hs7
      refine l_nil ⟨hs7.toExt, ?_⟩
      refine wa_one [10] (by kernel_rfl) rfl ?_
      intro i hi
      simp only [List.mem_cons, List.not_mem_nil, or_false] at hi
      subst hi
      refine ⟨_, rfl, ?_⟩
      refine l_storeAll rfl rfl sz33 (one_proc _) (Nat.zero_le _) hs7 Repl.here rfl ?_
      intro w8 hz8 hk8 hs8
      refine l_nil ⟨hs8.toExt, ?_⟩
      refine wa_one [11] (by kernel_rfl) rfl ?_
      intro i hi
      simp only [List.mem_cons, List.not_mem_nil, or_false] at hi
      subst hi
      refine ⟨_, rfl, ?_⟩
      refine l_storeAll rfl rfl sz33 (one_proc _) (Nat.zero_le _) hs8 (Repl.there Repl.here) rfl ?_
      intro w9 hz9 hk9 hs9
      refine l_nil ⟨hs9.toExt, ?_⟩
      exact wa_done (by kernel_rfl) ⟨b6, b7, (.cons rfl (.cons rfl (.cons rfl (.cons rfl .nil)))), (by first | exact hs9 | exact hs9.swap)⟩
  rintro _ w10 ⟨b6, b7, hsub, hs10⟩
  refine s_sub [(0, .int .i64 (i : Int)), (1, .int .i64 (j : Int)), (6, .pointer (some ⟨b6, 0, none⟩)), (7, .pointer (some ⟨b7, 0, none⟩))] hsub ?_
  refine s_seq ?_
  refine s_any (by kernel_rfl) (fun w' => St 0 w w' [.pt b6 (procCells xs[i]) 33, .pt b7 (procCells xs[j]) 33]) (fun L' w' => Sub [(5, .int .i64 (cmpP xs i j hi hj))] L' ∧ St 0 w w' []) ?_ ?_
  ·
    intro w11 hx11 hh11
    have hs11 := hs10.ext hx11
    refine wa_take 0 rfl (by kernel_rfl) (fun w' hw' => r_field rfl fo33_1) (hs11) rfl ?_
    refine wa_take 1 rfl (by kernel_rfl) (fun w' hw' => r_load1p rfl (hw') (Repl.there Repl.here) ag3 rfl) (hs11) rfl ?_
    refine wa_take 2 rfl (by kernel_rfl) (fun w' hw' => r_field rfl fo33_1) (hs11) rfl ?_
    refine wa_take 3 rfl (by kernel_rfl) (fun w' hw' => r_load1p rfl (hw') Repl.here ag3 rfl) (hs11) rfl ?_
    refine wa_take 5 rfl (by kernel_rfl) (fun w' hw' => r_field rfl fo33_4) (hs11) rfl ?_
    refine wa_take 6 rfl (by kernel_rfl) (fun w' hw' => r_load1p rfl (hw') Repl.here ag3 rfl) (hs11) rfl ?_
    refine wa_take 7 rfl (by kernel_rfl) (fun w' hw' => r_field rfl fo33_4) (hs11) rfl ?_
    refine wa_take 8 rfl (by kernel_rfl) (fun w' hw' => r_load1p rfl (hw') (Repl.there Repl.here) ag3 rfl) (hs11) rfl ?_
    refine wa_take 10 rfl (by kernel_rfl) (fun w' hw' => r_move rfl) (hs11) rfl ?_
    refine wa_take 11 rfl (by kernel_rfl) (fun w' hw' => r_move rfl) (hs11) rfl ?_
    refine wa_one [4] (by kernel_rfl) rfl ?_
    intro i hi
    simp only [List.mem_cons, List.not_mem_nil, or_false] at hi
    subst hi
    refine ⟨_, rfl, ?_⟩
    refine l_call rfl rfl fk14 rfl (compare_any _ _ _) ?_
    rintro _ _ ⟨rfl, rfl⟩
    refine ⟨_, rfl, ?_⟩
    refine l_nil ⟨hs11, ?_⟩
    refine wa_one [9] (by kernel_rfl) rfl ?_
    intro i hi
    simp only [List.mem_cons, List.not_mem_nil, or_false] at hi
    subst hi
    refine ⟨_, rfl, ?_⟩
    refine l_call rfl rfl fk14 rfl (compare_any _ _ _) ?_
    rintro _ _ ⟨rfl, rfl⟩
    refine ⟨_, rfl, ?_⟩
    refine l_nil ⟨hs11, ?_⟩
    refine wa_one [12] (by kernel_rfl) rfl ?_
    intro i hi
    simp only [List.mem_cons, List.not_mem_nil, or_false] at hi
    subst hi
    refine ⟨_, rfl, ?_⟩
    refine l_call rfl rfl fk14 rfl (compare_any _ _ _) ?_
    rintro _ _ ⟨rfl, rfl⟩
    refine ⟨_, rfl, ?_⟩
    refine l_nil ⟨hs11, ?_⟩
    refine wa_one [13] (by kernel_rfl) rfl ?_
    intro i hi
    simp only [List.mem_cons, List.not_mem_nil, or_false] at hi
    subst hi
    refine ⟨_, rfl, ?_⟩
    refine l_bsN (m := 3) Try.underlying25 sz3 (by rw [zz3]; rfl) rfl rfl (by
        intro v hv
        simp only [List.mem_cons, List.not_mem_nil, or_false] at hv
        rcases hv with rfl | rfl | rfl <;> rfl) rfl (by decide) rfl hs11 ?_
    intro w12 b29 hb29 hx12 hs12
    refine l_nil ⟨hs12.tail, ?_⟩
    refine wa_one [14] (by kernel_rfl) rfl ?_
    intro i hi
    simp only [List.mem_cons, List.not_mem_nil, or_false] at hi
    subst hi
    refine ⟨_, rfl, ?_⟩
    refine l_call rfl rfl fk13 rfl (or_any (xs := [_, _, _]) _ (ok := fun _ => True) (sl_of_pt (cs := [.int .i64 _, .int .i64 _, .int .i64 _]) (hs12.get List.mem_cons_self) (reps_int _ _ [_, _, _]) trivial (by simp))) ?_
    rintro _ w13 ⟨rfl, hc13⟩
    have hs13 := hs12.call0 hc13
    refine ⟨_, rfl, ?_⟩
    refine l_nil ⟨hs13.tail, ?_⟩
    refine wa_one [15] (by kernel_rfl) rfl ?_
    intro i hi
    simp only [List.mem_cons, List.not_mem_nil, or_false] at hi
    subst hi
    refine ⟨_, rfl, ?_⟩
    refine l_r (r_assign rfl) rfl ?_
    refine l_nil ⟨hs13.tail, ?_⟩
    exact wa_done (by kernel_rfl) ⟨(.cons rfl .nil), hs13.nil⟩
  rintro _ w14 ⟨hsub, hs14⟩
  refine s_sub [(5, .int .i64 (cmpP xs i j hi hj))] hsub ?_
  refine s_ret ?_
  exact q_done (.inr rfl) (.tmp rfl .nil) ⟨rfl, hs14⟩

end Go.Proofs.Ytcapkhhflhpnpaa
