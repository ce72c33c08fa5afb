/- Something done to each of a list. -/
import Derived.Test.YtfhghnhgcdiknaaWb
namespace Go.Proofs.Ytfhghnhgcdiknaa
open Go.RowKit
set_option maxRecDepth 100000 in
theorem each67 {xs : List TBoard} {A : Option Addr} {c f : Nat} {cap : List Value} (w : World) {ok : Nat → Prop} (hf : fnOk Try.prog f = true) (hx : Sl Kd.board w ok A c xs) (hb : xs.length ≤ 100000000) (hdo : DoOk Try.prog f cap Kd.board 91 w ok xs) :
    Calls Try.prog 67 #[.slice A xs.length c, .func (.func f) #[] cap.toArray] w (fun e w' => ∃ (v : Value) (cs : List Value) (F : Nat → Prop), e = .returned v ∧ St 0 w w' [.row 0 91 3 v xs.length cs, .ro F (fun w' => Reps Kd.board w' F xs cs)]) := by
  refine q_call (n := 20) (args := [.slice A xs.length c, .func (.func f) #[] cap.toArray]) Try.func67 rfl rfl rfl ?_
  have hs0 := St.refl 0 w
  refine s_seq ?_
  refine s_region ?_
  refine l_r (r_assign rfl) rfl ?_
  refine l_nil ?_
  refine s_seq ?_
  refine s_region ?_
  refine l_r (r_move rfl) rfl ?_
  refine l_call rfl rfl fk95 rfl (clone95 w hx hb) ?_
  rintro _ w1 ⟨v, cs, rfl, hR, hc1⟩
  obtain ⟨A1, c1, rfl, _⟩ := row_slice (hc1.get (r := .row _ _ _ _ _ _) List.mem_cons_self)
  have hs1 := hc1
  refine ⟨_, rfl, ?_⟩
  refine l_r (r_assign rfl) rfl ?_
  refine l_nil ?_
  refine s_seq ?_
  refine s_seq ?_
  refine s_region ?_
  refine l_r (r_move rfl) rfl ?_
  refine l_r (r_len rfl el39) rfl ?_
  refine l_r (r_move rfl) rfl ?_
  refine l_nil ?_
  refine s_block ?_
  refine s_loop (fun m L wl => ∃ (k : Nat) (cs : List Value) (F : Nat → Prop), L = [(0, .slice A1 xs.length c1), (1, .func (.func f) #[] cap.toArray), (9, .int .i64 (xs.length : Int)), (10, .int .i64 ((k : Nat) : Int))] ∧ m = xs.length - k ∧ k ≤ xs.length ∧ cs.length = xs.length * 3 ∧ (∀ j x, k ≤ j → xs[j]? = some x → Kd.board.K w ok x ((cs.drop (j * 3)).take 3)) ∧ St 0 w wl [.row 0 91 3 (.slice A1 xs.length c1) xs.length cs, .ro F (fun w' => ∀ j x, j < k → xs[j]? = some x → Kd.board.K w' F x ((cs.drop (j * 3)).take 3))]) _ [(0, .slice A1 xs.length c1), (1, .func (.func f) #[] cap.toArray), (9, .int .i64 (xs.length : Int)), (10, .int .i64 ((0 : Nat) : Int))] (.cons rfl (.cons rfl (.cons rfl (.cons rfl .nil)))) ⟨0, cs, (fun _ => False), rfl, rfl, ⟨Nat.zero_le _, hR.1, fun j x _ hj => hR.2 j x hj, hs1.ro0 _ (fun w' j x h => absurd h (Nat.not_lt_zero _))⟩⟩ ?_
  rintro _ _ w2 ⟨k, cs, F, rfl, rfl, hk, hcl, hrest, hs2⟩
  refine s_seq ?_
  refine s_region ?_
  by_cases hc3 : (k : Int) < (xs.length : Int)
  ·
    refine l_r (r_cmp rfl rfl (b := true) (congrArg some (decide_eq_true hc3))) rfl ?_
    have hkx : k < xs.length := by omega
    obtain ⟨g, c1', hg, _⟩ := row_some (hs2.get (r := .row _ _ _ _ _ _) List.mem_cons_self) (by omega)
    simp only [Value.slice.injEq, true_and] at hg
    obtain ⟨hA1, rfl⟩ := hg
    refine l_nil ?_
    refine s_seq ?_
    refine s_then rfl ?_
    refine s_skip ?_
    refine s_seq ?_
    refine s_block ?_
    refine s_seq ?_
    refine s_region ?_
    refine l_r (r_move rfl) rfl ?_
    refine l_r (r_assign rfl) rfl ?_
    refine l_nil ?_
    refine s_region ?_
    refine l_r (r_move rfl) rfl ?_
    refine l_r (r_move rfl) rfl ?_
    refine l_r (r_move rfl) rfl ?_
    refine l_r (r_indexA rfl hA1 rfl (by omega) (by omega) el39) rfl ?_
    have hx4 := List.getElem?_eq_getElem hkx
    refine l_call rfl rfl hf rfl (hdo w2 g c1 k cs _ xs[k] hx4 (by rw [← hA1]; exact hs2) (hrest k _ (Nat.le_refl _) hx4)) ?_
    rintro _ w4 ⟨rfl, cx, F2, hcx, hs4⟩
    rw [← hA1] at hs4
    refine ⟨_, rfl, ?_⟩
    refine l_nil ?_
    refine s_mark ?_
    refine s_region ?_
    refine l_r (r_inc rfl (by omega)) rfl ?_
    refine l_r (r_move rfl) rfl ?_
    refine l_nil ?_
    refine s_again ?_
    exact ⟨_, [(0, .slice A1 xs.length c1), (1, .func (.func f) #[] cap.toArray), (9, .int .i64 (xs.length : Int)), (10, .int .i64 (((k + 1) : Nat) : Int))], by omega, (.cons rfl (.cons rfl (.cons rfl (.cons rfl .nil)))), ⟨(k + 1), (cs.take (k * 3) ++ cx ++ cs.drop (k * 3 + 3)), (fun b => F2 b ∨ F b), rfl, rfl, ⟨by omega, by rw [put_len (k := 3) hcx (by rw [hcl, ← Nat.succ_mul]; exact Nat.mul_le_mul_right _ hkx)]; exact hcl, fun j x hj hxj => by
            rw [seg_other (k := 3) hcx (by rw [hcl, ← Nat.succ_mul]; exact Nat.mul_le_mul_right _ hkx) (mul_apart (by omega))]
            exact hrest j x (by omega) hxj, join_step (d := Kd.board) ((hs4.swap.hide (fun w' => ∀ x, xs[k]? = some x → Kd.board.K w' F2 x cx) (fun w' h x hx => by rw [List.getElem?_eq_getElem hkx] at hx; cases hx; exact h)).swap) hcl hcx hkx⟩⟩⟩
  ·
    refine l_r (r_cmp rfl rfl (b := false) (congrArg some (decide_eq_false hc3))) rfl ?_
    refine l_nil ?_
    refine s_seq ?_
    refine s_else rfl ?_
    refine s_exit rfl ?_
    refine s_seq ?_
    refine s_region ?_
    refine l_r (r_move rfl) rfl ?_
    refine l_r (r_assign rfl) rfl ?_
    refine l_nil ?_
    refine s_ret ?_
    have hkn : k = xs.length := by omega
    subst hkn
    exact q_done (.inr rfl) (.tmp rfl .nil) ⟨_, cs, F, rfl, hs2.last (fun w' h => ⟨hcl, fun j x hj => h j x (List.getElem?_eq_some_iff.1 hj).1 hj⟩)⟩

set_option maxRecDepth 100000 in
theorem each69 {xs : List TBuffer} {A : Option Addr} {c f : Nat} {cap : List Value} (w : World) {ok : Nat → Prop} (hf : fnOk Try.prog f = true) (hx : Sl Kd.buffer w ok A c xs) (hb : xs.length ≤ 100000000) (hdo : DoOk Try.prog f cap Kd.buffer 93 w ok xs) :
    Calls Try.prog 69 #[.slice A xs.length c, .func (.func f) #[] cap.toArray] w (fun e w' => ∃ (v : Value) (cs : List Value) (F : Nat → Prop), e = .returned v ∧ St 0 w w' [.row 0 93 4 v xs.length cs, .ro F (fun w' => Reps Kd.buffer w' F xs cs)]) := by
  refine q_call (n := 20) (args := [.slice A xs.length c, .func (.func f) #[] cap.toArray]) Try.func69 rfl rfl rfl ?_
  have hs0 := St.refl 0 w
  refine s_seq ?_
  refine s_region ?_
  refine l_r (r_assign rfl) rfl ?_
  refine l_nil ?_
  refine s_seq ?_
  refine s_region ?_
  refine l_r (r_move rfl) rfl ?_
  refine l_call rfl rfl fk96 rfl (clone96 w hx hb) ?_
  rintro _ w1 ⟨v, cs, rfl, hR, hc1⟩
  obtain ⟨A1, c1, rfl, _⟩ := row_slice (hc1.get (r := .row _ _ _ _ _ _) List.mem_cons_self)
  have hs1 := hc1
  refine ⟨_, rfl, ?_⟩
  refine l_r (r_assign rfl) rfl ?_
  refine l_nil ?_
  refine s_seq ?_
  refine s_seq ?_
  refine s_region ?_
  refine l_r (r_move rfl) rfl ?_
  refine l_r (r_len rfl el40) rfl ?_
  refine l_r (r_move rfl) rfl ?_
  refine l_nil ?_
  refine s_block ?_
  refine s_loop (fun m L wl => ∃ (k : Nat) (cs : List Value) (F : Nat → Prop), L = [(0, .slice A1 xs.length c1), (1, .func (.func f) #[] cap.toArray), (9, .int .i64 (xs.length : Int)), (10, .int .i64 ((k : Nat) : Int))] ∧ m = xs.length - k ∧ k ≤ xs.length ∧ cs.length = xs.length * 4 ∧ (∀ j x, k ≤ j → xs[j]? = some x → Kd.buffer.K w ok x ((cs.drop (j * 4)).take 4)) ∧ St 0 w wl [.row 0 93 4 (.slice A1 xs.length c1) xs.length cs, .ro F (fun w' => ∀ j x, j < k → xs[j]? = some x → Kd.buffer.K w' F x ((cs.drop (j * 4)).take 4))]) _ [(0, .slice A1 xs.length c1), (1, .func (.func f) #[] cap.toArray), (9, .int .i64 (xs.length : Int)), (10, .int .i64 ((0 : Nat) : Int))] (.cons rfl (.cons rfl (.cons rfl (.cons rfl .nil)))) ⟨0, cs, (fun _ => False), rfl, rfl, ⟨Nat.zero_le _, hR.1, fun j x _ hj => hR.2 j x hj, hs1.ro0 _ (fun w' j x h => absurd h (Nat.not_lt_zero _))⟩⟩ ?_
  rintro _ _ w2 ⟨k, cs, F, rfl, rfl, hk, hcl, hrest, hs2⟩
  refine s_seq ?_
  refine s_region ?_
  by_cases hc3 : (k : Int) < (xs.length : Int)
  ·
    refine l_r (r_cmp rfl rfl (b := true) (congrArg some (decide_eq_true hc3))) rfl ?_
    have hkx : k < xs.length := by omega
    obtain ⟨g, c1', hg, _⟩ := row_some (hs2.get (r := .row _ _ _ _ _ _) List.mem_cons_self) (by omega)
    simp only [Value.slice.injEq, true_and] at hg
    obtain ⟨hA1, rfl⟩ := hg
    refine l_nil ?_
    refine s_seq ?_
    refine s_then rfl ?_
    refine s_skip ?_
    refine s_seq ?_
    refine s_block ?_
    refine s_seq ?_
    refine s_region ?_
    refine l_r (r_move rfl) rfl ?_
    refine l_r (r_assign rfl) rfl ?_
    refine l_nil ?_
    refine s_region ?_
    refine l_r (r_move rfl) rfl ?_
    refine l_r (r_move rfl) rfl ?_
    refine l_r (r_move rfl) rfl ?_
    refine l_r (r_indexA rfl hA1 rfl (by omega) (by omega) el40) rfl ?_
    have hx4 := List.getElem?_eq_getElem hkx
    refine l_call rfl rfl hf rfl (hdo w2 g c1 k cs _ xs[k] hx4 (by rw [← hA1]; exact hs2) (hrest k _ (Nat.le_refl _) hx4)) ?_
    rintro _ w4 ⟨rfl, cx, F2, hcx, hs4⟩
    rw [← hA1] at hs4
    refine ⟨_, rfl, ?_⟩
    refine l_nil ?_
    refine s_mark ?_
    refine s_region ?_
    refine l_r (r_inc rfl (by omega)) rfl ?_
    refine l_r (r_move rfl) rfl ?_
    refine l_nil ?_
    refine s_again ?_
    exact ⟨_, [(0, .slice A1 xs.length c1), (1, .func (.func f) #[] cap.toArray), (9, .int .i64 (xs.length : Int)), (10, .int .i64 (((k + 1) : Nat) : Int))], by omega, (.cons rfl (.cons rfl (.cons rfl (.cons rfl .nil)))), ⟨(k + 1), (cs.take (k * 4) ++ cx ++ cs.drop (k * 4 + 4)), (fun b => F2 b ∨ F b), rfl, rfl, ⟨by omega, by rw [put_len (k := 4) hcx (by rw [hcl, ← Nat.succ_mul]; exact Nat.mul_le_mul_right _ hkx)]; exact hcl, fun j x hj hxj => by
            rw [seg_other (k := 4) hcx (by rw [hcl, ← Nat.succ_mul]; exact Nat.mul_le_mul_right _ hkx) (mul_apart (by omega))]
            exact hrest j x (by omega) hxj, join_step (d := Kd.buffer) ((hs4.swap.hide (fun w' => ∀ x, xs[k]? = some x → Kd.buffer.K w' F2 x cx) (fun w' h x hx => by rw [List.getElem?_eq_getElem hkx] at hx; cases hx; exact h)).swap) hcl hcx hkx⟩⟩⟩
  ·
    refine l_r (r_cmp rfl rfl (b := false) (congrArg some (decide_eq_false hc3))) rfl ?_
    refine l_nil ?_
    refine s_seq ?_
    refine s_else rfl ?_
    refine s_exit rfl ?_
    refine s_seq ?_
    refine s_region ?_
    refine l_r (r_move rfl) rfl ?_
    refine l_r (r_assign rfl) rfl ?_
    refine l_nil ?_
    refine s_ret ?_
    have hkn : k = xs.length := by omega
    subst hkn
    exact q_done (.inr rfl) (.tmp rfl .nil) ⟨_, cs, F, rfl, hs2.last (fun w' h => ⟨hcl, fun j x hj => h j x (List.getElem?_eq_some_iff.1 hj).1 hj⟩)⟩

set_option maxRecDepth 100000 in
theorem each72 {xs : List TSema} {A : Option Addr} {c f : Nat} {cap : List Value} (w : World) {ok : Nat → Prop} (hf : fnOk Try.prog f = true) (hx : Sl Kd.sema w ok A c xs) (hb : xs.length ≤ 100000000) (hdo : DoOk Try.prog f cap Kd.sema 95 w ok xs) :
    Calls Try.prog 72 #[.slice A xs.length c, .func (.func f) #[] cap.toArray] w (fun e w' => ∃ (v : Value) (cs : List Value) (F : Nat → Prop), e = .returned v ∧ St 0 w w' [.row 0 95 4 v xs.length cs, .ro F (fun w' => Reps Kd.sema w' F xs cs)]) := by
  refine q_call (n := 20) (args := [.slice A xs.length c, .func (.func f) #[] cap.toArray]) Try.func72 rfl rfl rfl ?_
  have hs0 := St.refl 0 w
  refine s_seq ?_
  refine s_region ?_
  refine l_r (r_assign rfl) rfl ?_
  refine l_nil ?_
  refine s_seq ?_
  refine s_region ?_
  refine l_r (r_move rfl) rfl ?_
  refine l_call rfl rfl fk97 rfl (clone97 w hx hb) ?_
  rintro _ w1 ⟨v, cs, rfl, hR, hc1⟩
  obtain ⟨A1, c1, rfl, _⟩ := row_slice (hc1.get (r := .row _ _ _ _ _ _) List.mem_cons_self)
  have hs1 := hc1
  refine ⟨_, rfl, ?_⟩
  refine l_r (r_assign rfl) rfl ?_
  refine l_nil ?_
  refine s_seq ?_
  refine s_seq ?_
  refine s_region ?_
  refine l_r (r_move rfl) rfl ?_
  refine l_r (r_len rfl el41) rfl ?_
  refine l_r (r_move rfl) rfl ?_
  refine l_nil ?_
  refine s_block ?_
  refine s_loop (fun m L wl => ∃ (k : Nat) (cs : List Value) (F : Nat → Prop), L = [(0, .slice A1 xs.length c1), (1, .func (.func f) #[] cap.toArray), (9, .int .i64 (xs.length : Int)), (10, .int .i64 ((k : Nat) : Int))] ∧ m = xs.length - k ∧ k ≤ xs.length ∧ cs.length = xs.length * 4 ∧ (∀ j x, k ≤ j → xs[j]? = some x → Kd.sema.K w ok x ((cs.drop (j * 4)).take 4)) ∧ St 0 w wl [.row 0 95 4 (.slice A1 xs.length c1) xs.length cs, .ro F (fun w' => ∀ j x, j < k → xs[j]? = some x → Kd.sema.K w' F x ((cs.drop (j * 4)).take 4))]) _ [(0, .slice A1 xs.length c1), (1, .func (.func f) #[] cap.toArray), (9, .int .i64 (xs.length : Int)), (10, .int .i64 ((0 : Nat) : Int))] (.cons rfl (.cons rfl (.cons rfl (.cons rfl .nil)))) ⟨0, cs, (fun _ => False), rfl, rfl, ⟨Nat.zero_le _, hR.1, fun j x _ hj => hR.2 j x hj, hs1.ro0 _ (fun w' j x h => absurd h (Nat.not_lt_zero _))⟩⟩ ?_
  rintro _ _ w2 ⟨k, cs, F, rfl, rfl, hk, hcl, hrest, hs2⟩
  refine s_seq ?_
  refine s_region ?_
  by_cases hc3 : (k : Int) < (xs.length : Int)
  ·
    refine l_r (r_cmp rfl rfl (b := true) (congrArg some (decide_eq_true hc3))) rfl ?_
    have hkx : k < xs.length := by omega
    obtain ⟨g, c1', hg, _⟩ := row_some (hs2.get (r := .row _ _ _ _ _ _) List.mem_cons_self) (by omega)
    simp only [Value.slice.injEq, true_and] at hg
    obtain ⟨hA1, rfl⟩ := hg
    refine l_nil ?_
    refine s_seq ?_
    refine s_then rfl ?_
    refine s_skip ?_
    refine s_seq ?_
    refine s_block ?_
    refine s_seq ?_
    refine s_region ?_
    refine l_r (r_move rfl) rfl ?_
    refine l_r (r_assign rfl) rfl ?_
    refine l_nil ?_
    refine s_region ?_
    refine l_r (r_move rfl) rfl ?_
    refine l_r (r_move rfl) rfl ?_
    refine l_r (r_move rfl) rfl ?_
    refine l_r (r_indexA rfl hA1 rfl (by omega) (by omega) el41) rfl ?_
    have hx4 := List.getElem?_eq_getElem hkx
    refine l_call rfl rfl hf rfl (hdo w2 g c1 k cs _ xs[k] hx4 (by rw [← hA1]; exact hs2) (hrest k _ (Nat.le_refl _) hx4)) ?_
    rintro _ w4 ⟨rfl, cx, F2, hcx, hs4⟩
    rw [← hA1] at hs4
    refine ⟨_, rfl, ?_⟩
    refine l_nil ?_
    refine s_mark ?_
    refine s_region ?_
    refine l_r (r_inc rfl (by omega)) rfl ?_
    refine l_r (r_move rfl) rfl ?_
    refine l_nil ?_
    refine s_again ?_
    exact ⟨_, [(0, .slice A1 xs.length c1), (1, .func (.func f) #[] cap.toArray), (9, .int .i64 (xs.length : Int)), (10, .int .i64 (((k + 1) : Nat) : Int))], by omega, (.cons rfl (.cons rfl (.cons rfl (.cons rfl .nil)))), ⟨(k + 1), (cs.take (k * 4) ++ cx ++ cs.drop (k * 4 + 4)), (fun b => F2 b ∨ F b), rfl, rfl, ⟨by omega, by rw [put_len (k := 4) hcx (by rw [hcl, ← Nat.succ_mul]; exact Nat.mul_le_mul_right _ hkx)]; exact hcl, fun j x hj hxj => by
            rw [seg_other (k := 4) hcx (by rw [hcl, ← Nat.succ_mul]; exact Nat.mul_le_mul_right _ hkx) (mul_apart (by omega))]
            exact hrest j x (by omega) hxj, join_step (d := Kd.sema) ((hs4.swap.hide (fun w' => ∀ x, xs[k]? = some x → Kd.sema.K w' F2 x cx) (fun w' h x hx => by rw [List.getElem?_eq_getElem hkx] at hx; cases hx; exact h)).swap) hcl hcx hkx⟩⟩⟩
  ·
    refine l_r (r_cmp rfl rfl (b := false) (congrArg some (decide_eq_false hc3))) rfl ?_
    refine l_nil ?_
    refine s_seq ?_
    refine s_else rfl ?_
    refine s_exit rfl ?_
    refine s_seq ?_
    refine s_region ?_
    refine l_r (r_move rfl) rfl ?_
    refine l_r (r_assign rfl) rfl ?_
    refine l_nil ?_
    refine s_ret ?_
    have hkn : k = xs.length := by omega
    subst hkn
    exact q_done (.inr rfl) (.tmp rfl .nil) ⟨_, cs, F, rfl, hs2.last (fun w' h => ⟨hcl, fun j x hj => h j x (List.getElem?_eq_some_iff.1 hj).1 hj⟩)⟩

set_option maxRecDepth 100000 in
theorem each74 {xs : List TEvent} {A : Option Addr} {c f : Nat} {cap : List Value} (w : World) {ok : Nat → Prop} (hf : fnOk Try.prog f = true) (hx : Sl Kd.event w ok A c xs) (hb : xs.length ≤ 100000000) (hdo : DoOk Try.prog f cap Kd.event 97 w ok xs) :
    Calls Try.prog 74 #[.slice A xs.length c, .func (.func f) #[] cap.toArray] w (fun e w' => ∃ (v : Value) (cs : List Value) (F : Nat → Prop), e = .returned v ∧ St 0 w w' [.row 0 97 2 v xs.length cs, .ro F (fun w' => Reps Kd.event w' F xs cs)]) := by
  refine q_call (n := 20) (args := [.slice A xs.length c, .func (.func f) #[] cap.toArray]) Try.func74 rfl rfl rfl ?_
  have hs0 := St.refl 0 w
  refine s_seq ?_
  refine s_region ?_
  refine l_r (r_assign rfl) rfl ?_
  refine l_nil ?_
  refine s_seq ?_
  refine s_region ?_
  refine l_r (r_move rfl) rfl ?_
  refine l_call rfl rfl fk98 rfl (clone98 w hx hb) ?_
  rintro _ w1 ⟨v, cs, rfl, hR, hc1⟩
  obtain ⟨A1, c1, rfl, _⟩ := row_slice (hc1.get (r := .row _ _ _ _ _ _) List.mem_cons_self)
  have hs1 := hc1
  refine ⟨_, rfl, ?_⟩
  refine l_r (r_assign rfl) rfl ?_
  refine l_nil ?_
  refine s_seq ?_
  refine s_seq ?_
  refine s_region ?_
  refine l_r (r_move rfl) rfl ?_
  refine l_r (r_len rfl el42) rfl ?_
  refine l_r (r_move rfl) rfl ?_
  refine l_nil ?_
  refine s_block ?_
  refine s_loop (fun m L wl => ∃ (k : Nat) (cs : List Value) (F : Nat → Prop), L = [(0, .slice A1 xs.length c1), (1, .func (.func f) #[] cap.toArray), (9, .int .i64 (xs.length : Int)), (10, .int .i64 ((k : Nat) : Int))] ∧ m = xs.length - k ∧ k ≤ xs.length ∧ cs.length = xs.length * 2 ∧ (∀ j x, k ≤ j → xs[j]? = some x → Kd.event.K w ok x ((cs.drop (j * 2)).take 2)) ∧ St 0 w wl [.row 0 97 2 (.slice A1 xs.length c1) xs.length cs, .ro F (fun w' => ∀ j x, j < k → xs[j]? = some x → Kd.event.K w' F x ((cs.drop (j * 2)).take 2))]) _ [(0, .slice A1 xs.length c1), (1, .func (.func f) #[] cap.toArray), (9, .int .i64 (xs.length : Int)), (10, .int .i64 ((0 : Nat) : Int))] (.cons rfl (.cons rfl (.cons rfl (.cons rfl .nil)))) ⟨0, cs, (fun _ => False), rfl, rfl, ⟨Nat.zero_le _, hR.1, fun j x _ hj => hR.2 j x hj, hs1.ro0 _ (fun w' j x h => absurd h (Nat.not_lt_zero _))⟩⟩ ?_
  rintro _ _ w2 ⟨k, cs, F, rfl, rfl, hk, hcl, hrest, hs2⟩
  refine s_seq ?_
  refine s_region ?_
  by_cases hc3 : (k : Int) < (xs.length : Int)
  ·
    refine l_r (r_cmp rfl rfl (b := true) (congrArg some (decide_eq_true hc3))) rfl ?_
    have hkx : k < xs.length := by omega
    obtain ⟨g, c1', hg, _⟩ := row_some (hs2.get (r := .row _ _ _ _ _ _) List.mem_cons_self) (by omega)
    simp only [Value.slice.injEq, true_and] at hg
    obtain ⟨hA1, rfl⟩ := hg
    refine l_nil ?_
    refine s_seq ?_
    refine s_then rfl ?_
    refine s_skip ?_
    refine s_seq ?_
    refine s_block ?_
    refine s_seq ?_
    refine s_region ?_
    refine l_r (r_move rfl) rfl ?_
    refine l_r (r_assign rfl) rfl ?_
    refine l_nil ?_
    refine s_region ?_
    refine l_r (r_move rfl) rfl ?_
    refine l_r (r_move rfl) rfl ?_
    refine l_r (r_move rfl) rfl ?_
    refine l_r (r_indexA rfl hA1 rfl (by omega) (by omega) el42) rfl ?_
    have hx4 := List.getElem?_eq_getElem hkx
    refine l_call rfl rfl hf rfl (hdo w2 g c1 k cs _ xs[k] hx4 (by rw [← hA1]; exact hs2) (hrest k _ (Nat.le_refl _) hx4)) ?_
    rintro _ w4 ⟨rfl, cx, F2, hcx, hs4⟩
    rw [← hA1] at hs4
    refine ⟨_, rfl, ?_⟩
    refine l_nil ?_
    refine s_mark ?_
    refine s_region ?_
    refine l_r (r_inc rfl (by omega)) rfl ?_
    refine l_r (r_move rfl) rfl ?_
    refine l_nil ?_
    refine s_again ?_
    exact ⟨_, [(0, .slice A1 xs.length c1), (1, .func (.func f) #[] cap.toArray), (9, .int .i64 (xs.length : Int)), (10, .int .i64 (((k + 1) : Nat) : Int))], by omega, (.cons rfl (.cons rfl (.cons rfl (.cons rfl .nil)))), ⟨(k + 1), (cs.take (k * 2) ++ cx ++ cs.drop (k * 2 + 2)), (fun b => F2 b ∨ F b), rfl, rfl, ⟨by omega, by rw [put_len (k := 2) hcx (by rw [hcl, ← Nat.succ_mul]; exact Nat.mul_le_mul_right _ hkx)]; exact hcl, fun j x hj hxj => by
            rw [seg_other (k := 2) hcx (by rw [hcl, ← Nat.succ_mul]; exact Nat.mul_le_mul_right _ hkx) (mul_apart (by omega))]
            exact hrest j x (by omega) hxj, join_step (d := Kd.event) ((hs4.swap.hide (fun w' => ∀ x, xs[k]? = some x → Kd.event.K w' F2 x cx) (fun w' h x hx => by rw [List.getElem?_eq_getElem hkx] at hx; cases hx; exact h)).swap) hcl hcx hkx⟩⟩⟩
  ·
    refine l_r (r_cmp rfl rfl (b := false) (congrArg some (decide_eq_false hc3))) rfl ?_
    refine l_nil ?_
    refine s_seq ?_
    refine s_else rfl ?_
    refine s_exit rfl ?_
    refine s_seq ?_
    refine s_region ?_
    refine l_r (r_move rfl) rfl ?_
    refine l_r (r_assign rfl) rfl ?_
    refine l_nil ?_
    refine s_ret ?_
    have hkn : k = xs.length := by omega
    subst hkn
    exact q_done (.inr rfl) (.tmp rfl .nil) ⟨_, cs, F, rfl, hs2.last (fun w' h => ⟨hcl, fun j x hj => h j x (List.getElem?_eq_some_iff.1 hj).1 hj⟩)⟩

set_option maxRecDepth 100000 in
theorem each76 {xs : List TQueue} {A : Option Addr} {c f : Nat} {cap : List Value} (w : World) {ok : Nat → Prop} (hf : fnOk Try.prog f = true) (hx : Sl Kd.queue w ok A c xs) (hb : xs.length ≤ 100000000) (hdo : DoOk Try.prog f cap Kd.queue 52 w ok xs) :
    Calls Try.prog 76 #[.slice A xs.length c, .func (.func f) #[] cap.toArray] w (fun e w' => ∃ (v : Value) (cs : List Value) (F : Nat → Prop), e = .returned v ∧ St 0 w w' [.row 0 52 3 v xs.length cs, .ro F (fun w' => Reps Kd.queue w' F xs cs)]) := by
  refine q_call (n := 20) (args := [.slice A xs.length c, .func (.func f) #[] cap.toArray]) Try.func76 rfl rfl rfl ?_
  have hs0 := St.refl 0 w
  refine s_seq ?_
  refine s_region ?_
  refine l_r (r_assign rfl) rfl ?_
  refine l_nil ?_
  refine s_seq ?_
  refine s_region ?_
  refine l_r (r_move rfl) rfl ?_
  refine l_call rfl rfl fk99 rfl (clone99 w hx hb) ?_
  rintro _ w1 ⟨v, cs, rfl, hR, hc1⟩
  obtain ⟨A1, c1, rfl, _⟩ := row_slice (hc1.get (r := .row _ _ _ _ _ _) List.mem_cons_self)
  have hs1 := hc1
  refine ⟨_, rfl, ?_⟩
  refine l_r (r_assign rfl) rfl ?_
  refine l_nil ?_
  refine s_seq ?_
  refine s_seq ?_
  refine s_region ?_
  refine l_r (r_move rfl) rfl ?_
  refine l_r (r_len rfl el44) rfl ?_
  refine l_r (r_move rfl) rfl ?_
  refine l_nil ?_
  refine s_block ?_
  refine s_loop (fun m L wl => ∃ (k : Nat) (cs : List Value) (F : Nat → Prop), L = [(0, .slice A1 xs.length c1), (1, .func (.func f) #[] cap.toArray), (9, .int .i64 (xs.length : Int)), (10, .int .i64 ((k : Nat) : Int))] ∧ m = xs.length - k ∧ k ≤ xs.length ∧ cs.length = xs.length * 3 ∧ (∀ j x, k ≤ j → xs[j]? = some x → Kd.queue.K w ok x ((cs.drop (j * 3)).take 3)) ∧ St 0 w wl [.row 0 52 3 (.slice A1 xs.length c1) xs.length cs, .ro F (fun w' => ∀ j x, j < k → xs[j]? = some x → Kd.queue.K w' F x ((cs.drop (j * 3)).take 3))]) _ [(0, .slice A1 xs.length c1), (1, .func (.func f) #[] cap.toArray), (9, .int .i64 (xs.length : Int)), (10, .int .i64 ((0 : Nat) : Int))] (.cons rfl (.cons rfl (.cons rfl (.cons rfl .nil)))) ⟨0, cs, (fun _ => False), rfl, rfl, ⟨Nat.zero_le _, hR.1, fun j x _ hj => hR.2 j x hj, hs1.ro0 _ (fun w' j x h => absurd h (Nat.not_lt_zero _))⟩⟩ ?_
  rintro _ _ w2 ⟨k, cs, F, rfl, rfl, hk, hcl, hrest, hs2⟩
  refine s_seq ?_
  refine s_region ?_
  by_cases hc3 : (k : Int) < (xs.length : Int)
  ·
    refine l_r (r_cmp rfl rfl (b := true) (congrArg some (decide_eq_true hc3))) rfl ?_
    have hkx : k < xs.length := by omega
    obtain ⟨g, c1', hg, _⟩ := row_some (hs2.get (r := .row _ _ _ _ _ _) List.mem_cons_self) (by omega)
    simp only [Value.slice.injEq, true_and] at hg
    obtain ⟨hA1, rfl⟩ := hg
    refine l_nil ?_
    refine s_seq ?_
    refine s_then rfl ?_
    refine s_skip ?_
    refine s_seq ?_
    refine s_block ?_
    refine s_seq ?_
    refine s_region ?_
    refine l_r (r_move rfl) rfl ?_
    refine l_r (r_assign rfl) rfl ?_
    refine l_nil ?_
    refine s_region ?_
    refine l_r (r_move rfl) rfl ?_
    refine l_r (r_move rfl) rfl ?_
    refine l_r (r_move rfl) rfl ?_
    refine l_r (r_indexA rfl hA1 rfl (by omega) (by omega) el44) rfl ?_
    have hx4 := List.getElem?_eq_getElem hkx
    refine l_call rfl rfl hf rfl (hdo w2 g c1 k cs _ xs[k] hx4 (by rw [← hA1]; exact hs2) (hrest k _ (Nat.le_refl _) hx4)) ?_
    rintro _ w4 ⟨rfl, cx, F2, hcx, hs4⟩
    rw [← hA1] at hs4
    refine ⟨_, rfl, ?_⟩
    refine l_nil ?_
    refine s_mark ?_
    refine s_region ?_
    refine l_r (r_inc rfl (by omega)) rfl ?_
    refine l_r (r_move rfl) rfl ?_
    refine l_nil ?_
    refine s_again ?_
    exact ⟨_, [(0, .slice A1 xs.length c1), (1, .func (.func f) #[] cap.toArray), (9, .int .i64 (xs.length : Int)), (10, .int .i64 (((k + 1) : Nat) : Int))], by omega, (.cons rfl (.cons rfl (.cons rfl (.cons rfl .nil)))), ⟨(k + 1), (cs.take (k * 3) ++ cx ++ cs.drop (k * 3 + 3)), (fun b => F2 b ∨ F b), rfl, rfl, ⟨by omega, by rw [put_len (k := 3) hcx (by rw [hcl, ← Nat.succ_mul]; exact Nat.mul_le_mul_right _ hkx)]; exact hcl, fun j x hj hxj => by
            rw [seg_other (k := 3) hcx (by rw [hcl, ← Nat.succ_mul]; exact Nat.mul_le_mul_right _ hkx) (mul_apart (by omega))]
            exact hrest j x (by omega) hxj, join_step (d := Kd.queue) ((hs4.swap.hide (fun w' => ∀ x, xs[k]? = some x → Kd.queue.K w' F2 x cx) (fun w' h x hx => by rw [List.getElem?_eq_getElem hkx] at hx; cases hx; exact h)).swap) hcl hcx hkx⟩⟩⟩
  ·
    refine l_r (r_cmp rfl rfl (b := false) (congrArg some (decide_eq_false hc3))) rfl ?_
    refine l_nil ?_
    refine s_seq ?_
    refine s_else rfl ?_
    refine s_exit rfl ?_
    refine s_seq ?_
    refine s_region ?_
    refine l_r (r_move rfl) rfl ?_
    refine l_r (r_assign rfl) rfl ?_
    refine l_nil ?_
    refine s_ret ?_
    have hkn : k = xs.length := by omega
    subst hkn
    exact q_done (.inr rfl) (.tmp rfl .nil) ⟨_, cs, F, rfl, hs2.last (fun w' h => ⟨hcl, fun j x hj => h j x (List.getElem?_eq_some_iff.1 hj).1 hj⟩)⟩

end Go.Proofs.Ytfhghnhgcdiknaa
