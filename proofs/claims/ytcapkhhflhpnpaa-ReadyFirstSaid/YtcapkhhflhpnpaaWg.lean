/- Who runs; the example. -/
import Derived.Test.YtcapkhhflhpnpaaWf
namespace Go.Proofs.Ytcapkhhflhpnpaa
open Go.RowKit
def nums (is : List Nat) : List Int := is.map fun i : Nat => (i : Int)
theorem nums_len (is : List Nat) : (nums is).length = is.length := by simp [nums]
theorem ord_sl {w w' : World} {base : Nat} {v : Value} {is : List Nat} (hs : St 0 w w' [.row base 3 1 v is.length (idx is)]) : ∃ A c, v = .slice A (nums is).length c ∧ Sl Kd.int w' (fun _ => True) A c (nums is) := by
  have h := hs.get (r := .row base 3 1 v is.length (idx is)) List.mem_cons_self
  have hR := reps_int w' (fun _ => True) (nums is)
  have e : (nums is).map (fun x => Value.int .i64 x) = idx is := by simp [nums, idx]
  rw [e] at hR
  exact sl_of_row (d := Kd.int) h hR (nums_len is) (fun _ _ => trivial)
def pickI (xs : List TProc) (mode : Int) : Int := match ordL xs mode with
  | [] => -1
  | i :: _ => (i : Int)
theorem pickI_nil {xs : List TProc} {mode : Int} (h : ¬ ((nums (ordL xs mode)).length : Int) > 0) : pickI xs mode = -1 := by
  unfold pickI
  cases ho : ordL xs mode with
  | nil => rfl
  | cons i r => rw [ho] at h; simp [nums] at h
theorem pickI_get {xs : List TProc} {mode : Int} {x : Int} (h : (nums (ordL xs mode))[0]? = some x) : pickI xs mode = x := by
  unfold pickI
  cases ho : ordL xs mode with
  | nil => rw [ho] at h; simp [nums] at h
  | cons i r => rw [ho] at h; simpa [nums] using h
theorem pickI_cons {xs : List TProc} {mode : Int} (h : 0 < (nums (ordL xs mode)).length) : pickI xs mode = (nums (ordL xs mode))[0] := pickI_get (List.getElem?_eq_getElem h)

set_option maxRecDepth 100000 in
theorem pick_any (hsort : SortOk) {xs : List TProc} {A : Option Addr} {c : Nat} (mode : Int) (w : World) {ok : Nat → Prop} (hx : Sl Kd.proc w ok A c xs) (hb : xs.length ≤ 1000) :
    Calls Try.prog 9 #[.slice A xs.length c, .int .i64 mode] w (fun e w' => e = .returned (.int .i64 (pickI xs mode)) ∧ St 0 w w' []) := by
  refine q_call (n := 15) (args := [.slice A xs.length c, .int .i64 mode]) Try.func9 rfl rfl rfl ?_
  have hs0 := St.refl 0 w
  refine s_seq ?_
  refine s_region ?_
  refine l_r (r_assign rfl) rfl ?_
  refine l_nil ?_
  refine s_seq ?_
  refine s_seq ?_
  refine s_region ?_
  refine l_r (r_move rfl) rfl ?_
  refine l_r (r_move rfl) rfl ?_
  refine l_call rfl rfl fk7 rfl (order_any hsort mode w (hx.on (by decide) hs0) hb) ?_
  rintro _ w1 ⟨v, rfl, hc1⟩
  have hs1 := hs0.call1 hc1
  obtain ⟨Ao, co, rfl, hso⟩ := ord_sl hc1
  refine ⟨_, rfl, ?_⟩
  refine l_r (r_assign rfl) rfl ?_
  refine l_nil ?_
  refine s_seq ?_
  refine s_region ?_
  refine l_r (r_move rfl) rfl ?_
  refine l_r (r_len rfl el25) rfl ?_
  by_cases hc2 : ((nums (ordL xs mode)).length : Int) > 0
  ·
    refine l_r (r_cmp rfl rfl (b := true) (congrArg some (decide_eq_true hc2))) rfl ?_
    have hpos : 0 < (nums (ordL xs mode)).length := by omega
    obtain ⟨b, o, hA, hck⟩ := sl_int hso hpos
    refine l_nil ?_
    refine s_then rfl ?_
    refine s_seq ?_
    refine s_region ?_
    refine l_r (r_move rfl) rfl ?_
    refine l_r (r_indexA rfl hA rfl (by omega) (by omega) el25) rfl ?_
    refine l_r (r_load1 rfl ag3 hck) rfl ?_
    refine l_r (r_assign rfl) rfl ?_
    refine l_nil ?_
    refine s_ret ?_
    exact q_done (.inr rfl) (.tmp rfl .nil) ⟨ret_int ((pickI_cons hpos).symm), hs1.nil⟩
  ·
    refine l_r (r_cmp rfl rfl (b := false) (congrArg some (decide_eq_false hc2))) rfl ?_
    refine l_nil ?_
    refine s_else rfl ?_
    refine s_skip ?_
    refine s_seq ?_
    refine s_region ?_
    refine l_r (r_assign rfl) rfl ?_
    refine l_nil ?_
    refine s_ret ?_
    exact q_done (.inr rfl) (.tmp rfl .nil) ⟨ret_int ((pickI_nil (by omega)).symm), hs1.nil⟩

set_option maxRecDepth 100000 in
theorem refPick_any {xs : List TProc} {A : Option Addr} {c : Nat} (mode : Int) (w : World) {ok : Nat → Prop} (hx : Sl Kd.proc w ok A c xs) (hb : xs.length ≤ 1000) :
    Calls Try.prog 10 #[.slice A xs.length c, .int .i64 mode] w (fun e w' => e = .returned (.int .i64 (pickI xs mode)) ∧ St 0 w w' []) := by
  refine q_call (n := 15) (args := [.slice A xs.length c, .int .i64 mode]) Try.func10 rfl rfl rfl ?_
  have hs0 := St.refl 0 w
  refine s_seq ?_
  refine s_region ?_
  refine l_r (r_assign rfl) rfl ?_
  refine l_nil ?_
  refine s_seq ?_
  refine s_region ?_
  refine l_r (r_move rfl) rfl ?_
  refine l_r (r_move rfl) rfl ?_
  refine l_call rfl rfl fk8 rfl (refOrder_any mode w (hx.on (by decide) hs0) hb) ?_
  rintro _ w1 ⟨v, rfl, hc1⟩
  have hs1 := hs0.call1 hc1
  obtain ⟨Ao, co, rfl, hso⟩ := ord_sl hc1
  refine ⟨_, rfl, ?_⟩
  refine l_r (r_assign rfl) rfl ?_
  refine l_nil ?_
  refine s_seq ?_
  refine s_seq ?_
  refine s_region ?_
  refine l_r (r_move rfl) rfl ?_
  refine l_r (r_len rfl el25) rfl ?_
  by_cases hc2 : ((nums (ordL xs mode)).length : Int) = 0
  ·
    refine l_r (r_cmp rfl rfl (b := true) (congrArg some (beq_iff_eq.2 hc2))) rfl ?_
    refine l_nil ?_
    refine s_then rfl ?_
    refine s_seq ?_
    refine s_region ?_
    refine l_r (r_assign rfl) rfl ?_
    refine l_nil ?_
    refine s_ret ?_
    exact q_done (.inr rfl) (.tmp rfl .nil) ⟨ret_int ((pickI_nil (by omega)).symm), hs1.nil⟩
  ·
    refine l_r (r_cmp rfl rfl (b := false) (congrArg some (beq_eq_false_iff_ne.2 hc2))) rfl ?_
    have hpos : 0 < (nums (ordL xs mode)).length := by omega
    obtain ⟨b, o, hA, hck⟩ := sl_int hso hpos
    refine l_nil ?_
    refine s_else rfl ?_
    refine s_skip ?_
    refine s_seq ?_
    refine s_region ?_
    refine l_r (r_move rfl) rfl ?_
    refine l_r (r_indexA rfl hA rfl (by omega) (by omega) el25) rfl ?_
    refine l_r (r_load1 rfl ag3 hck) rfl ?_
    refine l_r (r_assign rfl) rfl ?_
    refine l_nil ?_
    refine s_ret ?_
    exact q_done (.inr rfl) (.tmp rfl .nil) ⟨ret_int ((pickI_cons hpos).symm), hs1.nil⟩

def pr (prio since : Int) : TProc := { (default : TProc) with State := 1, Prio := prio, Since := since }
def three : List TProc := [pr 1 5, pr 2 9, pr 2 7]
theorem ordL_eq {xs : List TProc} {mode : Int} {l : List Nat} (hp : l.Perm (candN xs (mostN xs.length mode))) (hs : l.Pairwise (fun i j => aheadB xs j i = false)) : ordL xs mode = l := by
  refine List.Perm.eq_of_pairwise (le := fun i j => aheadB xs j i = false) (fun a b _ _ h1 h2 => ?_) (ordL_sorted xs mode) hs ((List.mergeSort_perm _ _).trans hp.symm)
  by_cases e : a = b
  · exact e
  · have h3 := ahead_tot e h2
    rw [h1] at h3
    cases h3
theorem three2 : ordL three 2 = [2, 1, 0] := ordL_eq (by decide) (by decide)
theorem three1 : ordL three 1 = [0] := ordL_eq (by decide) (by decide)
theorem three0 : ordL three 0 = [] := ordL_eq (by decide) (by decide)

set_option maxRecDepth 100000 in
theorem awake_any (hsort : SortOk) (w : World) :
    Calls Try.prog 5 #[] w (fun e w' => e = .returned (.bool true) ∧ St 0 w w' []) := by
  refine q_call (n := 39) (args := []) Try.func5 rfl rfl rfl ?_
  have hs0 := St.refl 0 w
  refine s_seq ?_
  refine s_region ?_
  refine l_r (r_assign rfl) rfl ?_
  refine l_nil ?_
  refine s_seq ?_
  refine s_region ?_
  refine l_r (r_build (v := .agg (procCells (pr 1 5)).toArray) rfl (by kernel_rfl)) rfl ?_
  refine l_r (r_build (v := .agg (procCells (pr 2 9)).toArray) rfl (by kernel_rfl)) rfl ?_
  refine l_r (r_build (v := .agg (procCells (pr 2 7)).toArray) rfl (by kernel_rfl)) rfl ?_
  refine l_bsN (m := 3) Try.underlying22 sz33 (by rw [zz33]; rfl) rfl rfl (by
      intro v hv
      simp only [List.mem_cons, List.not_mem_nil, or_false] at hv
      rcases hv with rfl | rfl | rfl <;> rfl) rfl (by decide) rfl hs0 ?_
  intro w1 b6 hb6 hx1 hs1
  refine l_r (r_assign rfl) rfl ?_
  refine l_nil ?_
  refine s_seq ?_
  refine s_region ?_
  refine l_r (r_move rfl) rfl ?_
  have hsl : Sl Kd.proc w1 (fun _ => True) (some ⟨b6, 0, none⟩) 3 three := sl_of_pt (d := Kd.proc) (xs := three) (hs1.get (r := .pt b6 _ 33) List.mem_cons_self) ((((Reps.nil Kd.proc _ _).snoc (x := pr 1 5) rfl).snoc (x := pr 2 9) rfl).snoc (x := pr 2 7) rfl) trivial (by decide)
  refine l_call rfl rfl fk7 rfl (order_any hsort (xs := three) 2 w1 (ok := fun _ => True) hsl (by decide)) ?_
  rintro _ w2 ⟨v, rfl, hc2⟩
  have hs2 := hs1.call1 hc2
  obtain ⟨Ao, co, rfl, hso⟩ := ord_sl hc2
  rw [three2] at hso
  obtain ⟨g0, o0, hA0, hck0⟩ := sl_int hso (i := 0) (by decide)
  obtain ⟨g1, o1, hA1, hck1⟩ := sl_int hso (i := 1) (by decide)
  refine ⟨_, rfl, ?_⟩
  refine l_r (r_assign rfl) rfl ?_
  refine l_nil ?_
  refine s_seq ?_
  refine s_region ?_
  refine l_r (r_move rfl) rfl ?_
  refine l_r (r_len rfl el25) rfl ?_
  refine l_r (r_cmp rfl rfl (b := true) (by rw [three2]; rfl)) rfl ?_
  refine l_r (r_move rfl) rfl ?_
  refine l_on (dj := 12) rfl rfl rfl ?_
  refine l_r (r_move rfl) rfl ?_
  refine l_on (dj := 12) rfl rfl rfl ?_
  refine l_r (r_indexA rfl hA0 rfl (by decide) (by rw [three2]; decide) el25) rfl ?_
  refine l_on (dj := 12) rfl rfl rfl ?_
  refine l_r (r_load1 rfl ag3 hck0) rfl ?_
  refine l_on (dj := 12) rfl rfl rfl ?_
  refine l_r (r_cmp rfl rfl (b := true) (rfl)) rfl ?_
  refine l_r (r_pick_t rfl rfl) rfl ?_
  refine l_r (r_move rfl) rfl ?_
  refine l_on (dj := 18) rfl rfl rfl ?_
  refine l_r (r_move rfl) rfl ?_
  refine l_on (dj := 18) rfl rfl rfl ?_
  refine l_r (r_indexA rfl hA1 rfl (by decide) (by rw [three2]; decide) el25) rfl ?_
  refine l_on (dj := 18) rfl rfl rfl ?_
  refine l_r (r_load1 rfl ag3 hck1) rfl ?_
  refine l_on (dj := 18) rfl rfl rfl ?_
  refine l_r (r_cmp rfl rfl (b := true) (rfl)) rfl ?_
  refine l_r (r_pick_t rfl rfl) rfl ?_
  refine l_r (r_move rfl) rfl ?_
  refine l_on (dj := 24) rfl rfl rfl ?_
  refine l_r (r_move rfl) rfl ?_
  refine l_on (dj := 24) rfl rfl rfl ?_
  have hsl : Sl Kd.proc w2 (fun _ => True) (some ⟨b6, 0, none⟩) 3 three := sl_of_pt (d := Kd.proc) (xs := three) (hs2.get (r := .pt b6 _ 33) (List.mem_cons_of_mem _ List.mem_cons_self)) ((((Reps.nil Kd.proc _ _).snoc (x := pr 1 5) rfl).snoc (x := pr 2 9) rfl).snoc (x := pr 2 7) rfl) trivial (by decide)
  refine l_call rfl rfl fk9 rfl (pick_any hsort (xs := three) 2 w2 (ok := fun _ => True) hsl (by decide)) ?_
  rintro _ w3 ⟨rfl, hc3⟩
  have hs3 := hs2.call0 hc3
  refine ⟨_, rfl, ?_⟩
  refine l_on (dj := 24) rfl rfl rfl ?_
  refine l_r (r_cmp rfl rfl (b := true) (by simp [pickI, three2])) rfl ?_
  refine l_r (r_pick_t rfl rfl) rfl ?_
  refine l_r (r_move rfl) rfl ?_
  refine l_on (dj := 29) rfl rfl rfl ?_
  refine l_r (r_move rfl) rfl ?_
  refine l_on (dj := 29) rfl rfl rfl ?_
  have hsl : Sl Kd.proc w3 (fun _ => True) (some ⟨b6, 0, none⟩) 3 three := sl_of_pt (d := Kd.proc) (xs := three) (hs3.get (r := .pt b6 _ 33) (List.mem_cons_of_mem _ List.mem_cons_self)) ((((Reps.nil Kd.proc _ _).snoc (x := pr 1 5) rfl).snoc (x := pr 2 9) rfl).snoc (x := pr 2 7) rfl) trivial (by decide)
  refine l_call rfl rfl fk9 rfl (pick_any hsort (xs := three) 1 w3 (ok := fun _ => True) hsl (by decide)) ?_
  rintro _ w4 ⟨rfl, hc4⟩
  have hs4 := hs3.call0 hc4
  refine ⟨_, rfl, ?_⟩
  refine l_on (dj := 29) rfl rfl rfl ?_
  refine l_r (r_cmp rfl rfl (b := true) (by simp [pickI, three1])) rfl ?_
  refine l_r (r_pick_t rfl rfl) rfl ?_
  refine l_r (r_move rfl) rfl ?_
  refine l_on (dj := 34) rfl rfl rfl ?_
  refine l_r (r_move rfl) rfl ?_
  refine l_on (dj := 34) rfl rfl rfl ?_
  have hsl : Sl Kd.proc w4 (fun _ => True) (some ⟨b6, 0, none⟩) 3 three := sl_of_pt (d := Kd.proc) (xs := three) (hs4.get (r := .pt b6 _ 33) (List.mem_cons_of_mem _ List.mem_cons_self)) ((((Reps.nil Kd.proc _ _).snoc (x := pr 1 5) rfl).snoc (x := pr 2 9) rfl).snoc (x := pr 2 7) rfl) trivial (by decide)
  refine l_call rfl rfl fk9 rfl (pick_any hsort (xs := three) 0 w4 (ok := fun _ => True) hsl (by decide)) ?_
  rintro _ w5 ⟨rfl, hc5⟩
  have hs5 := hs4.call0 hc5
  refine ⟨_, rfl, ?_⟩
  refine l_on (dj := 34) rfl rfl rfl ?_
  refine l_r (r_cmp rfl rfl (b := true) (by simp [pickI, three0])) rfl ?_
  refine l_r (r_pick_t rfl rfl) rfl ?_
  refine l_r (r_assign rfl) rfl ?_
  refine l_nil ?_
  refine s_ret ?_
  exact q_done (.inr rfl) (.tmp rfl .nil) ⟨rfl, hs5.nil⟩

end Go.Proofs.Ytcapkhhflhpnpaa
