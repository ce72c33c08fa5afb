/- Walks of small functions. -/
import Derived.Test.YtcapkhhflhpnpaaFacts
import Derived.Test.YtcapkhhflhpnpaaKinds
import Derived.Test.YtcapkhhflhpnpaaDraw
namespace Go.Proofs.Ytcapkhhflhpnpaa
open Go.RowKit
set_option maxRecDepth 100000 in
theorem isNaN_any (x : Int) (w : World) :
    Calls Try.prog 19 #[.int .i64 x] w (fun e w' => e = .returned (.bool false) ∧ w = w') := by
  refine q_call (n := 6) (args := [.int .i64 x]) Try.func19 rfl rfl rfl ?_
  refine s_seq ?_
  refine s_region ?_
  refine l_r (r_assign rfl) rfl ?_
  refine l_nil ?_
  refine s_seq ?_
  refine s_region ?_
  refine l_r (r_move rfl) rfl ?_
  refine l_r (r_move rfl) rfl ?_
  refine l_r (r_cmp rfl rfl (b := false) (by simp)) rfl ?_
  refine l_r (r_assign rfl) rfl ?_
  refine l_nil ?_
  refine s_ret ?_
  exact q_done (.inr rfl) (.tmp rfl .nil) ⟨rfl, rfl⟩

def cmpI (x y : Int) : Int := if x < y then -1 else if x > y then 1 else 0

set_option maxRecDepth 100000 in
theorem compare_any (x y : Int) (w : World) :
    Calls Try.prog 14 #[.int .i64 x, .int .i64 y] w (fun e w' => e = .returned (.int .i64 (cmpI x y)) ∧ w = w') := by
  refine q_call (n := 20) (args := [.int .i64 x, .int .i64 y]) Try.func14 rfl rfl rfl ?_
  refine s_seq ?_
  refine s_region ?_
  refine l_r (r_assign rfl) rfl ?_
  refine l_nil ?_
  refine s_seq ?_
  refine s_region ?_
  refine l_r (r_move rfl) rfl ?_
  refine l_call rfl rfl fk19 rfl (isNaN_any x w) ?_
  rintro _ _ ⟨rfl, rfl⟩
  refine ⟨_, rfl, ?_⟩
  refine l_r (r_assign rfl) rfl ?_
  refine l_nil ?_
  refine s_seq ?_
  refine s_region ?_
  refine l_r (r_move rfl) rfl ?_
  refine l_call rfl rfl fk19 rfl (isNaN_any y w) ?_
  rintro _ _ ⟨rfl, rfl⟩
  refine ⟨_, rfl, ?_⟩
  refine l_r (r_assign rfl) rfl ?_
  refine l_nil ?_
  refine s_seq ?_
  refine s_seq ?_
  refine s_region ?_
  refine l_r (r_move rfl) rfl ?_
  refine l_nil ?_
  refine s_else rfl ?_
  refine s_skip ?_
  refine s_seq ?_
  refine s_seq ?_
  refine s_region ?_
  refine l_r (r_move rfl) rfl ?_
  refine l_nil ?_
  refine s_else rfl ?_
  refine s_skip ?_
  refine s_seq ?_
  refine s_seq ?_
  refine s_region ?_
  refine l_r (r_move rfl) rfl ?_
  refine l_r (r_move rfl) rfl ?_
  by_cases hc1 : x < y
  ·
    refine l_r (r_cmp rfl rfl (b := true) (congrArg some (decide_eq_true hc1))) rfl ?_
    refine l_nil ?_
    refine s_then rfl ?_
    refine s_seq ?_
    refine s_region ?_
    refine l_r (r_assign rfl) rfl ?_
    refine l_nil ?_
    refine s_ret ?_
    exact q_done (.inr rfl) (.tmp rfl .nil) ⟨by simp [resV, cmpI, *], rfl⟩
  ·
    refine l_r (r_cmp rfl rfl (b := false) (congrArg some (decide_eq_false hc1))) rfl ?_
    refine l_nil ?_
    refine s_else rfl ?_
    refine s_skip ?_
    refine s_seq ?_
    refine s_seq ?_
    refine s_region ?_
    refine l_r (r_move rfl) rfl ?_
    refine l_r (r_move rfl) rfl ?_
    by_cases hc2 : x > y
    ·
      refine l_r (r_cmp rfl rfl (b := true) (congrArg some (decide_eq_true hc2))) rfl ?_
      refine l_nil ?_
      refine s_then rfl ?_
      refine s_seq ?_
      refine s_region ?_
      refine l_r (r_assign rfl) rfl ?_
      refine l_nil ?_
      refine s_ret ?_
      exact q_done (.inr rfl) (.tmp rfl .nil) ⟨by simp [resV, cmpI, *], rfl⟩
    ·
      refine l_r (r_cmp rfl rfl (b := false) (congrArg some (decide_eq_false hc2))) rfl ?_
      refine l_nil ?_
      refine s_else rfl ?_
      refine s_skip ?_
      refine s_seq ?_
      refine s_region ?_
      refine l_r (r_assign rfl) rfl ?_
      refine l_nil ?_
      refine s_ret ?_
      exact q_done (.inr rfl) (.tmp rfl .nil) ⟨by simp [resV, cmpI, *], rfl⟩

/-- A process's cells. -/
def procCells (x : TProc) : List Value := [.int .i64 x.State, .int .i64 x.Prio, .bool x.Suspended, .int .i64 x.C.PC, .int .i64 x.C.R0, .int .i64 x.C.R1, .int .i64 x.C.R2, .int .i64 x.C.R3, .int .i64 x.Since, .int .i64 x.Until, .int .i64 x.Kind, .int .i64 x.Object, .int .i64 x.Due, .int .i64 x.Next, .bool x.Pending, .int .i64 x.Code, .int .i64 x.Value, .int .i64 x.Call]
theorem proc_cells {w : World} {ok : Nat → Prop} {x : TProc} {cs : List Value} (h : Kd.proc.K w ok x cs) : cs = procCells x := h
theorem sl_proc {w : World} {ok : Nat → Prop} {A : Option Addr} {c : Nat} {xs : List TProc} (h : Sl Kd.proc w ok A c xs) {i : Nat} (hi : i < xs.length) : ∃ b o, A = some ⟨b, o, none⟩ ∧ Cells w b (o + i * 18) (procCells xs[i]) := by
  obtain ⟨b, o, cs, hA, _, hK, hc⟩ := h.at_ hi
  have := proc_cells hK
  subst this
  exact ⟨b, o, hA, hc⟩
def couldB (x : TProc) (i : Nat) (mode : Int) : Bool := (x.State == 1 && !x.Suspended) && (mode == 2 || (mode == 1 && (i : Int) == 0))

set_option maxRecDepth 100000 in
theorem could_any {xs : List TProc} {b o c : Nat} (i : Nat) (mode : Int) (w : World) (hi : i < xs.length) (hc : Cells w b (o + i * 18) (procCells xs[i])) :
    Calls Try.prog 15 #[.slice (some ⟨b, o, none⟩) xs.length c, .int .i64 (i : Int), .int .i64 mode] w (fun e w' => e = .returned (.bool (couldB xs[i] i mode)) ∧ w = w') := by
  refine q_call (n := 30) (args := [.slice (some ⟨b, o, none⟩) xs.length c, .int .i64 (i : Int), .int .i64 mode]) Try.func15 rfl rfl rfl ?_
  refine s_seq ?_
  refine s_region ?_
  refine l_r (r_assign rfl) rfl ?_
  refine l_nil ?_
  refine s_seq ?_
  refine s_seq ?_
  refine s_region ?_
  refine l_r (r_move rfl) rfl ?_
  refine l_r (r_move rfl) rfl ?_
  refine l_r (r_index rfl rfl (by omega) (by omega) el22) rfl ?_
  refine l_r (r_field rfl fo33_0) rfl ?_
  refine l_r (r_load1 rfl ag3 (hc.get (j := 0) rfl)) rfl ?_
  by_cases hc1 : xs[i].State = 1
  ·
    refine l_r (r_cmp rfl rfl (b := false) (congrArg some (bne_eq_false_iff_eq.2 hc1))) rfl ?_
    refine l_r (r_move rfl) rfl ?_
    refine l_on (dj := 13) rfl rfl rfl ?_
    refine l_r (r_move rfl) rfl ?_
    refine l_on (dj := 13) rfl rfl rfl ?_
    refine l_r (r_move rfl) rfl ?_
    refine l_on (dj := 13) rfl rfl rfl ?_
    refine l_r (r_index rfl rfl (by omega) (by omega) el22) rfl ?_
    refine l_on (dj := 13) rfl rfl rfl ?_
    refine l_r (r_field rfl fo33_2) rfl ?_
    refine l_on (dj := 13) rfl rfl rfl ?_
    refine l_r (r_load1 rfl ag4 (hc.get (j := 2) rfl)) rfl ?_
    refine l_r (r_pick_f rfl rfl) rfl ?_
    refine l_nil ?_
    refine s_cond rfl (fun hc2 => ?_) (fun hc2 => ?_)
    ·
      refine s_seq ?_
      refine s_region ?_
      refine l_r (r_assign rfl) rfl ?_
      refine l_nil ?_
      refine s_ret ?_
      exact q_done (.inr rfl) (.tmp rfl .nil) ⟨by simp [resV, couldB, *], rfl⟩
    ·
      refine s_skip ?_
      refine s_seq ?_
      refine s_region ?_
      refine l_r (r_move rfl) rfl ?_
      by_cases hc3 : mode = 2
      ·
        refine l_r (r_cmp rfl rfl (b := true) (congrArg some (beq_iff_eq.2 hc3))) rfl ?_
        refine l_r (r_move rfl) rfl ?_
        refine l_off (dj := 22) (b := true) rfl rfl rfl rfl rfl ?_
        refine l_off (dj := 22) (b := true) rfl rfl rfl rfl rfl ?_
        refine l_off (dj := 22) (b := true) rfl rfl rfl rfl rfl ?_
        refine l_offu (dj := 25) rfl rfl rfl rfl ?_
        refine l_offu (dj := 25) rfl rfl rfl rfl ?_
        refine l_off (dj := 22) (b := true) rfl rfl rfl rfl rfl ?_
        refine l_r (r_pick_t rfl rfl) rfl ?_
        refine l_r (r_assign rfl) rfl ?_
        refine l_nil ?_
        refine s_ret ?_
        exact q_done (.inr rfl) (.tmp rfl .nil) ⟨by simp [resV, couldB, *], rfl⟩
      ·
        refine l_r (r_cmp rfl rfl (b := false) (congrArg some (beq_eq_false_iff_ne.2 hc3))) rfl ?_
        refine l_r (r_move rfl) rfl ?_
        refine l_on (dj := 22) rfl rfl rfl ?_
        refine l_r (r_move rfl) rfl ?_
        refine l_on (dj := 22) rfl rfl rfl ?_
        by_cases hc5 : mode = 1
        ·
          refine l_r (r_cmp rfl rfl (b := true) (congrArg some (beq_iff_eq.2 hc5))) rfl ?_
          refine l_on (dj := 22) rfl rfl rfl ?_
          refine l_r (r_move rfl) rfl ?_
          refine l_on (dj := 25) rfl rfl rfl ?_
          refine l_r (r_move rfl) rfl ?_
          refine l_on (dj := 25) rfl rfl rfl ?_
          refine l_r (r_cmp rfl rfl rfl) rfl ?_
          refine l_on (dj := 22) rfl rfl rfl ?_
          refine l_r (r_pick_t rfl rfl) rfl ?_
          refine l_r (r_pick_f rfl rfl) rfl ?_
          refine l_r (r_assign rfl) rfl ?_
          refine l_nil ?_
          refine s_ret ?_
          exact q_done (.inr rfl) (.tmp rfl .nil) ⟨by simp [resV, couldB, *], rfl⟩
        ·
          refine l_r (r_cmp rfl rfl (b := false) (congrArg some (beq_eq_false_iff_ne.2 hc5))) rfl ?_
          refine l_on (dj := 22) rfl rfl rfl ?_
          refine l_r (r_move rfl) rfl ?_
          refine l_off (dj := 25) (b := false) rfl rfl rfl rfl rfl ?_
          refine l_off (dj := 25) (b := false) rfl rfl rfl rfl rfl ?_
          refine l_on (dj := 22) rfl rfl rfl ?_
          refine l_r (r_pick_f rfl rfl) rfl ?_
          refine l_r (r_pick_f rfl rfl) rfl ?_
          refine l_r (r_assign rfl) rfl ?_
          refine l_nil ?_
          refine s_ret ?_
          exact q_done (.inr rfl) (.tmp rfl .nil) ⟨by simp [resV, couldB, *], rfl⟩
  ·
    refine l_r (r_cmp rfl rfl (b := true) (congrArg some (bne_iff_ne.2 hc1))) rfl ?_
    refine l_r (r_move rfl) rfl ?_
    refine l_off (dj := 13) (b := true) rfl rfl rfl rfl rfl ?_
    refine l_off (dj := 13) (b := true) rfl rfl rfl rfl rfl ?_
    refine l_off (dj := 13) (b := true) rfl rfl rfl rfl rfl ?_
    refine l_off (dj := 13) (b := true) rfl rfl rfl rfl rfl ?_
    refine l_off (dj := 13) (b := true) rfl rfl rfl rfl rfl ?_
    refine l_r (r_pick_t rfl rfl) rfl ?_
    refine l_nil ?_
    refine s_then rfl ?_
    refine s_seq ?_
    refine s_region ?_
    refine l_r (r_assign rfl) rfl ?_
    refine l_nil ?_
    refine s_ret ?_
    exact q_done (.inr rfl) (.tmp rfl .nil) ⟨by simp [resV, couldB, *], rfl⟩

def aheadB (xs : List TProc) (a b : Nat) : Bool := match xs[a]?, xs[b]? with
  | some x, some y => if x.Prio != y.Prio then decide (x.Prio > y.Prio) else if x.Since != y.Since then decide (x.Since < y.Since) else decide ((a : Int) < (b : Int))
  | some _, none => true
  | none, some _ => false
  | none, none => decide (a < b)
theorem aheadB_eq {xs : List TProc} {i j : Nat} (hi : i < xs.length) (hj : j < xs.length) : aheadB xs i j = if xs[i].Prio != xs[j].Prio then decide (xs[i].Prio > xs[j].Prio) else if xs[i].Since != xs[j].Since then decide (xs[i].Since < xs[j].Since) else decide ((i : Int) < (j : Int)) := by
  simp [aheadB, List.getElem?_eq_getElem hi, List.getElem?_eq_getElem hj]
theorem one_proc (x : TProc) : ∀ u ∈ procCells x, u.oneCell' = true := Kd.proc.one (w := default) (ok := fun _ => True) (x := x) rfl

set_option maxRecDepth 100000 in
theorem ahead_any {xs : List TProc} {b o c : Nat} (i j : Nat) (w : World) (hi : i < xs.length) (hj : j < xs.length) (hci : Cells w b (o + i * 18) (procCells xs[i])) (hcj : Cells w b (o + j * 18) (procCells xs[j])) :
    Calls Try.prog 16 #[.slice (some ⟨b, o, none⟩) xs.length c, .int .i64 (i : Int), .int .i64 (j : Int)] w (fun e w' => e = .returned (.bool (aheadB xs i j)) ∧ St 0 w w' []) := by
  refine q_call (n := 40) (args := [.slice (some ⟨b, o, none⟩) xs.length c, .int .i64 (i : Int), .int .i64 (j : Int)]) Try.func16 rfl rfl rfl ?_
  have hs0 := St.refl 0 w
  refine s_seq ?_
  refine s_region ?_
  refine l_r (r_assign rfl) rfl ?_
  refine l_nil ?_
  refine s_seq ?_
  refine s_region ?_
  refine l_r (r_move rfl) rfl ?_
  refine l_r (r_move rfl) rfl ?_
  refine l_r (r_index rfl rfl (by omega) (by omega) el22) rfl ?_
  refine l_r (r_loadN rfl ag33 (hci.on hs0) sz33) rfl ?_
  refine l_alloc zz33 rfl hs0 ?_
  intro w1 b7 hb7 hx1 hs1
  refine l_storeAll rfl rfl sz33 (one_proc _) (Nat.zero_le _) hs1 Repl.here rfl ?_
  intro w2 hz2 hk2 hs2
  refine l_nil ?_
  refine s_seq ?_
  refine s_region ?_
  refine l_r (r_move rfl) rfl ?_
  refine l_r (r_move rfl) rfl ?_
  refine l_r (r_index rfl rfl (by omega) (by omega) el22) rfl ?_
  refine l_r (r_loadN rfl ag33 (hcj.on hs2) sz33) rfl ?_
  refine l_alloc zz33 rfl hs2 ?_
  intro w3 b8 hb8 hx3 hs3
  refine l_storeAll rfl rfl sz33 (one_proc _) (Nat.zero_le _) hs3 Repl.here rfl ?_
  intro w4 hz4 hk4 hs4
  refine l_nil ?_
  refine s_seq ?_
  refine s_seq ?_
  refine s_region ?_
  refine l_r (r_field rfl fo33_1) rfl ?_
  refine l_r (r_load1p rfl hs4 (Repl.there Repl.here) ag3 rfl) rfl ?_
  refine l_r (r_field rfl fo33_1) rfl ?_
  refine l_r (r_load1p rfl hs4 Repl.here ag3 rfl) rfl ?_
  refine l_r (r_cmp rfl rfl rfl) rfl ?_
  refine l_nil ?_
  refine s_cond rfl (fun hc5 => ?_) (fun hc5 => ?_)
  ·
    refine s_seq ?_
    refine s_region ?_
    refine l_r (r_field rfl fo33_1) rfl ?_
    refine l_r (r_load1p rfl hs4 (Repl.there Repl.here) ag3 rfl) rfl ?_
    refine l_r (r_field rfl fo33_1) rfl ?_
    refine l_r (r_load1p rfl hs4 Repl.here ag3 rfl) rfl ?_
    refine l_r (r_cmp rfl rfl rfl) rfl ?_
    refine l_r (r_assign rfl) rfl ?_
    refine l_nil ?_
    refine s_ret ?_
    exact q_done (.inr rfl) (.tmp rfl .nil) ⟨by simp [resV, aheadB_eq hi hj, *], hs4.nil⟩
  ·
    refine s_skip ?_
    refine s_seq ?_
    refine s_seq ?_
    refine s_region ?_
    refine l_r (r_field rfl fo33_4) rfl ?_
    refine l_r (r_load1p rfl hs4 (Repl.there Repl.here) ag3 rfl) rfl ?_
    refine l_r (r_field rfl fo33_4) rfl ?_
    refine l_r (r_load1p rfl hs4 Repl.here ag3 rfl) rfl ?_
    refine l_r (r_cmp rfl rfl rfl) rfl ?_
    refine l_nil ?_
    refine s_cond rfl (fun hc6 => ?_) (fun hc6 => ?_)
    ·
      refine s_seq ?_
      refine s_region ?_
      refine l_r (r_field rfl fo33_4) rfl ?_
      refine l_r (r_load1p rfl hs4 (Repl.there Repl.here) ag3 rfl) rfl ?_
      refine l_r (r_field rfl fo33_4) rfl ?_
      refine l_r (r_load1p rfl hs4 Repl.here ag3 rfl) rfl ?_
      refine l_r (r_cmp rfl rfl rfl) rfl ?_
      refine l_r (r_assign rfl) rfl ?_
      refine l_nil ?_
      refine s_ret ?_
      exact q_done (.inr rfl) (.tmp rfl .nil) ⟨by simp [resV, aheadB_eq hi hj, *], hs4.nil⟩
    ·
      refine s_skip ?_
      refine s_seq ?_
      refine s_region ?_
      refine l_r (r_move rfl) rfl ?_
      refine l_r (r_move rfl) rfl ?_
      refine l_r (r_cmp rfl rfl rfl) rfl ?_
      refine l_r (r_assign rfl) rfl ?_
      refine l_nil ?_
      refine s_ret ?_
      exact q_done (.inr rfl) (.tmp rfl .nil) ⟨by simp [resV, aheadB_eq hi hj, *], hs4.nil⟩

theorem could_anyA {xs : List TProc} {A : Option Addr} {b o c : Nat} (hA : A = some ⟨b, o, none⟩) (i : Nat) (mode : Int) (w : World) (hi : i < xs.length) (hc : Cells w b (o + i * 18) (procCells xs[i])) : Calls Try.prog 15 #[.slice A xs.length c, .int .i64 (i : Int), .int .i64 mode] w (fun e w' => e = .returned (.bool (couldB xs[i] i mode)) ∧ w = w') := by
  subst hA; exact could_any i mode w hi hc
theorem ahead_anyA {xs : List TProc} {A : Option Addr} {b o b' o' c : Nat} (hA : A = some ⟨b, o, none⟩) (hA' : A = some ⟨b', o', none⟩) (i j : Nat) (w : World) (hi : i < xs.length) (hj : j < xs.length) (hci : Cells w b (o + i * 18) (procCells xs[i])) (hcj : Cells w b' (o' + j * 18) (procCells xs[j])) : Calls Try.prog 16 #[.slice A xs.length c, .int .i64 (i : Int), .int .i64 (j : Int)] w (fun e w' => e = .returned (.bool (aheadB xs i j)) ∧ St 0 w w' []) := by
  subst hA
  simp only [Option.some.injEq, Addr.mk.injEq, and_true] at hA'
  obtain ⟨rfl, rfl⟩ := hA'
  exact ahead_any i j w hi hj hci hcj

theorem sl_int {w : World} {ok : Nat → Prop} {A : Option Addr} {c : Nat} {xs : List Int} (h : Sl Kd.int w ok A c xs) {i : Nat} (hi : i < xs.length) : ∃ b o, A = some ⟨b, o, none⟩ ∧ w.cell? ⟨b, o + i * 1, none⟩ = some (.int .i64 xs[i]) := by
  obtain ⟨b, o, cs, hA, _, hK, hc⟩ := h.at_ hi
  have : cs = [.int .i64 xs[i]] := hK
  subst this
  exact ⟨b, o, hA, hc 0 _ rfl⟩
/-- Unequal at some place below k. -/
theorem list_ne {xs ys : List Int} {k : Nat} (h1 : k < xs.length) (h2 : k < ys.length) (h : xs[k] ≠ ys[k]) : ¬ xs = ys := fun e => by subst e; exact h rfl
theorem list_eq {xs ys : List Int} (hl : xs.length = ys.length) (h : ∀ j (h1 : j < xs.length) (h2 : j < ys.length), xs[j] = ys[j]) : xs = ys := List.ext_getElem hl (fun j h1 h2 => h j h1 h2)

set_option maxRecDepth 100000 in
theorem same_any {xs ys : List Int} {A B : Option Addr} {c d : Nat} (w : World) {ok ok' : Nat → Prop} (hx : Sl Kd.int w ok A c xs) (hy : Sl Kd.int w ok' B d ys) :
    Calls Try.prog 6 #[.slice A xs.length c, .slice B ys.length d] w (fun e w' => e = .returned (.bool (decide (xs = ys))) ∧ St 0 w w' []) := by
  refine q_call (n := 26) (args := [.slice A xs.length c, .slice B ys.length d]) Try.func6 rfl rfl rfl ?_
  have hs0 := St.refl 0 w
  have hlx := hx.len
  have hly := hy.len
  refine s_seq ?_
  refine s_region ?_
  refine l_r (r_assign rfl) rfl ?_
  refine l_nil ?_
  refine s_seq ?_
  refine s_seq ?_
  refine s_region ?_
  refine l_r (r_move rfl) rfl ?_
  refine l_r (r_len rfl el25) rfl ?_
  refine l_r (r_move rfl) rfl ?_
  refine l_r (r_len rfl el25) rfl ?_
  by_cases hc1 : (xs.length : Int) = (ys.length : Int)
  ·
    refine l_r (r_cmp rfl rfl (b := false) (congrArg some (bne_eq_false_iff_eq.2 hc1))) rfl ?_
    refine l_nil ?_
    refine s_else rfl ?_
    refine s_skip ?_
    refine s_seq ?_
    refine s_seq ?_
    refine s_region ?_
    refine l_r (r_assign rfl) rfl ?_
    refine l_nil ?_
    refine s_block ?_
    refine s_loop (fun m L wl => ∃ k : Nat, L = [(0, .slice A xs.length c), (1, .slice B ys.length d), (5, .int .i64 ((k : Nat) : Int))] ∧ m = xs.length - k ∧ k ≤ xs.length ∧ Ext w wl ∧ ∀ j (h1 : j < xs.length) (h2 : j < ys.length), j < k → xs[j] = ys[j]) _ [(0, .slice A xs.length c), (1, .slice B ys.length d), (5, .int .i64 ((0 : Nat) : Int))] (.cons rfl (.cons rfl (.cons rfl .nil))) ⟨0, rfl, rfl, ⟨Nat.zero_le _, Ext.refl _, fun j _ _ h => by omega⟩⟩ ?_
    rintro _ _ w2 ⟨k, rfl, rfl, hk, hbel, heq⟩
    have hs2 : St 0 w w2 [] := (St.refl 0 w).ext hbel
    refine s_seq ?_
    refine s_seq ?_
    refine s_region ?_
    refine l_r (r_move rfl) rfl ?_
    refine l_r (r_move rfl) rfl ?_
    refine l_r (r_len rfl el25) rfl ?_
    by_cases hc3 : (k : Int) < (xs.length : Int)
    ·
      refine l_r (r_cmp rfl rfl (b := true) (congrArg some (decide_eq_true hc3))) rfl ?_
      have hkx : k < xs.length := by omega
      have hky : k < ys.length := by omega
      obtain ⟨b, o, hAx, hxk⟩ := sl_int hx hkx
      obtain ⟨b2, o2, hAy, hyk⟩ := sl_int hy hky
      refine l_nil ?_
      refine s_then rfl ?_
      refine s_skip ?_
      refine s_seq ?_
      refine s_block ?_
      refine s_seq ?_
      refine s_quiet (by kernel_rfl) (by kernel_rfl) ?_
      refine qq_r (fun w' hw' => r_move rfl) rfl ?_
      refine qq_r (fun w' hw' => r_move rfl) rfl ?_
      refine qq_r (fun w' hw' => r_indexA rfl hAx rfl (by omega) (by omega) el25) rfl ?_
      refine qq_r (fun w' hw' => r_load1 rfl ag3 (cell_on hxk (hs2.ext hw'))) rfl ?_
      refine qq_r (fun w' hw' => r_move rfl) rfl ?_
      refine qq_r (fun w' hw' => r_move rfl) rfl ?_
      refine qq_r (fun w' hw' => r_indexA rfl hAy rfl (by omega) (by omega) el25) rfl ?_
      refine qq_r (fun w' hw' => r_load1 rfl ag3 (cell_on hyk (hs2.ext hw'))) rfl ?_
      refine qq_r (fun w' hw' => r_cmp rfl rfl rfl) rfl ?_
      refine qq_nil ?_
      intro w4 hx4
      have hs4 := hs2.ext hx4
      refine s_cond rfl (fun hcc => ?_) (fun hcc => ?_)
      ·
        refine s_seq ?_
        refine s_region ?_
        refine l_r (r_assign rfl) rfl ?_
        refine l_nil ?_
        refine s_ret ?_
        exact q_done (.inr rfl) (.tmp rfl .nil) ⟨ret_bool ((decide_eq_false (list_ne (by assumption) (by assumption) (by simpa using hcc))).symm), hs4⟩
      ·
        refine s_skip ?_
        refine s_mark ?_
        refine s_region ?_
        refine l_r (r_move rfl) rfl ?_
        refine l_r (r_inc rfl (by omega)) rfl ?_
        refine l_r (r_assign rfl) rfl ?_
        refine l_nil ?_
        refine s_again ?_
        exact ⟨_, [(0, .slice A xs.length c), (1, .slice B ys.length d), (5, .int .i64 (((k + 1) : Nat) : Int))], by omega, (.cons rfl (.cons rfl (.cons rfl .nil))), ⟨(k + 1), rfl, rfl, ⟨by omega, hs4.toExt, fun j h1 h2 h3 => by
              rcases Nat.lt_or_ge j k with h4 | h4
              · exact heq j h1 h2 h4
              · have : j = k := by omega
                subst this
                simpa using hcc⟩⟩⟩
    ·
      refine l_r (r_cmp rfl rfl (b := false) (congrArg some (decide_eq_false hc3))) rfl ?_
      refine l_nil ?_
      refine s_else rfl ?_
      refine s_exit rfl ?_
      refine s_seq ?_
      refine s_region ?_
      refine l_r (r_assign rfl) rfl ?_
      refine l_nil ?_
      refine s_ret ?_
      exact q_done (.inr rfl) (.tmp rfl .nil) ⟨ret_bool ((decide_eq_true (list_eq (by omega) (fun j h1 h2 => heq j h1 h2 (by omega)))).symm), hs2⟩
  ·
    refine l_r (r_cmp rfl rfl (b := true) (congrArg some (bne_iff_ne.2 hc1))) rfl ?_
    refine l_nil ?_
    refine s_then rfl ?_
    refine s_seq ?_
    refine s_region ?_
    refine l_r (r_assign rfl) rfl ?_
    refine l_nil ?_
    refine s_ret ?_
    exact q_done (.inr rfl) (.tmp rfl .nil) ⟨ret_bool ((decide_eq_false (fun h => hc1 (by rw [h]))).symm), hs0⟩

end Go.Proofs.Ytcapkhhflhpnpaa
