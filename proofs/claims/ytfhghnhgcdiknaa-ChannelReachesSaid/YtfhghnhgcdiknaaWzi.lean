/- All of a list may be: IndexFunc, ContainsFunc, all. -/
import Derived.Test.YtfhghnhgcdiknaaWzb
set_option linter.unusedVariables false
namespace Go.Proofs.Ytfhghnhgcdiknaa
open Go.RowKit
/-- Steps through a list; none: it stops. -/
def foldS {σ τ : Type} (step : σ → τ → Option σ) : σ → List τ → Option σ
  | s, [] => some s
  | s, x :: l => (step s x).bind (fun s' => foldS step s' l)
theorem foldS_append {σ τ : Type} {step : σ → τ → Option σ} : ∀ {l l' : List τ} {s : σ}, foldS step s (l ++ l') = (foldS step s l).bind (fun s' => foldS step s' l')
  | [], _, _ => rfl
  | x :: l, l', s => by
    simp only [List.cons_append, foldS]
    cases step s x with
    | none => rfl
    | some s' => exact foldS_append
theorem foldS_next {σ τ : Type} {step : σ → τ → Option σ} {xs : List τ} {k : Nat} {s0 s s1 : σ} {x : τ} (h : foldS step s0 (xs.take k) = some s) (hx : xs[k]? = some x) (hst : step s x = some s1) : foldS step s0 (xs.take (k + 1)) = some s1 := by
  rw [List.take_add_one, hx, foldS_append, h]
  simp [foldS, hst]
theorem foldS_stop {σ τ : Type} {step : σ → τ → Option σ} {xs : List τ} {k : Nat} {s0 s : σ} {x : τ} (h : foldS step s0 (xs.take k) = some s) (hx : xs[k]? = some x) (hst : step s x = none) : foldS step s0 xs = none := by
  obtain ⟨hk, rfl⟩ := List.getElem?_eq_some_iff.1 hx
  rw [← List.take_append_drop k xs, foldS_append, h, List.drop_eq_getElem_cons hk]
  simp [foldS, hst]
theorem foldS_end {σ τ : Type} {step : σ → τ → Option σ} {xs : List τ} {k : Nat} {s0 s : σ} (h : foldS step s0 (xs.take k) = some s) (hk : xs.length ≤ k) : foldS step s0 xs = some s := by
  rwa [List.take_of_length_le hk] at h
theorem St.dropL {G : Nat} {w0 w : World} {H H' : List Res} (h : St G w0 w (H ++ H')) : St G w0 w H' := h.sub (List.sublist_append_right _ _)
def mkA (cs : List Value) : Value := .agg cs.toArray
def mkI : List Value → Value
  | v :: _ => v
  | [] => .bool false
/-- A function value that answers q and goes on, or answers p. -/
def FnOk {σ τ : Type} (P : Program) (f : Nat) (cap : List Value) (d : Kd τ) (mk : List Value → Value) (p q : Bool) (w0 : World) (ok : Nat → Prop) (good : σ → Prop) (dom : τ → Prop) (Inv : σ → List Res) (step : σ → τ → Option σ) : Prop :=
  ∀ (w : World) (H : List Res) (s : σ) (x : τ) (cs : List Value), good s → dom x → d.K w0 ok x cs → St 0 w0 w (Inv s ++ H) →
    Calls P f (mk cs :: cap).toArray w (fun e w' => (∃ s', e = .returned (.bool q) ∧ step s x = some s' ∧ good s' ∧ St 0 w0 w' (Inv s' ++ H)) ∨ (e = .returned (.bool p) ∧ step s x = none ∧ St 0 w0 w' H))
theorem St.mid {G : Nat} {w0 w : World} {r : Res} {H H' : List Res} (h : St G w0 w (r :: (H ++ H'))) : St G w0 w (H ++ r :: H') := h.perm List.perm_middle.symm
theorem St.unmid {G : Nat} {w0 w : World} {r : Res} {H H' : List Res} (h : St G w0 w (H ++ r :: H')) : St G w0 w (r :: (H ++ H')) := h.perm List.perm_middle

theorem fk106 : fnOk Try.prog 106 = true := by kernel_rfl

set_option maxRecDepth 100000 in
theorem ix81 {σ : Type} {w0 w : World} {H : List Res} {ok : Nat → Prop} {good : σ → Prop} {dom : Int → Prop} {Inv : σ → List Res} {step : σ → Int → Option σ} {s0 : σ} {xs : List Int} {A : Option Addr} {c f : Nat} {cap : List Value} (hs0 : St 0 w0 w (Inv s0 ++ H)) (hx : Sl Kd.int w0 ok A c xs) (hf : fnOk Try.prog f = true) (hg : good s0) (hd : ∀ x, x ∈ xs → dom x) (hdo : FnOk Try.prog f cap Kd.int mkI true false w0 ok good dom Inv step) :
    Calls Try.prog 81 #[.slice A xs.length c, .func (.func f) #[] cap.toArray] w (fun e w' => ∃ i : Int, e = .returned (.int .i64 i) ∧ ((i = -1 ∧ ∃ s', foldS step s0 xs = some s' ∧ good s' ∧ St 0 w0 w' (Inv s' ++ H)) ∨ (0 ≤ i ∧ foldS step s0 xs = none ∧ St 0 w0 w' H))) := by
  refine q_call (n := 19) (args := [.slice A xs.length c, .func (.func f) #[] cap.toArray]) Try.func81 rfl rfl rfl ?_
  have hs0 := hs0
  have hxl := hx.1
  have hxm := hx.2.1
  refine s_seq ?_
  refine s_region ?_
  refine l_r (r_assign rfl) rfl ?_
  refine l_nil ?_
  refine s_seq ?_
  refine s_seq ?_
  refine s_region ?_
  refine l_r (r_move rfl) rfl ?_
  refine l_r (r_len rfl el22) rfl ?_
  refine l_r (r_move rfl) rfl ?_
  refine l_nil ?_
  refine s_block ?_
  refine s_loop (fun m L wl => ∃ (k : Nat) (s : σ), L = [(8, .int .i64 ((k : Nat) : Int)), (0, .slice A xs.length c), (1, .func (.func f) #[] cap.toArray), (7, .int .i64 ((xs.length : Int)))] ∧ m = xs.length - k ∧ k ≤ xs.length ∧ foldS step s0 (xs.take k) = some s ∧ good s ∧ St 0 w0 wl (Inv s ++ H)) _ [(8, .int .i64 ((0 : Nat) : Int)), (0, .slice A xs.length c), (1, .func (.func f) #[] cap.toArray), (7, .int .i64 ((xs.length : Int)))] (.cons rfl (.cons rfl (.cons rfl (.cons rfl .nil)))) ⟨0, s0, rfl, rfl, Nat.zero_le _, rfl, hg, hs0⟩ ?_
  rintro _ _ w1 ⟨k, s, rfl, rfl, hkk, hfs, hgs, hs1⟩
  refine s_seq ?_
  refine s_region ?_
  refine l_r (r_cmp rfl rfl rfl) rfl ?_
  refine l_nil ?_
  refine s_seq ?_
  refine s_part (dj := 9) rfl (fun hc2 => ?_) (fun hc2 => ?_)
  ·
    have hc2p := of_decide_eq_true hc2
    refine s_then rfl ?_
    refine s_skip ?_
    refine s_seq ?_
    refine s_block ?_
    refine s_seq ?_
    refine s_region ?_
    refine l_r (r_move rfl) rfl ?_
    refine l_r (r_assign rfl) rfl ?_
    refine l_nil ?_
    refine s_seq ?_
    refine s_region ?_
    refine l_r (r_move rfl) rfl ?_
    refine l_r (r_move rfl) rfl ?_
    refine l_r (r_move rfl) rfl ?_
    obtain ⟨e3x, e3h, e3b, e3o, e3cs, e3A, _, e3K, e3c⟩ := hx.get_ (i := k) (by omega)
    obtain rfl : e3cs = [.int .i64 e3x] := e3K
    refine l_r (r_indexA rfl e3A rfl (by omega) (by omega) el22) rfl ?_
    refine l_r (r_load1 rfl ag3 ((e3c.on hs1).get (j := 0) rfl)) rfl ?_
    refine l_call rfl rfl hf rfl (hdo w1 H s e3x [.int .i64 e3x] hgs (hd _ (List.mem_of_getElem? e3h)) rfl hs1) ?_
    rintro _ w4 (⟨s1, rfl, hst, hg1, hs4⟩ | ⟨rfl, hst, hs4⟩)
    ·
      refine ⟨_, rfl, ?_⟩
      refine l_nil ?_
      refine s_else rfl ?_
      refine s_skip ?_
      refine s_mark ?_
      refine s_region ?_
      refine l_r (r_inc rfl (by omega)) rfl ?_
      refine l_r (r_move rfl) rfl ?_
      refine l_nil ?_
      refine s_again ?_
      exact ⟨_, [(8, .int .i64 (((k + 1) : Nat) : Int)), (0, .slice A xs.length c), (1, .func (.func f) #[] cap.toArray), (7, .int .i64 ((xs.length : Int)))], by omega, (.cons rfl (.cons rfl (.cons rfl (.cons rfl .nil)))), ⟨(k + 1), s1, rfl, rfl, by omega, foldS_next hfs e3h hst, hg1, hs4⟩⟩
    ·
      refine ⟨_, rfl, ?_⟩
      refine l_nil ?_
      refine s_then rfl ?_
      refine s_seq ?_
      refine s_region ?_
      refine l_r (r_move rfl) rfl ?_
      refine l_r (r_assign rfl) rfl ?_
      refine l_nil ?_
      refine s_ret ?_
      exact q_done (.inr rfl) (.tmp rfl .nil) ⟨_, rfl, .inr ⟨by omega, foldS_stop hfs e3h hst, hs4⟩⟩
  ·
    have hc2p := of_decide_eq_false hc2
    refine s_else rfl ?_
    refine s_exit rfl ?_
    refine s_seq ?_
    refine s_region ?_
    refine l_r (r_assign rfl) rfl ?_
    refine l_nil ?_
    refine s_ret ?_
    exact q_done (.inr rfl) (.tmp rfl .nil) ⟨_, rfl, .inl ⟨rfl, s, foldS_end hfs (by omega), hgs, hs1⟩⟩

set_option maxRecDepth 100000 in
theorem co48 {σ : Type} {w0 w : World} {H : List Res} {ok : Nat → Prop} {good : σ → Prop} {dom : Int → Prop} {Inv : σ → List Res} {step : σ → Int → Option σ} {s0 : σ} {xs : List Int} {A : Option Addr} {c f : Nat} {cap : List Value} (hs0 : St 0 w0 w (Inv s0 ++ H)) (hx : Sl Kd.int w0 ok A c xs) (hf : fnOk Try.prog f = true) (hg : good s0) (hd : ∀ x, x ∈ xs → dom x) (hdo : FnOk Try.prog f cap Kd.int mkI true false w0 ok good dom Inv step) :
    Calls Try.prog 48 #[.slice A xs.length c, .func (.func f) #[] cap.toArray] w (fun e w' => (∃ s', e = .returned (.bool false) ∧ foldS step s0 xs = some s' ∧ good s' ∧ St 0 w0 w' (Inv s' ++ H)) ∨ (e = .returned (.bool true) ∧ foldS step s0 xs = none ∧ St 0 w0 w' H)) := by
  refine q_call (n := 9) (args := [.slice A xs.length c, .func (.func f) #[] cap.toArray]) Try.func48 rfl rfl rfl ?_
  have hs0 := hs0
  refine s_seq ?_
  refine s_region ?_
  refine l_r (r_assign rfl) rfl ?_
  refine l_nil ?_
  refine s_seq ?_
  refine s_region ?_
  refine l_r (r_move rfl) rfl ?_
  refine l_r (r_move rfl) rfl ?_
  refine l_call rfl rfl fk81 rfl (ix81 hs0 hx hf hg hd hdo) ?_
  rintro _ w1 ⟨i, rfl, ⟨rfl, s1, hfs, hg1, hs1⟩ | ⟨hi, hfs, hs1⟩⟩
  ·
    refine ⟨_, rfl, ?_⟩
    refine l_r (r_cmp rfl rfl (b := false) (by decide)) rfl ?_
    refine l_r (r_assign rfl) rfl ?_
    refine l_nil ?_
    refine s_ret ?_
    exact q_done (.inr rfl) (.tmp rfl .nil) (.inl ⟨s1, rfl, hfs, hg1, hs1⟩)
  ·
    refine ⟨_, rfl, ?_⟩
    refine l_r (r_cmp rfl rfl (b := true) (congrArg some (decide_eq_true hi))) rfl ?_
    refine l_r (r_assign rfl) rfl ?_
    refine l_nil ?_
    refine s_ret ?_
    exact q_done (.inr rfl) (.tmp rfl .nil) (.inr ⟨rfl, hfs, hs1⟩)

set_option maxRecDepth 100000 in
theorem on49 {σ : Type} {w0 w : World} {H : List Res} {ok : Nat → Prop} {good : σ → Prop} {dom : Int → Prop} {Inv : σ → List Res} {step : σ → Int → Option σ} {f : Nat} {cap : List Value} {bo : Nat} {s : σ} {x : Int} {cs : List Value} (hf : fnOk Try.prog f = true) (hdo : FnOk Try.prog f cap Kd.int mkI false true w0 ok good dom Inv step) (hg : good s) (hd : dom x) (hK : Kd.int.K w0 ok x cs) (hs0 : St 0 w0 w (.pt bo [.func (.func f) #[] cap.toArray] 84 :: (Inv s ++ H))) :
    Calls Try.prog 49 #[mkI cs, .pointer (some ⟨bo, 0, none⟩)] w (fun e w' => (∃ s', e = .returned (.bool false) ∧ step s x = some s' ∧ good s' ∧ St 0 w0 w' (.pt bo [.func (.func f) #[] cap.toArray] 84 :: (Inv s' ++ H))) ∨ (e = .returned (.bool true) ∧ step s x = none ∧ St 0 w0 w' H)) := by
  refine q_call (n := 8) (args := [mkI cs, .pointer (some ⟨bo, 0, none⟩)]) Try.func49 rfl rfl rfl ?_
  have hs0 := hs0
  have hK0 := hK
  obtain rfl : cs = [.int .i64 x] := hK
  refine s_seq ?_
  refine s_region ?_
  refine l_r (r_assign rfl) rfl ?_
  refine l_nil ?_
  refine s_seq ?_
  refine s_region ?_
  refine l_r (r_load1p rfl hs0 Repl.here ag84 rfl) rfl ?_
  refine l_r (r_move rfl) rfl ?_
  refine l_call rfl rfl hf rfl (hdo w (.pt bo [.func (.func f) #[] cap.toArray] 84 :: H) s x _ hg hd hK0 hs0.mid) ?_
  rintro _ w1 (⟨s1, rfl, hst, hg1, hs1⟩ | ⟨rfl, hst, hs1⟩)
  ·
    refine ⟨_, rfl, ?_⟩
    refine l_r (r_not rfl) rfl ?_
    refine l_r (r_assign rfl) rfl ?_
    refine l_nil ?_
    refine s_ret ?_
    exact q_done (.inr rfl) (.tmp rfl .nil) (.inl ⟨s1, rfl, hst, hg1, hs1.unmid⟩)
  ·
    refine ⟨_, rfl, ?_⟩
    refine l_r (r_not rfl) rfl ?_
    refine l_r (r_assign rfl) rfl ?_
    refine l_nil ?_
    refine s_ret ?_
    exact q_done (.inr rfl) (.tmp rfl .nil) (.inr ⟨rfl, hst, hs1.tail⟩)

theorem onk49 {σ : Type} {w0 : World} {ok : Nat → Prop} {good : σ → Prop} {dom : Int → Prop} {Inv : σ → List Res} {step : σ → Int → Option σ} {f : Nat} {cap : List Value} {bo : Nat} (hf : fnOk Try.prog f = true) (hdo : FnOk Try.prog f cap Kd.int mkI false true w0 ok good dom Inv step) :
    FnOk Try.prog 49 [.pointer (some ⟨bo, 0, none⟩)] Kd.int mkI true false w0 ok good dom (fun s => .pt bo [.func (.func f) #[] cap.toArray] 84 :: Inv s) step :=
  fun _ _ _ _ _ hg hd hK hs => on49 hf hdo hg hd hK hs

set_option maxRecDepth 100000 in
theorem al34 {σ : Type} {w0 w : World} {H : List Res} {ok : Nat → Prop} {good : σ → Prop} {dom : Int → Prop} {Inv : σ → List Res} {step : σ → Int → Option σ} {s0 : σ} {xs : List Int} {A : Option Addr} {c f : Nat} {cap : List Value} {n : Int} (hs0 : St 0 w0 w (Inv s0 ++ H)) (hx : Sl Kd.int w0 ok A c xs) (hf : fnOk Try.prog f = true) (hg : good s0) (hd : ∀ x, x ∈ xs → dom x) (hdo : FnOk Try.prog f cap Kd.int mkI false true w0 ok good dom Inv step) :
    Calls Try.prog 34 #[.slice A xs.length c, .int .i64 n, .func (.func f) #[] cap.toArray] w (fun e w' => (∃ s', e = .returned (.bool true) ∧ (xs.length : Int) ≤ n ∧ foldS step s0 xs = some s' ∧ good s' ∧ St 0 w0 w' (Inv s' ++ H)) ∨ (e = .returned (.bool false) ∧ (n < (xs.length : Int) ∨ foldS step s0 xs = none) ∧ St 0 w0 w' H)) := by
  refine q_call (n := 17) (args := [.slice A xs.length c, .int .i64 n, .func (.func f) #[] cap.toArray]) Try.func34 rfl rfl rfl ?_
  have hs0 := hs0
  refine s_seq ?_
  refine s_region ?_
  refine l_box rfl rfl rfl hs0 ?_
  intro w1 b5 hb5 hx1 hs1
  refine l_r (r_assign rfl) rfl ?_
  refine l_nil ?_
  refine s_seq ?_
  refine s_region ?_
  refine l_r (r_move rfl) rfl ?_
  refine l_r (r_len rfl el22) rfl ?_
  refine l_r (r_move rfl) rfl ?_
  refine l_r (r_cmp rfl rfl rfl) rfl ?_
  refine l_r (r_move rfl) rfl ?_
  refine l_part (dj := 11) rfl (fun hm => ?_) (fun hm => ?_)
  ·
    have hmp := of_decide_eq_true hm
    refine l_on (dj := 11) rfl rfl rfl ?_
    refine l_r (r_move rfl) rfl ?_
    refine l_on (dj := 11) rfl rfl rfl ?_
    refine l_r (r_makefunc rfl rfl) rfl ?_
    refine l_on (dj := 11) rfl rfl rfl ?_
    refine l_call rfl rfl fk48 rfl (co48 (Inv := fun s => .pt b5 [.func (.func f) #[] cap.toArray] 84 :: Inv s) (H := H) hs1 hx fk49 hg hd (onk49 hf hdo)) ?_
    rintro _ w3 (⟨s1, rfl, hfs, hg1, hs3⟩ | ⟨rfl, hfs, hs3⟩)
    ·
      refine ⟨_, rfl, ?_⟩
      refine l_on (dj := 11) rfl rfl rfl ?_
      refine l_r (r_not rfl) rfl ?_
      refine l_r (r_pick_t rfl rfl) rfl ?_
      refine l_r (r_assign rfl) rfl ?_
      refine l_nil ?_
      refine s_ret ?_
      exact q_done (.inr rfl) (.tmp rfl .nil) (.inl ⟨s1, rfl, hmp, hfs, hg1, hs3.tail⟩)
    ·
      refine ⟨_, rfl, ?_⟩
      refine l_on (dj := 11) rfl rfl rfl ?_
      refine l_r (r_not rfl) rfl ?_
      refine l_r (r_pick_t rfl rfl) rfl ?_
      refine l_r (r_assign rfl) rfl ?_
      refine l_nil ?_
      refine s_ret ?_
      exact q_done (.inr rfl) (.tmp rfl .nil) (.inr ⟨rfl, .inr hfs, hs3⟩)
  ·
    have hmp := of_decide_eq_false hm
    refine l_off (dj := 11) (b := false) rfl rfl rfl rfl rfl ?_
    refine l_off (dj := 11) (b := false) rfl rfl rfl rfl rfl ?_
    refine l_off (dj := 11) (b := false) rfl rfl rfl rfl rfl ?_
    refine l_off (dj := 11) (b := false) rfl rfl rfl rfl rfl ?_
    refine l_r (r_pick_f rfl rfl) rfl ?_
    refine l_r (r_assign rfl) rfl ?_
    refine l_nil ?_
    refine s_ret ?_
    exact q_done (.inr rfl) (.tmp rfl .nil) (.inr ⟨rfl, .inl (by omega), hs1.tail.dropL⟩)

set_option maxRecDepth 100000 in
theorem ix82 {σ : Type} {w0 w : World} {H : List Res} {ok : Nat → Prop} {good : σ → Prop} {dom : TPartConf → Prop} {Inv : σ → List Res} {step : σ → TPartConf → Option σ} {s0 : σ} {xs : List TPartConf} {A : Option Addr} {c f : Nat} {cap : List Value} (hs0 : St 0 w0 w (Inv s0 ++ H)) (hx : Sl Kd.partConf w0 ok A c xs) (hf : fnOk Try.prog f = true) (hg : good s0) (hd : ∀ x, x ∈ xs → dom x) (hdo : FnOk Try.prog f cap Kd.partConf mkA true false w0 ok good dom Inv step) :
    Calls Try.prog 82 #[.slice A xs.length c, .func (.func f) #[] cap.toArray] w (fun e w' => ∃ i : Int, e = .returned (.int .i64 i) ∧ ((i = -1 ∧ ∃ s', foldS step s0 xs = some s' ∧ good s' ∧ St 0 w0 w' (Inv s' ++ H)) ∨ (0 ≤ i ∧ foldS step s0 xs = none ∧ St 0 w0 w' H))) := by
  refine q_call (n := 19) (args := [.slice A xs.length c, .func (.func f) #[] cap.toArray]) Try.func82 rfl rfl rfl ?_
  have hs0 := hs0
  have hxl := hx.1
  have hxm := hx.2.1
  refine s_seq ?_
  refine s_region ?_
  refine l_r (r_assign rfl) rfl ?_
  refine l_nil ?_
  refine s_seq ?_
  refine s_seq ?_
  refine s_region ?_
  refine l_r (r_move rfl) rfl ?_
  refine l_r (r_len rfl el23) rfl ?_
  refine l_r (r_move rfl) rfl ?_
  refine l_nil ?_
  refine s_block ?_
  refine s_loop (fun m L wl => ∃ (k : Nat) (s : σ), L = [(8, .int .i64 ((k : Nat) : Int)), (0, .slice A xs.length c), (1, .func (.func f) #[] cap.toArray), (7, .int .i64 ((xs.length : Int)))] ∧ m = xs.length - k ∧ k ≤ xs.length ∧ foldS step s0 (xs.take k) = some s ∧ good s ∧ St 0 w0 wl (Inv s ++ H)) _ [(8, .int .i64 ((0 : Nat) : Int)), (0, .slice A xs.length c), (1, .func (.func f) #[] cap.toArray), (7, .int .i64 ((xs.length : Int)))] (.cons rfl (.cons rfl (.cons rfl (.cons rfl .nil)))) ⟨0, s0, rfl, rfl, Nat.zero_le _, rfl, hg, hs0⟩ ?_
  rintro _ _ w1 ⟨k, s, rfl, rfl, hkk, hfs, hgs, hs1⟩
  refine s_seq ?_
  refine s_region ?_
  refine l_r (r_cmp rfl rfl rfl) rfl ?_
  refine l_nil ?_
  refine s_seq ?_
  refine s_part (dj := 9) rfl (fun hc2 => ?_) (fun hc2 => ?_)
  ·
    have hc2p := of_decide_eq_true hc2
    refine s_then rfl ?_
    refine s_skip ?_
    refine s_seq ?_
    refine s_block ?_
    refine s_seq ?_
    refine s_region ?_
    refine l_r (r_move rfl) rfl ?_
    refine l_r (r_assign rfl) rfl ?_
    refine l_nil ?_
    refine s_seq ?_
    refine s_region ?_
    refine l_r (r_move rfl) rfl ?_
    refine l_r (r_move rfl) rfl ?_
    refine l_r (r_move rfl) rfl ?_
    obtain ⟨e3x, e3h, e3b, e3o, e3cs, e3A, _, e3K, e3c⟩ := hx.get_ (i := k) (by omega)
    have e3K0 := e3K
    obtain ⟨Ae3_1, ce3_1, Ae3_2, ce3_2, Ae3_4, ce3_4, Ae3_5, ce3_5, Ae3_7, ce3_7, Ae3_8, ce3_8, Ae3_10, ce3_10, rfl, he3_1, he3_2, he3_4, he3_5, he3_7, he3_8, he3_10⟩ := e3K
    refine l_r (r_indexA rfl e3A rfl (by omega) (by omega) el23) rfl ?_
    refine l_r (r_loadN rfl ag75 (e3c.on hs1) sz75) rfl ?_
    refine l_call rfl rfl hf rfl (hdo w1 H s e3x [.int .i64 e3x.Words, .slice Ae3_1 e3x.Regions.length ce3_1, .slice Ae3_2 e3x.Procs.length ce3_2, .int .i64 e3x.Boards, .slice Ae3_4 e3x.Buffers.length ce3_4, .slice Ae3_5 e3x.Semas.length ce3_5, .int .i64 e3x.Events, .slice Ae3_7 e3x.Samples.length ce3_7, .slice Ae3_8 e3x.Queues.length ce3_8, .int .i64 e3x.Latch, .slice Ae3_10 e3x.Table.length ce3_10] hgs (hd _ (List.mem_of_getElem? e3h)) e3K0 hs1) ?_
    rintro _ w4 (⟨s1, rfl, hst, hg1, hs4⟩ | ⟨rfl, hst, hs4⟩)
    ·
      refine ⟨_, rfl, ?_⟩
      refine l_nil ?_
      refine s_else rfl ?_
      refine s_skip ?_
      refine s_mark ?_
      refine s_region ?_
      refine l_r (r_inc rfl (by omega)) rfl ?_
      refine l_r (r_move rfl) rfl ?_
      refine l_nil ?_
      refine s_again ?_
      exact ⟨_, [(8, .int .i64 (((k + 1) : Nat) : Int)), (0, .slice A xs.length c), (1, .func (.func f) #[] cap.toArray), (7, .int .i64 ((xs.length : Int)))], by omega, (.cons rfl (.cons rfl (.cons rfl (.cons rfl .nil)))), ⟨(k + 1), s1, rfl, rfl, by omega, foldS_next hfs e3h hst, hg1, hs4⟩⟩
    ·
      refine ⟨_, rfl, ?_⟩
      refine l_nil ?_
      refine s_then rfl ?_
      refine s_seq ?_
      refine s_region ?_
      refine l_r (r_move rfl) rfl ?_
      refine l_r (r_assign rfl) rfl ?_
      refine l_nil ?_
      refine s_ret ?_
      exact q_done (.inr rfl) (.tmp rfl .nil) ⟨_, rfl, .inr ⟨by omega, foldS_stop hfs e3h hst, hs4⟩⟩
  ·
    have hc2p := of_decide_eq_false hc2
    refine s_else rfl ?_
    refine s_exit rfl ?_
    refine s_seq ?_
    refine s_region ?_
    refine l_r (r_assign rfl) rfl ?_
    refine l_nil ?_
    refine s_ret ?_
    exact q_done (.inr rfl) (.tmp rfl .nil) ⟨_, rfl, .inl ⟨rfl, s, foldS_end hfs (by omega), hgs, hs1⟩⟩

set_option maxRecDepth 100000 in
theorem co50 {σ : Type} {w0 w : World} {H : List Res} {ok : Nat → Prop} {good : σ → Prop} {dom : TPartConf → Prop} {Inv : σ → List Res} {step : σ → TPartConf → Option σ} {s0 : σ} {xs : List TPartConf} {A : Option Addr} {c f : Nat} {cap : List Value} (hs0 : St 0 w0 w (Inv s0 ++ H)) (hx : Sl Kd.partConf w0 ok A c xs) (hf : fnOk Try.prog f = true) (hg : good s0) (hd : ∀ x, x ∈ xs → dom x) (hdo : FnOk Try.prog f cap Kd.partConf mkA true false w0 ok good dom Inv step) :
    Calls Try.prog 50 #[.slice A xs.length c, .func (.func f) #[] cap.toArray] w (fun e w' => (∃ s', e = .returned (.bool false) ∧ foldS step s0 xs = some s' ∧ good s' ∧ St 0 w0 w' (Inv s' ++ H)) ∨ (e = .returned (.bool true) ∧ foldS step s0 xs = none ∧ St 0 w0 w' H)) := by
  refine q_call (n := 9) (args := [.slice A xs.length c, .func (.func f) #[] cap.toArray]) Try.func50 rfl rfl rfl ?_
  have hs0 := hs0
  refine s_seq ?_
  refine s_region ?_
  refine l_r (r_assign rfl) rfl ?_
  refine l_nil ?_
  refine s_seq ?_
  refine s_region ?_
  refine l_r (r_move rfl) rfl ?_
  refine l_r (r_move rfl) rfl ?_
  refine l_call rfl rfl fk82 rfl (ix82 hs0 hx hf hg hd hdo) ?_
  rintro _ w1 ⟨i, rfl, ⟨rfl, s1, hfs, hg1, hs1⟩ | ⟨hi, hfs, hs1⟩⟩
  ·
    refine ⟨_, rfl, ?_⟩
    refine l_r (r_cmp rfl rfl (b := false) (by decide)) rfl ?_
    refine l_r (r_assign rfl) rfl ?_
    refine l_nil ?_
    refine s_ret ?_
    exact q_done (.inr rfl) (.tmp rfl .nil) (.inl ⟨s1, rfl, hfs, hg1, hs1⟩)
  ·
    refine ⟨_, rfl, ?_⟩
    refine l_r (r_cmp rfl rfl (b := true) (congrArg some (decide_eq_true hi))) rfl ?_
    refine l_r (r_assign rfl) rfl ?_
    refine l_nil ?_
    refine s_ret ?_
    exact q_done (.inr rfl) (.tmp rfl .nil) (.inr ⟨rfl, hfs, hs1⟩)

set_option maxRecDepth 100000 in
theorem on51 {σ : Type} {w0 w : World} {H : List Res} {ok : Nat → Prop} {good : σ → Prop} {dom : TPartConf → Prop} {Inv : σ → List Res} {step : σ → TPartConf → Option σ} {f : Nat} {cap : List Value} {bo : Nat} {s : σ} {x : TPartConf} {cs : List Value} (hf : fnOk Try.prog f = true) (hdo : FnOk Try.prog f cap Kd.partConf mkA false true w0 ok good dom Inv step) (hg : good s) (hd : dom x) (hK : Kd.partConf.K w0 ok x cs) (hs0 : St 0 w0 w (.pt bo [.func (.func f) #[] cap.toArray] 87 :: (Inv s ++ H))) :
    Calls Try.prog 51 #[.agg cs.toArray, .pointer (some ⟨bo, 0, none⟩)] w (fun e w' => (∃ s', e = .returned (.bool false) ∧ step s x = some s' ∧ good s' ∧ St 0 w0 w' (.pt bo [.func (.func f) #[] cap.toArray] 87 :: (Inv s' ++ H))) ∨ (e = .returned (.bool true) ∧ step s x = none ∧ St 0 w0 w' H)) := by
  refine q_call (n := 8) (args := [.agg cs.toArray, .pointer (some ⟨bo, 0, none⟩)]) Try.func51 rfl rfl rfl ?_
  have hs0 := hs0
  have hK0 := hK
  obtain ⟨Ax_1, cx_1, Ax_2, cx_2, Ax_4, cx_4, Ax_5, cx_5, Ax_7, cx_7, Ax_8, cx_8, Ax_10, cx_10, rfl, hx_1, hx_2, hx_4, hx_5, hx_7, hx_8, hx_10⟩ := hK
  refine s_seq ?_
  refine s_region ?_
  refine l_box rfl rfl rfl hs0 ?_
  intro w1 b2 hb2 hx1 hs1
  refine l_r (r_assign rfl) rfl ?_
  refine l_nil ?_
  refine s_seq ?_
  refine s_region ?_
  refine l_r (r_load1p rfl hs1 (Repl.there Repl.here) ag87 rfl) rfl ?_
  refine l_r (r_loadNp rfl hs1 Repl.here ag75 sz75) rfl ?_
  refine l_call rfl rfl hf rfl (hdo w1 (.pt bo [.func (.func f) #[] cap.toArray] 87 :: H) s x _ hg hd hK0 hs1.tail.mid) ?_
  rintro _ w2 (⟨s1, rfl, hst, hg1, hs2⟩ | ⟨rfl, hst, hs2⟩)
  ·
    refine ⟨_, rfl, ?_⟩
    refine l_r (r_not rfl) rfl ?_
    refine l_r (r_assign rfl) rfl ?_
    refine l_nil ?_
    refine s_ret ?_
    exact q_done (.inr rfl) (.tmp rfl .nil) (.inl ⟨s1, rfl, hst, hg1, hs2.unmid⟩)
  ·
    refine ⟨_, rfl, ?_⟩
    refine l_r (r_not rfl) rfl ?_
    refine l_r (r_assign rfl) rfl ?_
    refine l_nil ?_
    refine s_ret ?_
    exact q_done (.inr rfl) (.tmp rfl .nil) (.inr ⟨rfl, hst, hs2.tail⟩)

theorem onk51 {σ : Type} {w0 : World} {ok : Nat → Prop} {good : σ → Prop} {dom : TPartConf → Prop} {Inv : σ → List Res} {step : σ → TPartConf → Option σ} {f : Nat} {cap : List Value} {bo : Nat} (hf : fnOk Try.prog f = true) (hdo : FnOk Try.prog f cap Kd.partConf mkA false true w0 ok good dom Inv step) :
    FnOk Try.prog 51 [.pointer (some ⟨bo, 0, none⟩)] Kd.partConf mkA true false w0 ok good dom (fun s => .pt bo [.func (.func f) #[] cap.toArray] 87 :: Inv s) step :=
  fun _ _ _ _ _ hg hd hK hs => on51 hf hdo hg hd hK hs

set_option maxRecDepth 100000 in
theorem al35 {σ : Type} {w0 w : World} {H : List Res} {ok : Nat → Prop} {good : σ → Prop} {dom : TPartConf → Prop} {Inv : σ → List Res} {step : σ → TPartConf → Option σ} {s0 : σ} {xs : List TPartConf} {A : Option Addr} {c f : Nat} {cap : List Value} {n : Int} (hs0 : St 0 w0 w (Inv s0 ++ H)) (hx : Sl Kd.partConf w0 ok A c xs) (hf : fnOk Try.prog f = true) (hg : good s0) (hd : ∀ x, x ∈ xs → dom x) (hdo : FnOk Try.prog f cap Kd.partConf mkA false true w0 ok good dom Inv step) :
    Calls Try.prog 35 #[.slice A xs.length c, .int .i64 n, .func (.func f) #[] cap.toArray] w (fun e w' => (∃ s', e = .returned (.bool true) ∧ (xs.length : Int) ≤ n ∧ foldS step s0 xs = some s' ∧ good s' ∧ St 0 w0 w' (Inv s' ++ H)) ∨ (e = .returned (.bool false) ∧ (n < (xs.length : Int) ∨ foldS step s0 xs = none) ∧ St 0 w0 w' H)) := by
  refine q_call (n := 17) (args := [.slice A xs.length c, .int .i64 n, .func (.func f) #[] cap.toArray]) Try.func35 rfl rfl rfl ?_
  have hs0 := hs0
  refine s_seq ?_
  refine s_region ?_
  refine l_box rfl rfl rfl hs0 ?_
  intro w1 b5 hb5 hx1 hs1
  refine l_r (r_assign rfl) rfl ?_
  refine l_nil ?_
  refine s_seq ?_
  refine s_region ?_
  refine l_r (r_move rfl) rfl ?_
  refine l_r (r_len rfl el23) rfl ?_
  refine l_r (r_move rfl) rfl ?_
  refine l_r (r_cmp rfl rfl rfl) rfl ?_
  refine l_r (r_move rfl) rfl ?_
  refine l_part (dj := 11) rfl (fun hm => ?_) (fun hm => ?_)
  ·
    have hmp := of_decide_eq_true hm
    refine l_on (dj := 11) rfl rfl rfl ?_
    refine l_r (r_move rfl) rfl ?_
    refine l_on (dj := 11) rfl rfl rfl ?_
    refine l_r (r_makefunc rfl rfl) rfl ?_
    refine l_on (dj := 11) rfl rfl rfl ?_
    refine l_call rfl rfl fk50 rfl (co50 (Inv := fun s => .pt b5 [.func (.func f) #[] cap.toArray] 87 :: Inv s) (H := H) hs1 hx fk51 hg hd (onk51 hf hdo)) ?_
    rintro _ w3 (⟨s1, rfl, hfs, hg1, hs3⟩ | ⟨rfl, hfs, hs3⟩)
    ·
      refine ⟨_, rfl, ?_⟩
      refine l_on (dj := 11) rfl rfl rfl ?_
      refine l_r (r_not rfl) rfl ?_
      refine l_r (r_pick_t rfl rfl) rfl ?_
      refine l_r (r_assign rfl) rfl ?_
      refine l_nil ?_
      refine s_ret ?_
      exact q_done (.inr rfl) (.tmp rfl .nil) (.inl ⟨s1, rfl, hmp, hfs, hg1, hs3.tail⟩)
    ·
      refine ⟨_, rfl, ?_⟩
      refine l_on (dj := 11) rfl rfl rfl ?_
      refine l_r (r_not rfl) rfl ?_
      refine l_r (r_pick_t rfl rfl) rfl ?_
      refine l_r (r_assign rfl) rfl ?_
      refine l_nil ?_
      refine s_ret ?_
      exact q_done (.inr rfl) (.tmp rfl .nil) (.inr ⟨rfl, .inr hfs, hs3⟩)
  ·
    have hmp := of_decide_eq_false hm
    refine l_off (dj := 11) (b := false) rfl rfl rfl rfl rfl ?_
    refine l_off (dj := 11) (b := false) rfl rfl rfl rfl rfl ?_
    refine l_off (dj := 11) (b := false) rfl rfl rfl rfl rfl ?_
    refine l_off (dj := 11) (b := false) rfl rfl rfl rfl rfl ?_
    refine l_r (r_pick_f rfl rfl) rfl ?_
    refine l_r (r_assign rfl) rfl ?_
    refine l_nil ?_
    refine s_ret ?_
    exact q_done (.inr rfl) (.tmp rfl .nil) (.inr ⟨rfl, .inl (by omega), hs1.tail.dropL⟩)

set_option maxRecDepth 100000 in
theorem ix102 {σ : Type} {w0 w : World} {H : List Res} {ok : Nat → Prop} {good : σ → Prop} {dom : TProcConf → Prop} {Inv : σ → List Res} {step : σ → TProcConf → Option σ} {s0 : σ} {xs : List TProcConf} {A : Option Addr} {c f : Nat} {cap : List Value} (hs0 : St 0 w0 w (Inv s0 ++ H)) (hx : Sl Kd.procConf w0 ok A c xs) (hf : fnOk Try.prog f = true) (hg : good s0) (hd : ∀ x, x ∈ xs → dom x) (hdo : FnOk Try.prog f cap Kd.procConf mkA true false w0 ok good dom Inv step) :
    Calls Try.prog 102 #[.slice A xs.length c, .func (.func f) #[] cap.toArray] w (fun e w' => ∃ i : Int, e = .returned (.int .i64 i) ∧ ((i = -1 ∧ ∃ s', foldS step s0 xs = some s' ∧ good s' ∧ St 0 w0 w' (Inv s' ++ H)) ∨ (0 ≤ i ∧ foldS step s0 xs = none ∧ St 0 w0 w' H))) := by
  refine q_call (n := 19) (args := [.slice A xs.length c, .func (.func f) #[] cap.toArray]) Try.func102 rfl rfl rfl ?_
  have hs0 := hs0
  have hxl := hx.1
  have hxm := hx.2.1
  refine s_seq ?_
  refine s_region ?_
  refine l_r (r_assign rfl) rfl ?_
  refine l_nil ?_
  refine s_seq ?_
  refine s_seq ?_
  refine s_region ?_
  refine l_r (r_move rfl) rfl ?_
  refine l_r (r_len rfl el71) rfl ?_
  refine l_r (r_move rfl) rfl ?_
  refine l_nil ?_
  refine s_block ?_
  refine s_loop (fun m L wl => ∃ (k : Nat) (s : σ), L = [(8, .int .i64 ((k : Nat) : Int)), (0, .slice A xs.length c), (1, .func (.func f) #[] cap.toArray), (7, .int .i64 ((xs.length : Int)))] ∧ m = xs.length - k ∧ k ≤ xs.length ∧ foldS step s0 (xs.take k) = some s ∧ good s ∧ St 0 w0 wl (Inv s ++ H)) _ [(8, .int .i64 ((0 : Nat) : Int)), (0, .slice A xs.length c), (1, .func (.func f) #[] cap.toArray), (7, .int .i64 ((xs.length : Int)))] (.cons rfl (.cons rfl (.cons rfl (.cons rfl .nil)))) ⟨0, s0, rfl, rfl, Nat.zero_le _, rfl, hg, hs0⟩ ?_
  rintro _ _ w1 ⟨k, s, rfl, rfl, hkk, hfs, hgs, hs1⟩
  refine s_seq ?_
  refine s_region ?_
  refine l_r (r_cmp rfl rfl rfl) rfl ?_
  refine l_nil ?_
  refine s_seq ?_
  refine s_part (dj := 9) rfl (fun hc2 => ?_) (fun hc2 => ?_)
  ·
    have hc2p := of_decide_eq_true hc2
    refine s_then rfl ?_
    refine s_skip ?_
    refine s_seq ?_
    refine s_block ?_
    refine s_seq ?_
    refine s_region ?_
    refine l_r (r_move rfl) rfl ?_
    refine l_r (r_assign rfl) rfl ?_
    refine l_nil ?_
    refine s_seq ?_
    refine s_region ?_
    refine l_r (r_move rfl) rfl ?_
    refine l_r (r_move rfl) rfl ?_
    refine l_r (r_move rfl) rfl ?_
    obtain ⟨e3x, e3h, e3b, e3o, e3cs, e3A, _, e3K, e3c⟩ := hx.get_ (i := k) (by omega)
    obtain rfl : e3cs = [.int .i64 e3x.Prio, .int .i64 e3x.Period, .int .i64 e3x.Limit, .int .i64 e3x.Entry, .bool e3x.Auto] := e3K
    refine l_r (r_indexA rfl e3A rfl (by omega) (by omega) el71) rfl ?_
    refine l_r (r_loadN rfl ag122 (e3c.on hs1) sz122) rfl ?_
    refine l_call rfl rfl hf rfl (hdo w1 H s e3x [.int .i64 e3x.Prio, .int .i64 e3x.Period, .int .i64 e3x.Limit, .int .i64 e3x.Entry, .bool e3x.Auto] hgs (hd _ (List.mem_of_getElem? e3h)) rfl hs1) ?_
    rintro _ w4 (⟨s1, rfl, hst, hg1, hs4⟩ | ⟨rfl, hst, hs4⟩)
    ·
      refine ⟨_, rfl, ?_⟩
      refine l_nil ?_
      refine s_else rfl ?_
      refine s_skip ?_
      refine s_mark ?_
      refine s_region ?_
      refine l_r (r_inc rfl (by omega)) rfl ?_
      refine l_r (r_move rfl) rfl ?_
      refine l_nil ?_
      refine s_again ?_
      exact ⟨_, [(8, .int .i64 (((k + 1) : Nat) : Int)), (0, .slice A xs.length c), (1, .func (.func f) #[] cap.toArray), (7, .int .i64 ((xs.length : Int)))], by omega, (.cons rfl (.cons rfl (.cons rfl (.cons rfl .nil)))), ⟨(k + 1), s1, rfl, rfl, by omega, foldS_next hfs e3h hst, hg1, hs4⟩⟩
    ·
      refine ⟨_, rfl, ?_⟩
      refine l_nil ?_
      refine s_then rfl ?_
      refine s_seq ?_
      refine s_region ?_
      refine l_r (r_move rfl) rfl ?_
      refine l_r (r_assign rfl) rfl ?_
      refine l_nil ?_
      refine s_ret ?_
      exact q_done (.inr rfl) (.tmp rfl .nil) ⟨_, rfl, .inr ⟨by omega, foldS_stop hfs e3h hst, hs4⟩⟩
  ·
    have hc2p := of_decide_eq_false hc2
    refine s_else rfl ?_
    refine s_exit rfl ?_
    refine s_seq ?_
    refine s_region ?_
    refine l_r (r_assign rfl) rfl ?_
    refine l_nil ?_
    refine s_ret ?_
    exact q_done (.inr rfl) (.tmp rfl .nil) ⟨_, rfl, .inl ⟨rfl, s, foldS_end hfs (by omega), hgs, hs1⟩⟩

set_option maxRecDepth 100000 in
theorem co85 {σ : Type} {w0 w : World} {H : List Res} {ok : Nat → Prop} {good : σ → Prop} {dom : TProcConf → Prop} {Inv : σ → List Res} {step : σ → TProcConf → Option σ} {s0 : σ} {xs : List TProcConf} {A : Option Addr} {c f : Nat} {cap : List Value} (hs0 : St 0 w0 w (Inv s0 ++ H)) (hx : Sl Kd.procConf w0 ok A c xs) (hf : fnOk Try.prog f = true) (hg : good s0) (hd : ∀ x, x ∈ xs → dom x) (hdo : FnOk Try.prog f cap Kd.procConf mkA true false w0 ok good dom Inv step) :
    Calls Try.prog 85 #[.slice A xs.length c, .func (.func f) #[] cap.toArray] w (fun e w' => (∃ s', e = .returned (.bool false) ∧ foldS step s0 xs = some s' ∧ good s' ∧ St 0 w0 w' (Inv s' ++ H)) ∨ (e = .returned (.bool true) ∧ foldS step s0 xs = none ∧ St 0 w0 w' H)) := by
  refine q_call (n := 9) (args := [.slice A xs.length c, .func (.func f) #[] cap.toArray]) Try.func85 rfl rfl rfl ?_
  have hs0 := hs0
  refine s_seq ?_
  refine s_region ?_
  refine l_r (r_assign rfl) rfl ?_
  refine l_nil ?_
  refine s_seq ?_
  refine s_region ?_
  refine l_r (r_move rfl) rfl ?_
  refine l_r (r_move rfl) rfl ?_
  refine l_call rfl rfl fk102 rfl (ix102 hs0 hx hf hg hd hdo) ?_
  rintro _ w1 ⟨i, rfl, ⟨rfl, s1, hfs, hg1, hs1⟩ | ⟨hi, hfs, hs1⟩⟩
  ·
    refine ⟨_, rfl, ?_⟩
    refine l_r (r_cmp rfl rfl (b := false) (by decide)) rfl ?_
    refine l_r (r_assign rfl) rfl ?_
    refine l_nil ?_
    refine s_ret ?_
    exact q_done (.inr rfl) (.tmp rfl .nil) (.inl ⟨s1, rfl, hfs, hg1, hs1⟩)
  ·
    refine ⟨_, rfl, ?_⟩
    refine l_r (r_cmp rfl rfl (b := true) (congrArg some (decide_eq_true hi))) rfl ?_
    refine l_r (r_assign rfl) rfl ?_
    refine l_nil ?_
    refine s_ret ?_
    exact q_done (.inr rfl) (.tmp rfl .nil) (.inr ⟨rfl, hfs, hs1⟩)

set_option maxRecDepth 100000 in
theorem on86 {σ : Type} {w0 w : World} {H : List Res} {ok : Nat → Prop} {good : σ → Prop} {dom : TProcConf → Prop} {Inv : σ → List Res} {step : σ → TProcConf → Option σ} {f : Nat} {cap : List Value} {bo : Nat} {s : σ} {x : TProcConf} {cs : List Value} (hf : fnOk Try.prog f = true) (hdo : FnOk Try.prog f cap Kd.procConf mkA false true w0 ok good dom Inv step) (hg : good s) (hd : dom x) (hK : Kd.procConf.K w0 ok x cs) (hs0 : St 0 w0 w (.pt bo [.func (.func f) #[] cap.toArray] 123 :: (Inv s ++ H))) :
    Calls Try.prog 86 #[.agg cs.toArray, .pointer (some ⟨bo, 0, none⟩)] w (fun e w' => (∃ s', e = .returned (.bool false) ∧ step s x = some s' ∧ good s' ∧ St 0 w0 w' (.pt bo [.func (.func f) #[] cap.toArray] 123 :: (Inv s' ++ H))) ∨ (e = .returned (.bool true) ∧ step s x = none ∧ St 0 w0 w' H)) := by
  refine q_call (n := 8) (args := [.agg cs.toArray, .pointer (some ⟨bo, 0, none⟩)]) Try.func86 rfl rfl rfl ?_
  have hs0 := hs0
  have hK0 := hK
  obtain rfl : cs = [.int .i64 x.Prio, .int .i64 x.Period, .int .i64 x.Limit, .int .i64 x.Entry, .bool x.Auto] := hK
  refine s_seq ?_
  refine s_region ?_
  refine l_box rfl rfl rfl hs0 ?_
  intro w1 b2 hb2 hx1 hs1
  refine l_r (r_assign rfl) rfl ?_
  refine l_nil ?_
  refine s_seq ?_
  refine s_region ?_
  refine l_r (r_load1p rfl hs1 (Repl.there Repl.here) ag123 rfl) rfl ?_
  refine l_r (r_loadNp rfl hs1 Repl.here ag122 sz122) rfl ?_
  refine l_call rfl rfl hf rfl (hdo w1 (.pt bo [.func (.func f) #[] cap.toArray] 123 :: H) s x _ hg hd hK0 hs1.tail.mid) ?_
  rintro _ w2 (⟨s1, rfl, hst, hg1, hs2⟩ | ⟨rfl, hst, hs2⟩)
  ·
    refine ⟨_, rfl, ?_⟩
    refine l_r (r_not rfl) rfl ?_
    refine l_r (r_assign rfl) rfl ?_
    refine l_nil ?_
    refine s_ret ?_
    exact q_done (.inr rfl) (.tmp rfl .nil) (.inl ⟨s1, rfl, hst, hg1, hs2.unmid⟩)
  ·
    refine ⟨_, rfl, ?_⟩
    refine l_r (r_not rfl) rfl ?_
    refine l_r (r_assign rfl) rfl ?_
    refine l_nil ?_
    refine s_ret ?_
    exact q_done (.inr rfl) (.tmp rfl .nil) (.inr ⟨rfl, hst, hs2.tail⟩)

theorem onk86 {σ : Type} {w0 : World} {ok : Nat → Prop} {good : σ → Prop} {dom : TProcConf → Prop} {Inv : σ → List Res} {step : σ → TProcConf → Option σ} {f : Nat} {cap : List Value} {bo : Nat} (hf : fnOk Try.prog f = true) (hdo : FnOk Try.prog f cap Kd.procConf mkA false true w0 ok good dom Inv step) :
    FnOk Try.prog 86 [.pointer (some ⟨bo, 0, none⟩)] Kd.procConf mkA true false w0 ok good dom (fun s => .pt bo [.func (.func f) #[] cap.toArray] 123 :: Inv s) step :=
  fun _ _ _ _ _ hg hd hK hs => on86 hf hdo hg hd hK hs

set_option maxRecDepth 100000 in
theorem al58 {σ : Type} {w0 w : World} {H : List Res} {ok : Nat → Prop} {good : σ → Prop} {dom : TProcConf → Prop} {Inv : σ → List Res} {step : σ → TProcConf → Option σ} {s0 : σ} {xs : List TProcConf} {A : Option Addr} {c f : Nat} {cap : List Value} {n : Int} (hs0 : St 0 w0 w (Inv s0 ++ H)) (hx : Sl Kd.procConf w0 ok A c xs) (hf : fnOk Try.prog f = true) (hg : good s0) (hd : ∀ x, x ∈ xs → dom x) (hdo : FnOk Try.prog f cap Kd.procConf mkA false true w0 ok good dom Inv step) :
    Calls Try.prog 58 #[.slice A xs.length c, .int .i64 n, .func (.func f) #[] cap.toArray] w (fun e w' => (∃ s', e = .returned (.bool true) ∧ (xs.length : Int) ≤ n ∧ foldS step s0 xs = some s' ∧ good s' ∧ St 0 w0 w' (Inv s' ++ H)) ∨ (e = .returned (.bool false) ∧ (n < (xs.length : Int) ∨ foldS step s0 xs = none) ∧ St 0 w0 w' H)) := by
  refine q_call (n := 17) (args := [.slice A xs.length c, .int .i64 n, .func (.func f) #[] cap.toArray]) Try.func58 rfl rfl rfl ?_
  have hs0 := hs0
  refine s_seq ?_
  refine s_region ?_
  refine l_box rfl rfl rfl hs0 ?_
  intro w1 b5 hb5 hx1 hs1
  refine l_r (r_assign rfl) rfl ?_
  refine l_nil ?_
  refine s_seq ?_
  refine s_region ?_
  refine l_r (r_move rfl) rfl ?_
  refine l_r (r_len rfl el71) rfl ?_
  refine l_r (r_move rfl) rfl ?_
  refine l_r (r_cmp rfl rfl rfl) rfl ?_
  refine l_r (r_move rfl) rfl ?_
  refine l_part (dj := 11) rfl (fun hm => ?_) (fun hm => ?_)
  ·
    have hmp := of_decide_eq_true hm
    refine l_on (dj := 11) rfl rfl rfl ?_
    refine l_r (r_move rfl) rfl ?_
    refine l_on (dj := 11) rfl rfl rfl ?_
    refine l_r (r_makefunc rfl rfl) rfl ?_
    refine l_on (dj := 11) rfl rfl rfl ?_
    refine l_call rfl rfl fk85 rfl (co85 (Inv := fun s => .pt b5 [.func (.func f) #[] cap.toArray] 123 :: Inv s) (H := H) hs1 hx fk86 hg hd (onk86 hf hdo)) ?_
    rintro _ w3 (⟨s1, rfl, hfs, hg1, hs3⟩ | ⟨rfl, hfs, hs3⟩)
    ·
      refine ⟨_, rfl, ?_⟩
      refine l_on (dj := 11) rfl rfl rfl ?_
      refine l_r (r_not rfl) rfl ?_
      refine l_r (r_pick_t rfl rfl) rfl ?_
      refine l_r (r_assign rfl) rfl ?_
      refine l_nil ?_
      refine s_ret ?_
      exact q_done (.inr rfl) (.tmp rfl .nil) (.inl ⟨s1, rfl, hmp, hfs, hg1, hs3.tail⟩)
    ·
      refine ⟨_, rfl, ?_⟩
      refine l_on (dj := 11) rfl rfl rfl ?_
      refine l_r (r_not rfl) rfl ?_
      refine l_r (r_pick_t rfl rfl) rfl ?_
      refine l_r (r_assign rfl) rfl ?_
      refine l_nil ?_
      refine s_ret ?_
      exact q_done (.inr rfl) (.tmp rfl .nil) (.inr ⟨rfl, .inr hfs, hs3⟩)
  ·
    have hmp := of_decide_eq_false hm
    refine l_off (dj := 11) (b := false) rfl rfl rfl rfl rfl ?_
    refine l_off (dj := 11) (b := false) rfl rfl rfl rfl rfl ?_
    refine l_off (dj := 11) (b := false) rfl rfl rfl rfl rfl ?_
    refine l_off (dj := 11) (b := false) rfl rfl rfl rfl rfl ?_
    refine l_r (r_pick_f rfl rfl) rfl ?_
    refine l_r (r_assign rfl) rfl ?_
    refine l_nil ?_
    refine s_ret ?_
    exact q_done (.inr rfl) (.tmp rfl .nil) (.inr ⟨rfl, .inl (by omega), hs1.tail.dropL⟩)

set_option maxRecDepth 100000 in
theorem ix103 {σ : Type} {w0 w : World} {H : List Res} {ok : Nat → Prop} {good : σ → Prop} {dom : TBufferConf → Prop} {Inv : σ → List Res} {step : σ → TBufferConf → Option σ} {s0 : σ} {xs : List TBufferConf} {A : Option Addr} {c f : Nat} {cap : List Value} (hs0 : St 0 w0 w (Inv s0 ++ H)) (hx : Sl Kd.bufferConf w0 ok A c xs) (hf : fnOk Try.prog f = true) (hg : good s0) (hd : ∀ x, x ∈ xs → dom x) (hdo : FnOk Try.prog f cap Kd.bufferConf mkA true false w0 ok good dom Inv step) :
    Calls Try.prog 103 #[.slice A xs.length c, .func (.func f) #[] cap.toArray] w (fun e w' => ∃ i : Int, e = .returned (.int .i64 i) ∧ ((i = -1 ∧ ∃ s', foldS step s0 xs = some s' ∧ good s' ∧ St 0 w0 w' (Inv s' ++ H)) ∨ (0 ≤ i ∧ foldS step s0 xs = none ∧ St 0 w0 w' H))) := by
  refine q_call (n := 19) (args := [.slice A xs.length c, .func (.func f) #[] cap.toArray]) Try.func103 rfl rfl rfl ?_
  have hs0 := hs0
  have hxl := hx.1
  have hxm := hx.2.1
  refine s_seq ?_
  refine s_region ?_
  refine l_r (r_assign rfl) rfl ?_
  refine l_nil ?_
  refine s_seq ?_
  refine s_seq ?_
  refine s_region ?_
  refine l_r (r_move rfl) rfl ?_
  refine l_r (r_len rfl el72) rfl ?_
  refine l_r (r_move rfl) rfl ?_
  refine l_nil ?_
  refine s_block ?_
  refine s_loop (fun m L wl => ∃ (k : Nat) (s : σ), L = [(8, .int .i64 ((k : Nat) : Int)), (0, .slice A xs.length c), (1, .func (.func f) #[] cap.toArray), (7, .int .i64 ((xs.length : Int)))] ∧ m = xs.length - k ∧ k ≤ xs.length ∧ foldS step s0 (xs.take k) = some s ∧ good s ∧ St 0 w0 wl (Inv s ++ H)) _ [(8, .int .i64 ((0 : Nat) : Int)), (0, .slice A xs.length c), (1, .func (.func f) #[] cap.toArray), (7, .int .i64 ((xs.length : Int)))] (.cons rfl (.cons rfl (.cons rfl (.cons rfl .nil)))) ⟨0, s0, rfl, rfl, Nat.zero_le _, rfl, hg, hs0⟩ ?_
  rintro _ _ w1 ⟨k, s, rfl, rfl, hkk, hfs, hgs, hs1⟩
  refine s_seq ?_
  refine s_region ?_
  refine l_r (r_cmp rfl rfl rfl) rfl ?_
  refine l_nil ?_
  refine s_seq ?_
  refine s_part (dj := 9) rfl (fun hc2 => ?_) (fun hc2 => ?_)
  ·
    have hc2p := of_decide_eq_true hc2
    refine s_then rfl ?_
    refine s_skip ?_
    refine s_seq ?_
    refine s_block ?_
    refine s_seq ?_
    refine s_region ?_
    refine l_r (r_move rfl) rfl ?_
    refine l_r (r_assign rfl) rfl ?_
    refine l_nil ?_
    refine s_seq ?_
    refine s_region ?_
    refine l_r (r_move rfl) rfl ?_
    refine l_r (r_move rfl) rfl ?_
    refine l_r (r_move rfl) rfl ?_
    obtain ⟨e3x, e3h, e3b, e3o, e3cs, e3A, _, e3K, e3c⟩ := hx.get_ (i := k) (by omega)
    obtain rfl : e3cs = [.int .i64 e3x.Depth, .bool e3x.Ranked] := e3K
    refine l_r (r_indexA rfl e3A rfl (by omega) (by omega) el72) rfl ?_
    refine l_r (r_loadN rfl ag114 (e3c.on hs1) sz114) rfl ?_
    refine l_call rfl rfl hf rfl (hdo w1 H s e3x [.int .i64 e3x.Depth, .bool e3x.Ranked] hgs (hd _ (List.mem_of_getElem? e3h)) rfl hs1) ?_
    rintro _ w4 (⟨s1, rfl, hst, hg1, hs4⟩ | ⟨rfl, hst, hs4⟩)
    ·
      refine ⟨_, rfl, ?_⟩
      refine l_nil ?_
      refine s_else rfl ?_
      refine s_skip ?_
      refine s_mark ?_
      refine s_region ?_
      refine l_r (r_inc rfl (by omega)) rfl ?_
      refine l_r (r_move rfl) rfl ?_
      refine l_nil ?_
      refine s_again ?_
      exact ⟨_, [(8, .int .i64 (((k + 1) : Nat) : Int)), (0, .slice A xs.length c), (1, .func (.func f) #[] cap.toArray), (7, .int .i64 ((xs.length : Int)))], by omega, (.cons rfl (.cons rfl (.cons rfl (.cons rfl .nil)))), ⟨(k + 1), s1, rfl, rfl, by omega, foldS_next hfs e3h hst, hg1, hs4⟩⟩
    ·
      refine ⟨_, rfl, ?_⟩
      refine l_nil ?_
      refine s_then rfl ?_
      refine s_seq ?_
      refine s_region ?_
      refine l_r (r_move rfl) rfl ?_
      refine l_r (r_assign rfl) rfl ?_
      refine l_nil ?_
      refine s_ret ?_
      exact q_done (.inr rfl) (.tmp rfl .nil) ⟨_, rfl, .inr ⟨by omega, foldS_stop hfs e3h hst, hs4⟩⟩
  ·
    have hc2p := of_decide_eq_false hc2
    refine s_else rfl ?_
    refine s_exit rfl ?_
    refine s_seq ?_
    refine s_region ?_
    refine l_r (r_assign rfl) rfl ?_
    refine l_nil ?_
    refine s_ret ?_
    exact q_done (.inr rfl) (.tmp rfl .nil) ⟨_, rfl, .inl ⟨rfl, s, foldS_end hfs (by omega), hgs, hs1⟩⟩

set_option maxRecDepth 100000 in
theorem co87 {σ : Type} {w0 w : World} {H : List Res} {ok : Nat → Prop} {good : σ → Prop} {dom : TBufferConf → Prop} {Inv : σ → List Res} {step : σ → TBufferConf → Option σ} {s0 : σ} {xs : List TBufferConf} {A : Option Addr} {c f : Nat} {cap : List Value} (hs0 : St 0 w0 w (Inv s0 ++ H)) (hx : Sl Kd.bufferConf w0 ok A c xs) (hf : fnOk Try.prog f = true) (hg : good s0) (hd : ∀ x, x ∈ xs → dom x) (hdo : FnOk Try.prog f cap Kd.bufferConf mkA true false w0 ok good dom Inv step) :
    Calls Try.prog 87 #[.slice A xs.length c, .func (.func f) #[] cap.toArray] w (fun e w' => (∃ s', e = .returned (.bool false) ∧ foldS step s0 xs = some s' ∧ good s' ∧ St 0 w0 w' (Inv s' ++ H)) ∨ (e = .returned (.bool true) ∧ foldS step s0 xs = none ∧ St 0 w0 w' H)) := by
  refine q_call (n := 9) (args := [.slice A xs.length c, .func (.func f) #[] cap.toArray]) Try.func87 rfl rfl rfl ?_
  have hs0 := hs0
  refine s_seq ?_
  refine s_region ?_
  refine l_r (r_assign rfl) rfl ?_
  refine l_nil ?_
  refine s_seq ?_
  refine s_region ?_
  refine l_r (r_move rfl) rfl ?_
  refine l_r (r_move rfl) rfl ?_
  refine l_call rfl rfl fk103 rfl (ix103 hs0 hx hf hg hd hdo) ?_
  rintro _ w1 ⟨i, rfl, ⟨rfl, s1, hfs, hg1, hs1⟩ | ⟨hi, hfs, hs1⟩⟩
  ·
    refine ⟨_, rfl, ?_⟩
    refine l_r (r_cmp rfl rfl (b := false) (by decide)) rfl ?_
    refine l_r (r_assign rfl) rfl ?_
    refine l_nil ?_
    refine s_ret ?_
    exact q_done (.inr rfl) (.tmp rfl .nil) (.inl ⟨s1, rfl, hfs, hg1, hs1⟩)
  ·
    refine ⟨_, rfl, ?_⟩
    refine l_r (r_cmp rfl rfl (b := true) (congrArg some (decide_eq_true hi))) rfl ?_
    refine l_r (r_assign rfl) rfl ?_
    refine l_nil ?_
    refine s_ret ?_
    exact q_done (.inr rfl) (.tmp rfl .nil) (.inr ⟨rfl, hfs, hs1⟩)

set_option maxRecDepth 100000 in
theorem on88 {σ : Type} {w0 w : World} {H : List Res} {ok : Nat → Prop} {good : σ → Prop} {dom : TBufferConf → Prop} {Inv : σ → List Res} {step : σ → TBufferConf → Option σ} {f : Nat} {cap : List Value} {bo : Nat} {s : σ} {x : TBufferConf} {cs : List Value} (hf : fnOk Try.prog f = true) (hdo : FnOk Try.prog f cap Kd.bufferConf mkA false true w0 ok good dom Inv step) (hg : good s) (hd : dom x) (hK : Kd.bufferConf.K w0 ok x cs) (hs0 : St 0 w0 w (.pt bo [.func (.func f) #[] cap.toArray] 115 :: (Inv s ++ H))) :
    Calls Try.prog 88 #[.agg cs.toArray, .pointer (some ⟨bo, 0, none⟩)] w (fun e w' => (∃ s', e = .returned (.bool false) ∧ step s x = some s' ∧ good s' ∧ St 0 w0 w' (.pt bo [.func (.func f) #[] cap.toArray] 115 :: (Inv s' ++ H))) ∨ (e = .returned (.bool true) ∧ step s x = none ∧ St 0 w0 w' H)) := by
  refine q_call (n := 8) (args := [.agg cs.toArray, .pointer (some ⟨bo, 0, none⟩)]) Try.func88 rfl rfl rfl ?_
  have hs0 := hs0
  have hK0 := hK
  obtain rfl : cs = [.int .i64 x.Depth, .bool x.Ranked] := hK
  refine s_seq ?_
  refine s_region ?_
  refine l_box rfl rfl rfl hs0 ?_
  intro w1 b2 hb2 hx1 hs1
  refine l_r (r_assign rfl) rfl ?_
  refine l_nil ?_
  refine s_seq ?_
  refine s_region ?_
  refine l_r (r_load1p rfl hs1 (Repl.there Repl.here) ag115 rfl) rfl ?_
  refine l_r (r_loadNp rfl hs1 Repl.here ag114 sz114) rfl ?_
  refine l_call rfl rfl hf rfl (hdo w1 (.pt bo [.func (.func f) #[] cap.toArray] 115 :: H) s x _ hg hd hK0 hs1.tail.mid) ?_
  rintro _ w2 (⟨s1, rfl, hst, hg1, hs2⟩ | ⟨rfl, hst, hs2⟩)
  ·
    refine ⟨_, rfl, ?_⟩
    refine l_r (r_not rfl) rfl ?_
    refine l_r (r_assign rfl) rfl ?_
    refine l_nil ?_
    refine s_ret ?_
    exact q_done (.inr rfl) (.tmp rfl .nil) (.inl ⟨s1, rfl, hst, hg1, hs2.unmid⟩)
  ·
    refine ⟨_, rfl, ?_⟩
    refine l_r (r_not rfl) rfl ?_
    refine l_r (r_assign rfl) rfl ?_
    refine l_nil ?_
    refine s_ret ?_
    exact q_done (.inr rfl) (.tmp rfl .nil) (.inr ⟨rfl, hst, hs2.tail⟩)

theorem onk88 {σ : Type} {w0 : World} {ok : Nat → Prop} {good : σ → Prop} {dom : TBufferConf → Prop} {Inv : σ → List Res} {step : σ → TBufferConf → Option σ} {f : Nat} {cap : List Value} {bo : Nat} (hf : fnOk Try.prog f = true) (hdo : FnOk Try.prog f cap Kd.bufferConf mkA false true w0 ok good dom Inv step) :
    FnOk Try.prog 88 [.pointer (some ⟨bo, 0, none⟩)] Kd.bufferConf mkA true false w0 ok good dom (fun s => .pt bo [.func (.func f) #[] cap.toArray] 115 :: Inv s) step :=
  fun _ _ _ _ _ hg hd hK hs => on88 hf hdo hg hd hK hs

set_option maxRecDepth 100000 in
theorem al60 {σ : Type} {w0 w : World} {H : List Res} {ok : Nat → Prop} {good : σ → Prop} {dom : TBufferConf → Prop} {Inv : σ → List Res} {step : σ → TBufferConf → Option σ} {s0 : σ} {xs : List TBufferConf} {A : Option Addr} {c f : Nat} {cap : List Value} {n : Int} (hs0 : St 0 w0 w (Inv s0 ++ H)) (hx : Sl Kd.bufferConf w0 ok A c xs) (hf : fnOk Try.prog f = true) (hg : good s0) (hd : ∀ x, x ∈ xs → dom x) (hdo : FnOk Try.prog f cap Kd.bufferConf mkA false true w0 ok good dom Inv step) :
    Calls Try.prog 60 #[.slice A xs.length c, .int .i64 n, .func (.func f) #[] cap.toArray] w (fun e w' => (∃ s', e = .returned (.bool true) ∧ (xs.length : Int) ≤ n ∧ foldS step s0 xs = some s' ∧ good s' ∧ St 0 w0 w' (Inv s' ++ H)) ∨ (e = .returned (.bool false) ∧ (n < (xs.length : Int) ∨ foldS step s0 xs = none) ∧ St 0 w0 w' H)) := by
  refine q_call (n := 17) (args := [.slice A xs.length c, .int .i64 n, .func (.func f) #[] cap.toArray]) Try.func60 rfl rfl rfl ?_
  have hs0 := hs0
  refine s_seq ?_
  refine s_region ?_
  refine l_box rfl rfl rfl hs0 ?_
  intro w1 b5 hb5 hx1 hs1
  refine l_r (r_assign rfl) rfl ?_
  refine l_nil ?_
  refine s_seq ?_
  refine s_region ?_
  refine l_r (r_move rfl) rfl ?_
  refine l_r (r_len rfl el72) rfl ?_
  refine l_r (r_move rfl) rfl ?_
  refine l_r (r_cmp rfl rfl rfl) rfl ?_
  refine l_r (r_move rfl) rfl ?_
  refine l_part (dj := 11) rfl (fun hm => ?_) (fun hm => ?_)
  ·
    have hmp := of_decide_eq_true hm
    refine l_on (dj := 11) rfl rfl rfl ?_
    refine l_r (r_move rfl) rfl ?_
    refine l_on (dj := 11) rfl rfl rfl ?_
    refine l_r (r_makefunc rfl rfl) rfl ?_
    refine l_on (dj := 11) rfl rfl rfl ?_
    refine l_call rfl rfl fk87 rfl (co87 (Inv := fun s => .pt b5 [.func (.func f) #[] cap.toArray] 115 :: Inv s) (H := H) hs1 hx fk88 hg hd (onk88 hf hdo)) ?_
    rintro _ w3 (⟨s1, rfl, hfs, hg1, hs3⟩ | ⟨rfl, hfs, hs3⟩)
    ·
      refine ⟨_, rfl, ?_⟩
      refine l_on (dj := 11) rfl rfl rfl ?_
      refine l_r (r_not rfl) rfl ?_
      refine l_r (r_pick_t rfl rfl) rfl ?_
      refine l_r (r_assign rfl) rfl ?_
      refine l_nil ?_
      refine s_ret ?_
      exact q_done (.inr rfl) (.tmp rfl .nil) (.inl ⟨s1, rfl, hmp, hfs, hg1, hs3.tail⟩)
    ·
      refine ⟨_, rfl, ?_⟩
      refine l_on (dj := 11) rfl rfl rfl ?_
      refine l_r (r_not rfl) rfl ?_
      refine l_r (r_pick_t rfl rfl) rfl ?_
      refine l_r (r_assign rfl) rfl ?_
      refine l_nil ?_
      refine s_ret ?_
      exact q_done (.inr rfl) (.tmp rfl .nil) (.inr ⟨rfl, .inr hfs, hs3⟩)
  ·
    have hmp := of_decide_eq_false hm
    refine l_off (dj := 11) (b := false) rfl rfl rfl rfl rfl ?_
    refine l_off (dj := 11) (b := false) rfl rfl rfl rfl rfl ?_
    refine l_off (dj := 11) (b := false) rfl rfl rfl rfl rfl ?_
    refine l_off (dj := 11) (b := false) rfl rfl rfl rfl rfl ?_
    refine l_r (r_pick_f rfl rfl) rfl ?_
    refine l_r (r_assign rfl) rfl ?_
    refine l_nil ?_
    refine s_ret ?_
    exact q_done (.inr rfl) (.tmp rfl .nil) (.inr ⟨rfl, .inl (by omega), hs1.tail.dropL⟩)

set_option maxRecDepth 100000 in
theorem ix104 {σ : Type} {w0 w : World} {H : List Res} {ok : Nat → Prop} {good : σ → Prop} {dom : TSemaConf → Prop} {Inv : σ → List Res} {step : σ → TSemaConf → Option σ} {s0 : σ} {xs : List TSemaConf} {A : Option Addr} {c f : Nat} {cap : List Value} (hs0 : St 0 w0 w (Inv s0 ++ H)) (hx : Sl Kd.semaConf w0 ok A c xs) (hf : fnOk Try.prog f = true) (hg : good s0) (hd : ∀ x, x ∈ xs → dom x) (hdo : FnOk Try.prog f cap Kd.semaConf mkA true false w0 ok good dom Inv step) :
    Calls Try.prog 104 #[.slice A xs.length c, .func (.func f) #[] cap.toArray] w (fun e w' => ∃ i : Int, e = .returned (.int .i64 i) ∧ ((i = -1 ∧ ∃ s', foldS step s0 xs = some s' ∧ good s' ∧ St 0 w0 w' (Inv s' ++ H)) ∨ (0 ≤ i ∧ foldS step s0 xs = none ∧ St 0 w0 w' H))) := by
  refine q_call (n := 19) (args := [.slice A xs.length c, .func (.func f) #[] cap.toArray]) Try.func104 rfl rfl rfl ?_
  have hs0 := hs0
  have hxl := hx.1
  have hxm := hx.2.1
  refine s_seq ?_
  refine s_region ?_
  refine l_r (r_assign rfl) rfl ?_
  refine l_nil ?_
  refine s_seq ?_
  refine s_seq ?_
  refine s_region ?_
  refine l_r (r_move rfl) rfl ?_
  refine l_r (r_len rfl el73) rfl ?_
  refine l_r (r_move rfl) rfl ?_
  refine l_nil ?_
  refine s_block ?_
  refine s_loop (fun m L wl => ∃ (k : Nat) (s : σ), L = [(8, .int .i64 ((k : Nat) : Int)), (0, .slice A xs.length c), (1, .func (.func f) #[] cap.toArray), (7, .int .i64 ((xs.length : Int)))] ∧ m = xs.length - k ∧ k ≤ xs.length ∧ foldS step s0 (xs.take k) = some s ∧ good s ∧ St 0 w0 wl (Inv s ++ H)) _ [(8, .int .i64 ((0 : Nat) : Int)), (0, .slice A xs.length c), (1, .func (.func f) #[] cap.toArray), (7, .int .i64 ((xs.length : Int)))] (.cons rfl (.cons rfl (.cons rfl (.cons rfl .nil)))) ⟨0, s0, rfl, rfl, Nat.zero_le _, rfl, hg, hs0⟩ ?_
  rintro _ _ w1 ⟨k, s, rfl, rfl, hkk, hfs, hgs, hs1⟩
  refine s_seq ?_
  refine s_region ?_
  refine l_r (r_cmp rfl rfl rfl) rfl ?_
  refine l_nil ?_
  refine s_seq ?_
  refine s_part (dj := 9) rfl (fun hc2 => ?_) (fun hc2 => ?_)
  ·
    have hc2p := of_decide_eq_true hc2
    refine s_then rfl ?_
    refine s_skip ?_
    refine s_seq ?_
    refine s_block ?_
    refine s_seq ?_
    refine s_region ?_
    refine l_r (r_move rfl) rfl ?_
    refine l_r (r_assign rfl) rfl ?_
    refine l_nil ?_
    refine s_seq ?_
    refine s_region ?_
    refine l_r (r_move rfl) rfl ?_
    refine l_r (r_move rfl) rfl ?_
    refine l_r (r_move rfl) rfl ?_
    obtain ⟨e3x, e3h, e3b, e3o, e3cs, e3A, _, e3K, e3c⟩ := hx.get_ (i := k) (by omega)
    obtain rfl : e3cs = [.int .i64 e3x.Count, .int .i64 e3x.Most, .bool e3x.Ranked] := e3K
    refine l_r (r_indexA rfl e3A rfl (by omega) (by omega) el73) rfl ?_
    refine l_r (r_loadN rfl ag117 (e3c.on hs1) sz117) rfl ?_
    refine l_call rfl rfl hf rfl (hdo w1 H s e3x [.int .i64 e3x.Count, .int .i64 e3x.Most, .bool e3x.Ranked] hgs (hd _ (List.mem_of_getElem? e3h)) rfl hs1) ?_
    rintro _ w4 (⟨s1, rfl, hst, hg1, hs4⟩ | ⟨rfl, hst, hs4⟩)
    ·
      refine ⟨_, rfl, ?_⟩
      refine l_nil ?_
      refine s_else rfl ?_
      refine s_skip ?_
      refine s_mark ?_
      refine s_region ?_
      refine l_r (r_inc rfl (by omega)) rfl ?_
      refine l_r (r_move rfl) rfl ?_
      refine l_nil ?_
      refine s_again ?_
      exact ⟨_, [(8, .int .i64 (((k + 1) : Nat) : Int)), (0, .slice A xs.length c), (1, .func (.func f) #[] cap.toArray), (7, .int .i64 ((xs.length : Int)))], by omega, (.cons rfl (.cons rfl (.cons rfl (.cons rfl .nil)))), ⟨(k + 1), s1, rfl, rfl, by omega, foldS_next hfs e3h hst, hg1, hs4⟩⟩
    ·
      refine ⟨_, rfl, ?_⟩
      refine l_nil ?_
      refine s_then rfl ?_
      refine s_seq ?_
      refine s_region ?_
      refine l_r (r_move rfl) rfl ?_
      refine l_r (r_assign rfl) rfl ?_
      refine l_nil ?_
      refine s_ret ?_
      exact q_done (.inr rfl) (.tmp rfl .nil) ⟨_, rfl, .inr ⟨by omega, foldS_stop hfs e3h hst, hs4⟩⟩
  ·
    have hc2p := of_decide_eq_false hc2
    refine s_else rfl ?_
    refine s_exit rfl ?_
    refine s_seq ?_
    refine s_region ?_
    refine l_r (r_assign rfl) rfl ?_
    refine l_nil ?_
    refine s_ret ?_
    exact q_done (.inr rfl) (.tmp rfl .nil) ⟨_, rfl, .inl ⟨rfl, s, foldS_end hfs (by omega), hgs, hs1⟩⟩

set_option maxRecDepth 100000 in
theorem co89 {σ : Type} {w0 w : World} {H : List Res} {ok : Nat → Prop} {good : σ → Prop} {dom : TSemaConf → Prop} {Inv : σ → List Res} {step : σ → TSemaConf → Option σ} {s0 : σ} {xs : List TSemaConf} {A : Option Addr} {c f : Nat} {cap : List Value} (hs0 : St 0 w0 w (Inv s0 ++ H)) (hx : Sl Kd.semaConf w0 ok A c xs) (hf : fnOk Try.prog f = true) (hg : good s0) (hd : ∀ x, x ∈ xs → dom x) (hdo : FnOk Try.prog f cap Kd.semaConf mkA true false w0 ok good dom Inv step) :
    Calls Try.prog 89 #[.slice A xs.length c, .func (.func f) #[] cap.toArray] w (fun e w' => (∃ s', e = .returned (.bool false) ∧ foldS step s0 xs = some s' ∧ good s' ∧ St 0 w0 w' (Inv s' ++ H)) ∨ (e = .returned (.bool true) ∧ foldS step s0 xs = none ∧ St 0 w0 w' H)) := by
  refine q_call (n := 9) (args := [.slice A xs.length c, .func (.func f) #[] cap.toArray]) Try.func89 rfl rfl rfl ?_
  have hs0 := hs0
  refine s_seq ?_
  refine s_region ?_
  refine l_r (r_assign rfl) rfl ?_
  refine l_nil ?_
  refine s_seq ?_
  refine s_region ?_
  refine l_r (r_move rfl) rfl ?_
  refine l_r (r_move rfl) rfl ?_
  refine l_call rfl rfl fk104 rfl (ix104 hs0 hx hf hg hd hdo) ?_
  rintro _ w1 ⟨i, rfl, ⟨rfl, s1, hfs, hg1, hs1⟩ | ⟨hi, hfs, hs1⟩⟩
  ·
    refine ⟨_, rfl, ?_⟩
    refine l_r (r_cmp rfl rfl (b := false) (by decide)) rfl ?_
    refine l_r (r_assign rfl) rfl ?_
    refine l_nil ?_
    refine s_ret ?_
    exact q_done (.inr rfl) (.tmp rfl .nil) (.inl ⟨s1, rfl, hfs, hg1, hs1⟩)
  ·
    refine ⟨_, rfl, ?_⟩
    refine l_r (r_cmp rfl rfl (b := true) (congrArg some (decide_eq_true hi))) rfl ?_
    refine l_r (r_assign rfl) rfl ?_
    refine l_nil ?_
    refine s_ret ?_
    exact q_done (.inr rfl) (.tmp rfl .nil) (.inr ⟨rfl, hfs, hs1⟩)

set_option maxRecDepth 100000 in
theorem on90 {σ : Type} {w0 w : World} {H : List Res} {ok : Nat → Prop} {good : σ → Prop} {dom : TSemaConf → Prop} {Inv : σ → List Res} {step : σ → TSemaConf → Option σ} {f : Nat} {cap : List Value} {bo : Nat} {s : σ} {x : TSemaConf} {cs : List Value} (hf : fnOk Try.prog f = true) (hdo : FnOk Try.prog f cap Kd.semaConf mkA false true w0 ok good dom Inv step) (hg : good s) (hd : dom x) (hK : Kd.semaConf.K w0 ok x cs) (hs0 : St 0 w0 w (.pt bo [.func (.func f) #[] cap.toArray] 118 :: (Inv s ++ H))) :
    Calls Try.prog 90 #[.agg cs.toArray, .pointer (some ⟨bo, 0, none⟩)] w (fun e w' => (∃ s', e = .returned (.bool false) ∧ step s x = some s' ∧ good s' ∧ St 0 w0 w' (.pt bo [.func (.func f) #[] cap.toArray] 118 :: (Inv s' ++ H))) ∨ (e = .returned (.bool true) ∧ step s x = none ∧ St 0 w0 w' H)) := by
  refine q_call (n := 8) (args := [.agg cs.toArray, .pointer (some ⟨bo, 0, none⟩)]) Try.func90 rfl rfl rfl ?_
  have hs0 := hs0
  have hK0 := hK
  obtain rfl : cs = [.int .i64 x.Count, .int .i64 x.Most, .bool x.Ranked] := hK
  refine s_seq ?_
  refine s_region ?_
  refine l_box rfl rfl rfl hs0 ?_
  intro w1 b2 hb2 hx1 hs1
  refine l_r (r_assign rfl) rfl ?_
  refine l_nil ?_
  refine s_seq ?_
  refine s_region ?_
  refine l_r (r_load1p rfl hs1 (Repl.there Repl.here) ag118 rfl) rfl ?_
  refine l_r (r_loadNp rfl hs1 Repl.here ag117 sz117) rfl ?_
  refine l_call rfl rfl hf rfl (hdo w1 (.pt bo [.func (.func f) #[] cap.toArray] 118 :: H) s x _ hg hd hK0 hs1.tail.mid) ?_
  rintro _ w2 (⟨s1, rfl, hst, hg1, hs2⟩ | ⟨rfl, hst, hs2⟩)
  ·
    refine ⟨_, rfl, ?_⟩
    refine l_r (r_not rfl) rfl ?_
    refine l_r (r_assign rfl) rfl ?_
    refine l_nil ?_
    refine s_ret ?_
    exact q_done (.inr rfl) (.tmp rfl .nil) (.inl ⟨s1, rfl, hst, hg1, hs2.unmid⟩)
  ·
    refine ⟨_, rfl, ?_⟩
    refine l_r (r_not rfl) rfl ?_
    refine l_r (r_assign rfl) rfl ?_
    refine l_nil ?_
    refine s_ret ?_
    exact q_done (.inr rfl) (.tmp rfl .nil) (.inr ⟨rfl, hst, hs2.tail⟩)

theorem onk90 {σ : Type} {w0 : World} {ok : Nat → Prop} {good : σ → Prop} {dom : TSemaConf → Prop} {Inv : σ → List Res} {step : σ → TSemaConf → Option σ} {f : Nat} {cap : List Value} {bo : Nat} (hf : fnOk Try.prog f = true) (hdo : FnOk Try.prog f cap Kd.semaConf mkA false true w0 ok good dom Inv step) :
    FnOk Try.prog 90 [.pointer (some ⟨bo, 0, none⟩)] Kd.semaConf mkA true false w0 ok good dom (fun s => .pt bo [.func (.func f) #[] cap.toArray] 118 :: Inv s) step :=
  fun _ _ _ _ _ hg hd hK hs => on90 hf hdo hg hd hK hs

set_option maxRecDepth 100000 in
theorem al61 {σ : Type} {w0 w : World} {H : List Res} {ok : Nat → Prop} {good : σ → Prop} {dom : TSemaConf → Prop} {Inv : σ → List Res} {step : σ → TSemaConf → Option σ} {s0 : σ} {xs : List TSemaConf} {A : Option Addr} {c f : Nat} {cap : List Value} {n : Int} (hs0 : St 0 w0 w (Inv s0 ++ H)) (hx : Sl Kd.semaConf w0 ok A c xs) (hf : fnOk Try.prog f = true) (hg : good s0) (hd : ∀ x, x ∈ xs → dom x) (hdo : FnOk Try.prog f cap Kd.semaConf mkA false true w0 ok good dom Inv step) :
    Calls Try.prog 61 #[.slice A xs.length c, .int .i64 n, .func (.func f) #[] cap.toArray] w (fun e w' => (∃ s', e = .returned (.bool true) ∧ (xs.length : Int) ≤ n ∧ foldS step s0 xs = some s' ∧ good s' ∧ St 0 w0 w' (Inv s' ++ H)) ∨ (e = .returned (.bool false) ∧ (n < (xs.length : Int) ∨ foldS step s0 xs = none) ∧ St 0 w0 w' H)) := by
  refine q_call (n := 17) (args := [.slice A xs.length c, .int .i64 n, .func (.func f) #[] cap.toArray]) Try.func61 rfl rfl rfl ?_
  have hs0 := hs0
  refine s_seq ?_
  refine s_region ?_
  refine l_box rfl rfl rfl hs0 ?_
  intro w1 b5 hb5 hx1 hs1
  refine l_r (r_assign rfl) rfl ?_
  refine l_nil ?_
  refine s_seq ?_
  refine s_region ?_
  refine l_r (r_move rfl) rfl ?_
  refine l_r (r_len rfl el73) rfl ?_
  refine l_r (r_move rfl) rfl ?_
  refine l_r (r_cmp rfl rfl rfl) rfl ?_
  refine l_r (r_move rfl) rfl ?_
  refine l_part (dj := 11) rfl (fun hm => ?_) (fun hm => ?_)
  ·
    have hmp := of_decide_eq_true hm
    refine l_on (dj := 11) rfl rfl rfl ?_
    refine l_r (r_move rfl) rfl ?_
    refine l_on (dj := 11) rfl rfl rfl ?_
    refine l_r (r_makefunc rfl rfl) rfl ?_
    refine l_on (dj := 11) rfl rfl rfl ?_
    refine l_call rfl rfl fk89 rfl (co89 (Inv := fun s => .pt b5 [.func (.func f) #[] cap.toArray] 118 :: Inv s) (H := H) hs1 hx fk90 hg hd (onk90 hf hdo)) ?_
    rintro _ w3 (⟨s1, rfl, hfs, hg1, hs3⟩ | ⟨rfl, hfs, hs3⟩)
    ·
      refine ⟨_, rfl, ?_⟩
      refine l_on (dj := 11) rfl rfl rfl ?_
      refine l_r (r_not rfl) rfl ?_
      refine l_r (r_pick_t rfl rfl) rfl ?_
      refine l_r (r_assign rfl) rfl ?_
      refine l_nil ?_
      refine s_ret ?_
      exact q_done (.inr rfl) (.tmp rfl .nil) (.inl ⟨s1, rfl, hmp, hfs, hg1, hs3.tail⟩)
    ·
      refine ⟨_, rfl, ?_⟩
      refine l_on (dj := 11) rfl rfl rfl ?_
      refine l_r (r_not rfl) rfl ?_
      refine l_r (r_pick_t rfl rfl) rfl ?_
      refine l_r (r_assign rfl) rfl ?_
      refine l_nil ?_
      refine s_ret ?_
      exact q_done (.inr rfl) (.tmp rfl .nil) (.inr ⟨rfl, .inr hfs, hs3⟩)
  ·
    have hmp := of_decide_eq_false hm
    refine l_off (dj := 11) (b := false) rfl rfl rfl rfl rfl ?_
    refine l_off (dj := 11) (b := false) rfl rfl rfl rfl rfl ?_
    refine l_off (dj := 11) (b := false) rfl rfl rfl rfl rfl ?_
    refine l_off (dj := 11) (b := false) rfl rfl rfl rfl rfl ?_
    refine l_r (r_pick_f rfl rfl) rfl ?_
    refine l_r (r_assign rfl) rfl ?_
    refine l_nil ?_
    refine s_ret ?_
    exact q_done (.inr rfl) (.tmp rfl .nil) (.inr ⟨rfl, .inl (by omega), hs1.tail.dropL⟩)

set_option maxRecDepth 100000 in
theorem ix105 {σ : Type} {w0 w : World} {H : List Res} {ok : Nat → Prop} {good : σ → Prop} {dom : TWindow → Prop} {Inv : σ → List Res} {step : σ → TWindow → Option σ} {s0 : σ} {xs : List TWindow} {A : Option Addr} {c f : Nat} {cap : List Value} (hs0 : St 0 w0 w (Inv s0 ++ H)) (hx : Sl Kd.window w0 ok A c xs) (hf : fnOk Try.prog f = true) (hg : good s0) (hd : ∀ x, x ∈ xs → dom x) (hdo : FnOk Try.prog f cap Kd.window mkA true false w0 ok good dom Inv step) :
    Calls Try.prog 105 #[.slice A xs.length c, .func (.func f) #[] cap.toArray] w (fun e w' => ∃ i : Int, e = .returned (.int .i64 i) ∧ ((i = -1 ∧ ∃ s', foldS step s0 xs = some s' ∧ good s' ∧ St 0 w0 w' (Inv s' ++ H)) ∨ (0 ≤ i ∧ foldS step s0 xs = none ∧ St 0 w0 w' H))) := by
  refine q_call (n := 19) (args := [.slice A xs.length c, .func (.func f) #[] cap.toArray]) Try.func105 rfl rfl rfl ?_
  have hs0 := hs0
  have hxl := hx.1
  have hxm := hx.2.1
  refine s_seq ?_
  refine s_region ?_
  refine l_r (r_assign rfl) rfl ?_
  refine l_nil ?_
  refine s_seq ?_
  refine s_seq ?_
  refine s_region ?_
  refine l_r (r_move rfl) rfl ?_
  refine l_r (r_len rfl el24) rfl ?_
  refine l_r (r_move rfl) rfl ?_
  refine l_nil ?_
  refine s_block ?_
  refine s_loop (fun m L wl => ∃ (k : Nat) (s : σ), L = [(8, .int .i64 ((k : Nat) : Int)), (0, .slice A xs.length c), (1, .func (.func f) #[] cap.toArray), (7, .int .i64 ((xs.length : Int)))] ∧ m = xs.length - k ∧ k ≤ xs.length ∧ foldS step s0 (xs.take k) = some s ∧ good s ∧ St 0 w0 wl (Inv s ++ H)) _ [(8, .int .i64 ((0 : Nat) : Int)), (0, .slice A xs.length c), (1, .func (.func f) #[] cap.toArray), (7, .int .i64 ((xs.length : Int)))] (.cons rfl (.cons rfl (.cons rfl (.cons rfl .nil)))) ⟨0, s0, rfl, rfl, Nat.zero_le _, rfl, hg, hs0⟩ ?_
  rintro _ _ w1 ⟨k, s, rfl, rfl, hkk, hfs, hgs, hs1⟩
  refine s_seq ?_
  refine s_region ?_
  refine l_r (r_cmp rfl rfl rfl) rfl ?_
  refine l_nil ?_
  refine s_seq ?_
  refine s_part (dj := 9) rfl (fun hc2 => ?_) (fun hc2 => ?_)
  ·
    have hc2p := of_decide_eq_true hc2
    refine s_then rfl ?_
    refine s_skip ?_
    refine s_seq ?_
    refine s_block ?_
    refine s_seq ?_
    refine s_region ?_
    refine l_r (r_move rfl) rfl ?_
    refine l_r (r_assign rfl) rfl ?_
    refine l_nil ?_
    refine s_seq ?_
    refine s_region ?_
    refine l_r (r_move rfl) rfl ?_
    refine l_r (r_move rfl) rfl ?_
    refine l_r (r_move rfl) rfl ?_
    obtain ⟨e3x, e3h, e3b, e3o, e3cs, e3A, _, e3K, e3c⟩ := hx.get_ (i := k) (by omega)
    obtain rfl : e3cs = [.int .i64 e3x.Part, .int .i64 e3x.Start, .int .i64 e3x.Len] := e3K
    refine l_r (r_indexA rfl e3A rfl (by omega) (by omega) el24) rfl ?_
    refine l_r (r_loadN rfl ag128 (e3c.on hs1) sz128) rfl ?_
    refine l_call rfl rfl hf rfl (hdo w1 H s e3x [.int .i64 e3x.Part, .int .i64 e3x.Start, .int .i64 e3x.Len] hgs (hd _ (List.mem_of_getElem? e3h)) rfl hs1) ?_
    rintro _ w4 (⟨s1, rfl, hst, hg1, hs4⟩ | ⟨rfl, hst, hs4⟩)
    ·
      refine ⟨_, rfl, ?_⟩
      refine l_nil ?_
      refine s_else rfl ?_
      refine s_skip ?_
      refine s_mark ?_
      refine s_region ?_
      refine l_r (r_inc rfl (by omega)) rfl ?_
      refine l_r (r_move rfl) rfl ?_
      refine l_nil ?_
      refine s_again ?_
      exact ⟨_, [(8, .int .i64 (((k + 1) : Nat) : Int)), (0, .slice A xs.length c), (1, .func (.func f) #[] cap.toArray), (7, .int .i64 ((xs.length : Int)))], by omega, (.cons rfl (.cons rfl (.cons rfl (.cons rfl .nil)))), ⟨(k + 1), s1, rfl, rfl, by omega, foldS_next hfs e3h hst, hg1, hs4⟩⟩
    ·
      refine ⟨_, rfl, ?_⟩
      refine l_nil ?_
      refine s_then rfl ?_
      refine s_seq ?_
      refine s_region ?_
      refine l_r (r_move rfl) rfl ?_
      refine l_r (r_assign rfl) rfl ?_
      refine l_nil ?_
      refine s_ret ?_
      exact q_done (.inr rfl) (.tmp rfl .nil) ⟨_, rfl, .inr ⟨by omega, foldS_stop hfs e3h hst, hs4⟩⟩
  ·
    have hc2p := of_decide_eq_false hc2
    refine s_else rfl ?_
    refine s_exit rfl ?_
    refine s_seq ?_
    refine s_region ?_
    refine l_r (r_assign rfl) rfl ?_
    refine l_nil ?_
    refine s_ret ?_
    exact q_done (.inr rfl) (.tmp rfl .nil) ⟨_, rfl, .inl ⟨rfl, s, foldS_end hfs (by omega), hgs, hs1⟩⟩

set_option maxRecDepth 100000 in
theorem co91 {σ : Type} {w0 w : World} {H : List Res} {ok : Nat → Prop} {good : σ → Prop} {dom : TWindow → Prop} {Inv : σ → List Res} {step : σ → TWindow → Option σ} {s0 : σ} {xs : List TWindow} {A : Option Addr} {c f : Nat} {cap : List Value} (hs0 : St 0 w0 w (Inv s0 ++ H)) (hx : Sl Kd.window w0 ok A c xs) (hf : fnOk Try.prog f = true) (hg : good s0) (hd : ∀ x, x ∈ xs → dom x) (hdo : FnOk Try.prog f cap Kd.window mkA true false w0 ok good dom Inv step) :
    Calls Try.prog 91 #[.slice A xs.length c, .func (.func f) #[] cap.toArray] w (fun e w' => (∃ s', e = .returned (.bool false) ∧ foldS step s0 xs = some s' ∧ good s' ∧ St 0 w0 w' (Inv s' ++ H)) ∨ (e = .returned (.bool true) ∧ foldS step s0 xs = none ∧ St 0 w0 w' H)) := by
  refine q_call (n := 9) (args := [.slice A xs.length c, .func (.func f) #[] cap.toArray]) Try.func91 rfl rfl rfl ?_
  have hs0 := hs0
  refine s_seq ?_
  refine s_region ?_
  refine l_r (r_assign rfl) rfl ?_
  refine l_nil ?_
  refine s_seq ?_
  refine s_region ?_
  refine l_r (r_move rfl) rfl ?_
  refine l_r (r_move rfl) rfl ?_
  refine l_call rfl rfl fk105 rfl (ix105 hs0 hx hf hg hd hdo) ?_
  rintro _ w1 ⟨i, rfl, ⟨rfl, s1, hfs, hg1, hs1⟩ | ⟨hi, hfs, hs1⟩⟩
  ·
    refine ⟨_, rfl, ?_⟩
    refine l_r (r_cmp rfl rfl (b := false) (by decide)) rfl ?_
    refine l_r (r_assign rfl) rfl ?_
    refine l_nil ?_
    refine s_ret ?_
    exact q_done (.inr rfl) (.tmp rfl .nil) (.inl ⟨s1, rfl, hfs, hg1, hs1⟩)
  ·
    refine ⟨_, rfl, ?_⟩
    refine l_r (r_cmp rfl rfl (b := true) (congrArg some (decide_eq_true hi))) rfl ?_
    refine l_r (r_assign rfl) rfl ?_
    refine l_nil ?_
    refine s_ret ?_
    exact q_done (.inr rfl) (.tmp rfl .nil) (.inr ⟨rfl, hfs, hs1⟩)

set_option maxRecDepth 100000 in
theorem on92 {σ : Type} {w0 w : World} {H : List Res} {ok : Nat → Prop} {good : σ → Prop} {dom : TWindow → Prop} {Inv : σ → List Res} {step : σ → TWindow → Option σ} {f : Nat} {cap : List Value} {bo : Nat} {s : σ} {x : TWindow} {cs : List Value} (hf : fnOk Try.prog f = true) (hdo : FnOk Try.prog f cap Kd.window mkA false true w0 ok good dom Inv step) (hg : good s) (hd : dom x) (hK : Kd.window.K w0 ok x cs) (hs0 : St 0 w0 w (.pt bo [.func (.func f) #[] cap.toArray] 129 :: (Inv s ++ H))) :
    Calls Try.prog 92 #[.agg cs.toArray, .pointer (some ⟨bo, 0, none⟩)] w (fun e w' => (∃ s', e = .returned (.bool false) ∧ step s x = some s' ∧ good s' ∧ St 0 w0 w' (.pt bo [.func (.func f) #[] cap.toArray] 129 :: (Inv s' ++ H))) ∨ (e = .returned (.bool true) ∧ step s x = none ∧ St 0 w0 w' H)) := by
  refine q_call (n := 8) (args := [.agg cs.toArray, .pointer (some ⟨bo, 0, none⟩)]) Try.func92 rfl rfl rfl ?_
  have hs0 := hs0
  have hK0 := hK
  obtain rfl : cs = [.int .i64 x.Part, .int .i64 x.Start, .int .i64 x.Len] := hK
  refine s_seq ?_
  refine s_region ?_
  refine l_box rfl rfl rfl hs0 ?_
  intro w1 b2 hb2 hx1 hs1
  refine l_r (r_assign rfl) rfl ?_
  refine l_nil ?_
  refine s_seq ?_
  refine s_region ?_
  refine l_r (r_load1p rfl hs1 (Repl.there Repl.here) ag129 rfl) rfl ?_
  refine l_r (r_loadNp rfl hs1 Repl.here ag128 sz128) rfl ?_
  refine l_call rfl rfl hf rfl (hdo w1 (.pt bo [.func (.func f) #[] cap.toArray] 129 :: H) s x _ hg hd hK0 hs1.tail.mid) ?_
  rintro _ w2 (⟨s1, rfl, hst, hg1, hs2⟩ | ⟨rfl, hst, hs2⟩)
  ·
    refine ⟨_, rfl, ?_⟩
    refine l_r (r_not rfl) rfl ?_
    refine l_r (r_assign rfl) rfl ?_
    refine l_nil ?_
    refine s_ret ?_
    exact q_done (.inr rfl) (.tmp rfl .nil) (.inl ⟨s1, rfl, hst, hg1, hs2.unmid⟩)
  ·
    refine ⟨_, rfl, ?_⟩
    refine l_r (r_not rfl) rfl ?_
    refine l_r (r_assign rfl) rfl ?_
    refine l_nil ?_
    refine s_ret ?_
    exact q_done (.inr rfl) (.tmp rfl .nil) (.inr ⟨rfl, hst, hs2.tail⟩)

theorem onk92 {σ : Type} {w0 : World} {ok : Nat → Prop} {good : σ → Prop} {dom : TWindow → Prop} {Inv : σ → List Res} {step : σ → TWindow → Option σ} {f : Nat} {cap : List Value} {bo : Nat} (hf : fnOk Try.prog f = true) (hdo : FnOk Try.prog f cap Kd.window mkA false true w0 ok good dom Inv step) :
    FnOk Try.prog 92 [.pointer (some ⟨bo, 0, none⟩)] Kd.window mkA true false w0 ok good dom (fun s => .pt bo [.func (.func f) #[] cap.toArray] 129 :: Inv s) step :=
  fun _ _ _ _ _ hg hd hK hs => on92 hf hdo hg hd hK hs

set_option maxRecDepth 100000 in
theorem al62 {σ : Type} {w0 w : World} {H : List Res} {ok : Nat → Prop} {good : σ → Prop} {dom : TWindow → Prop} {Inv : σ → List Res} {step : σ → TWindow → Option σ} {s0 : σ} {xs : List TWindow} {A : Option Addr} {c f : Nat} {cap : List Value} {n : Int} (hs0 : St 0 w0 w (Inv s0 ++ H)) (hx : Sl Kd.window w0 ok A c xs) (hf : fnOk Try.prog f = true) (hg : good s0) (hd : ∀ x, x ∈ xs → dom x) (hdo : FnOk Try.prog f cap Kd.window mkA false true w0 ok good dom Inv step) :
    Calls Try.prog 62 #[.slice A xs.length c, .int .i64 n, .func (.func f) #[] cap.toArray] w (fun e w' => (∃ s', e = .returned (.bool true) ∧ (xs.length : Int) ≤ n ∧ foldS step s0 xs = some s' ∧ good s' ∧ St 0 w0 w' (Inv s' ++ H)) ∨ (e = .returned (.bool false) ∧ (n < (xs.length : Int) ∨ foldS step s0 xs = none) ∧ St 0 w0 w' H)) := by
  refine q_call (n := 17) (args := [.slice A xs.length c, .int .i64 n, .func (.func f) #[] cap.toArray]) Try.func62 rfl rfl rfl ?_
  have hs0 := hs0
  refine s_seq ?_
  refine s_region ?_
  refine l_box rfl rfl rfl hs0 ?_
  intro w1 b5 hb5 hx1 hs1
  refine l_r (r_assign rfl) rfl ?_
  refine l_nil ?_
  refine s_seq ?_
  refine s_region ?_
  refine l_r (r_move rfl) rfl ?_
  refine l_r (r_len rfl el24) rfl ?_
  refine l_r (r_move rfl) rfl ?_
  refine l_r (r_cmp rfl rfl rfl) rfl ?_
  refine l_r (r_move rfl) rfl ?_
  refine l_part (dj := 11) rfl (fun hm => ?_) (fun hm => ?_)
  ·
    have hmp := of_decide_eq_true hm
    refine l_on (dj := 11) rfl rfl rfl ?_
    refine l_r (r_move rfl) rfl ?_
    refine l_on (dj := 11) rfl rfl rfl ?_
    refine l_r (r_makefunc rfl rfl) rfl ?_
    refine l_on (dj := 11) rfl rfl rfl ?_
    refine l_call rfl rfl fk91 rfl (co91 (Inv := fun s => .pt b5 [.func (.func f) #[] cap.toArray] 129 :: Inv s) (H := H) hs1 hx fk92 hg hd (onk92 hf hdo)) ?_
    rintro _ w3 (⟨s1, rfl, hfs, hg1, hs3⟩ | ⟨rfl, hfs, hs3⟩)
    ·
      refine ⟨_, rfl, ?_⟩
      refine l_on (dj := 11) rfl rfl rfl ?_
      refine l_r (r_not rfl) rfl ?_
      refine l_r (r_pick_t rfl rfl) rfl ?_
      refine l_r (r_assign rfl) rfl ?_
      refine l_nil ?_
      refine s_ret ?_
      exact q_done (.inr rfl) (.tmp rfl .nil) (.inl ⟨s1, rfl, hmp, hfs, hg1, hs3.tail⟩)
    ·
      refine ⟨_, rfl, ?_⟩
      refine l_on (dj := 11) rfl rfl rfl ?_
      refine l_r (r_not rfl) rfl ?_
      refine l_r (r_pick_t rfl rfl) rfl ?_
      refine l_r (r_assign rfl) rfl ?_
      refine l_nil ?_
      refine s_ret ?_
      exact q_done (.inr rfl) (.tmp rfl .nil) (.inr ⟨rfl, .inr hfs, hs3⟩)
  ·
    have hmp := of_decide_eq_false hm
    refine l_off (dj := 11) (b := false) rfl rfl rfl rfl rfl ?_
    refine l_off (dj := 11) (b := false) rfl rfl rfl rfl rfl ?_
    refine l_off (dj := 11) (b := false) rfl rfl rfl rfl rfl ?_
    refine l_off (dj := 11) (b := false) rfl rfl rfl rfl rfl ?_
    refine l_r (r_pick_f rfl rfl) rfl ?_
    refine l_r (r_assign rfl) rfl ?_
    refine l_nil ?_
    refine s_ret ?_
    exact q_done (.inr rfl) (.tmp rfl .nil) (.inr ⟨rfl, .inl (by omega), hs1.tail.dropL⟩)

set_option maxRecDepth 100000 in
theorem ix106 {σ : Type} {w0 w : World} {H : List Res} {ok : Nat → Prop} {good : σ → Prop} {dom : TChannel → Prop} {Inv : σ → List Res} {step : σ → TChannel → Option σ} {s0 : σ} {xs : List TChannel} {A : Option Addr} {c f : Nat} {cap : List Value} (hs0 : St 0 w0 w (Inv s0 ++ H)) (hx : Sl Kd.channel w0 ok A c xs) (hf : fnOk Try.prog f = true) (hg : good s0) (hd : ∀ x, x ∈ xs → dom x) (hdo : FnOk Try.prog f cap Kd.channel mkA true false w0 ok good dom Inv step) :
    Calls Try.prog 106 #[.slice A xs.length c, .func (.func f) #[] cap.toArray] w (fun e w' => ∃ i : Int, e = .returned (.int .i64 i) ∧ ((i = -1 ∧ ∃ s', foldS step s0 xs = some s' ∧ good s' ∧ St 0 w0 w' (Inv s' ++ H)) ∨ (0 ≤ i ∧ foldS step s0 xs = none ∧ St 0 w0 w' H))) := by
  refine q_call (n := 19) (args := [.slice A xs.length c, .func (.func f) #[] cap.toArray]) Try.func106 rfl rfl rfl ?_
  have hs0 := hs0
  have hxl := hx.1
  have hxm := hx.2.1
  refine s_seq ?_
  refine s_region ?_
  refine l_r (r_assign rfl) rfl ?_
  refine l_nil ?_
  refine s_seq ?_
  refine s_seq ?_
  refine s_region ?_
  refine l_r (r_move rfl) rfl ?_
  refine l_r (r_len rfl el25) rfl ?_
  refine l_r (r_move rfl) rfl ?_
  refine l_nil ?_
  refine s_block ?_
  refine s_loop (fun m L wl => ∃ (k : Nat) (s : σ), L = [(8, .int .i64 ((k : Nat) : Int)), (0, .slice A xs.length c), (1, .func (.func f) #[] cap.toArray), (7, .int .i64 ((xs.length : Int)))] ∧ m = xs.length - k ∧ k ≤ xs.length ∧ foldS step s0 (xs.take k) = some s ∧ good s ∧ St 0 w0 wl (Inv s ++ H)) _ [(8, .int .i64 ((0 : Nat) : Int)), (0, .slice A xs.length c), (1, .func (.func f) #[] cap.toArray), (7, .int .i64 ((xs.length : Int)))] (.cons rfl (.cons rfl (.cons rfl (.cons rfl .nil)))) ⟨0, s0, rfl, rfl, Nat.zero_le _, rfl, hg, hs0⟩ ?_
  rintro _ _ w1 ⟨k, s, rfl, rfl, hkk, hfs, hgs, hs1⟩
  refine s_seq ?_
  refine s_region ?_
  refine l_r (r_cmp rfl rfl rfl) rfl ?_
  refine l_nil ?_
  refine s_seq ?_
  refine s_part (dj := 9) rfl (fun hc2 => ?_) (fun hc2 => ?_)
  ·
    have hc2p := of_decide_eq_true hc2
    refine s_then rfl ?_
    refine s_skip ?_
    refine s_seq ?_
    refine s_block ?_
    refine s_seq ?_
    refine s_region ?_
    refine l_r (r_move rfl) rfl ?_
    refine l_r (r_assign rfl) rfl ?_
    refine l_nil ?_
    refine s_seq ?_
    refine s_region ?_
    refine l_r (r_move rfl) rfl ?_
    refine l_r (r_move rfl) rfl ?_
    refine l_r (r_move rfl) rfl ?_
    obtain ⟨e3x, e3h, e3b, e3o, e3cs, e3A, _, e3K, e3c⟩ := hx.get_ (i := k) (by omega)
    obtain rfl : e3cs = [.bool e3x.Queuing, .int .i64 e3x.From, .int .i64 e3x.A, .int .i64 e3x.To, .int .i64 e3x.B] := e3K
    refine l_r (r_indexA rfl e3A rfl (by omega) (by omega) el25) rfl ?_
    refine l_r (r_loadN rfl ag32 (e3c.on hs1) sz32) rfl ?_
    refine l_call rfl rfl hf rfl (hdo w1 H s e3x [.bool e3x.Queuing, .int .i64 e3x.From, .int .i64 e3x.A, .int .i64 e3x.To, .int .i64 e3x.B] hgs (hd _ (List.mem_of_getElem? e3h)) rfl hs1) ?_
    rintro _ w4 (⟨s1, rfl, hst, hg1, hs4⟩ | ⟨rfl, hst, hs4⟩)
    ·
      refine ⟨_, rfl, ?_⟩
      refine l_nil ?_
      refine s_else rfl ?_
      refine s_skip ?_
      refine s_mark ?_
      refine s_region ?_
      refine l_r (r_inc rfl (by omega)) rfl ?_
      refine l_r (r_move rfl) rfl ?_
      refine l_nil ?_
      refine s_again ?_
      exact ⟨_, [(8, .int .i64 (((k + 1) : Nat) : Int)), (0, .slice A xs.length c), (1, .func (.func f) #[] cap.toArray), (7, .int .i64 ((xs.length : Int)))], by omega, (.cons rfl (.cons rfl (.cons rfl (.cons rfl .nil)))), ⟨(k + 1), s1, rfl, rfl, by omega, foldS_next hfs e3h hst, hg1, hs4⟩⟩
    ·
      refine ⟨_, rfl, ?_⟩
      refine l_nil ?_
      refine s_then rfl ?_
      refine s_seq ?_
      refine s_region ?_
      refine l_r (r_move rfl) rfl ?_
      refine l_r (r_assign rfl) rfl ?_
      refine l_nil ?_
      refine s_ret ?_
      exact q_done (.inr rfl) (.tmp rfl .nil) ⟨_, rfl, .inr ⟨by omega, foldS_stop hfs e3h hst, hs4⟩⟩
  ·
    have hc2p := of_decide_eq_false hc2
    refine s_else rfl ?_
    refine s_exit rfl ?_
    refine s_seq ?_
    refine s_region ?_
    refine l_r (r_assign rfl) rfl ?_
    refine l_nil ?_
    refine s_ret ?_
    exact q_done (.inr rfl) (.tmp rfl .nil) ⟨_, rfl, .inl ⟨rfl, s, foldS_end hfs (by omega), hgs, hs1⟩⟩

set_option maxRecDepth 100000 in
theorem co93 {σ : Type} {w0 w : World} {H : List Res} {ok : Nat → Prop} {good : σ → Prop} {dom : TChannel → Prop} {Inv : σ → List Res} {step : σ → TChannel → Option σ} {s0 : σ} {xs : List TChannel} {A : Option Addr} {c f : Nat} {cap : List Value} (hs0 : St 0 w0 w (Inv s0 ++ H)) (hx : Sl Kd.channel w0 ok A c xs) (hf : fnOk Try.prog f = true) (hg : good s0) (hd : ∀ x, x ∈ xs → dom x) (hdo : FnOk Try.prog f cap Kd.channel mkA true false w0 ok good dom Inv step) :
    Calls Try.prog 93 #[.slice A xs.length c, .func (.func f) #[] cap.toArray] w (fun e w' => (∃ s', e = .returned (.bool false) ∧ foldS step s0 xs = some s' ∧ good s' ∧ St 0 w0 w' (Inv s' ++ H)) ∨ (e = .returned (.bool true) ∧ foldS step s0 xs = none ∧ St 0 w0 w' H)) := by
  refine q_call (n := 9) (args := [.slice A xs.length c, .func (.func f) #[] cap.toArray]) Try.func93 rfl rfl rfl ?_
  have hs0 := hs0
  refine s_seq ?_
  refine s_region ?_
  refine l_r (r_assign rfl) rfl ?_
  refine l_nil ?_
  refine s_seq ?_
  refine s_region ?_
  refine l_r (r_move rfl) rfl ?_
  refine l_r (r_move rfl) rfl ?_
  refine l_call rfl rfl fk106 rfl (ix106 hs0 hx hf hg hd hdo) ?_
  rintro _ w1 ⟨i, rfl, ⟨rfl, s1, hfs, hg1, hs1⟩ | ⟨hi, hfs, hs1⟩⟩
  ·
    refine ⟨_, rfl, ?_⟩
    refine l_r (r_cmp rfl rfl (b := false) (by decide)) rfl ?_
    refine l_r (r_assign rfl) rfl ?_
    refine l_nil ?_
    refine s_ret ?_
    exact q_done (.inr rfl) (.tmp rfl .nil) (.inl ⟨s1, rfl, hfs, hg1, hs1⟩)
  ·
    refine ⟨_, rfl, ?_⟩
    refine l_r (r_cmp rfl rfl (b := true) (congrArg some (decide_eq_true hi))) rfl ?_
    refine l_r (r_assign rfl) rfl ?_
    refine l_nil ?_
    refine s_ret ?_
    exact q_done (.inr rfl) (.tmp rfl .nil) (.inr ⟨rfl, hfs, hs1⟩)

set_option maxRecDepth 100000 in
theorem on94 {σ : Type} {w0 w : World} {H : List Res} {ok : Nat → Prop} {good : σ → Prop} {dom : TChannel → Prop} {Inv : σ → List Res} {step : σ → TChannel → Option σ} {f : Nat} {cap : List Value} {bo : Nat} {s : σ} {x : TChannel} {cs : List Value} (hf : fnOk Try.prog f = true) (hdo : FnOk Try.prog f cap Kd.channel mkA false true w0 ok good dom Inv step) (hg : good s) (hd : dom x) (hK : Kd.channel.K w0 ok x cs) (hs0 : St 0 w0 w (.pt bo [.func (.func f) #[] cap.toArray] 135 :: (Inv s ++ H))) :
    Calls Try.prog 94 #[.agg cs.toArray, .pointer (some ⟨bo, 0, none⟩)] w (fun e w' => (∃ s', e = .returned (.bool false) ∧ step s x = some s' ∧ good s' ∧ St 0 w0 w' (.pt bo [.func (.func f) #[] cap.toArray] 135 :: (Inv s' ++ H))) ∨ (e = .returned (.bool true) ∧ step s x = none ∧ St 0 w0 w' H)) := by
  refine q_call (n := 8) (args := [.agg cs.toArray, .pointer (some ⟨bo, 0, none⟩)]) Try.func94 rfl rfl rfl ?_
  have hs0 := hs0
  have hK0 := hK
  obtain rfl : cs = [.bool x.Queuing, .int .i64 x.From, .int .i64 x.A, .int .i64 x.To, .int .i64 x.B] := hK
  refine s_seq ?_
  refine s_region ?_
  refine l_box rfl rfl rfl hs0 ?_
  intro w1 b2 hb2 hx1 hs1
  refine l_r (r_assign rfl) rfl ?_
  refine l_nil ?_
  refine s_seq ?_
  refine s_region ?_
  refine l_r (r_load1p rfl hs1 (Repl.there Repl.here) ag135 rfl) rfl ?_
  refine l_r (r_loadNp rfl hs1 Repl.here ag32 sz32) rfl ?_
  refine l_call rfl rfl hf rfl (hdo w1 (.pt bo [.func (.func f) #[] cap.toArray] 135 :: H) s x _ hg hd hK0 hs1.tail.mid) ?_
  rintro _ w2 (⟨s1, rfl, hst, hg1, hs2⟩ | ⟨rfl, hst, hs2⟩)
  ·
    refine ⟨_, rfl, ?_⟩
    refine l_r (r_not rfl) rfl ?_
    refine l_r (r_assign rfl) rfl ?_
    refine l_nil ?_
    refine s_ret ?_
    exact q_done (.inr rfl) (.tmp rfl .nil) (.inl ⟨s1, rfl, hst, hg1, hs2.unmid⟩)
  ·
    refine ⟨_, rfl, ?_⟩
    refine l_r (r_not rfl) rfl ?_
    refine l_r (r_assign rfl) rfl ?_
    refine l_nil ?_
    refine s_ret ?_
    exact q_done (.inr rfl) (.tmp rfl .nil) (.inr ⟨rfl, hst, hs2.tail⟩)

theorem onk94 {σ : Type} {w0 : World} {ok : Nat → Prop} {good : σ → Prop} {dom : TChannel → Prop} {Inv : σ → List Res} {step : σ → TChannel → Option σ} {f : Nat} {cap : List Value} {bo : Nat} (hf : fnOk Try.prog f = true) (hdo : FnOk Try.prog f cap Kd.channel mkA false true w0 ok good dom Inv step) :
    FnOk Try.prog 94 [.pointer (some ⟨bo, 0, none⟩)] Kd.channel mkA true false w0 ok good dom (fun s => .pt bo [.func (.func f) #[] cap.toArray] 135 :: Inv s) step :=
  fun _ _ _ _ _ hg hd hK hs => on94 hf hdo hg hd hK hs

set_option maxRecDepth 100000 in
theorem al64 {σ : Type} {w0 w : World} {H : List Res} {ok : Nat → Prop} {good : σ → Prop} {dom : TChannel → Prop} {Inv : σ → List Res} {step : σ → TChannel → Option σ} {s0 : σ} {xs : List TChannel} {A : Option Addr} {c f : Nat} {cap : List Value} {n : Int} (hs0 : St 0 w0 w (Inv s0 ++ H)) (hx : Sl Kd.channel w0 ok A c xs) (hf : fnOk Try.prog f = true) (hg : good s0) (hd : ∀ x, x ∈ xs → dom x) (hdo : FnOk Try.prog f cap Kd.channel mkA false true w0 ok good dom Inv step) :
    Calls Try.prog 64 #[.slice A xs.length c, .int .i64 n, .func (.func f) #[] cap.toArray] w (fun e w' => (∃ s', e = .returned (.bool true) ∧ (xs.length : Int) ≤ n ∧ foldS step s0 xs = some s' ∧ good s' ∧ St 0 w0 w' (Inv s' ++ H)) ∨ (e = .returned (.bool false) ∧ (n < (xs.length : Int) ∨ foldS step s0 xs = none) ∧ St 0 w0 w' H)) := by
  refine q_call (n := 17) (args := [.slice A xs.length c, .int .i64 n, .func (.func f) #[] cap.toArray]) Try.func64 rfl rfl rfl ?_
  have hs0 := hs0
  refine s_seq ?_
  refine s_region ?_
  refine l_box rfl rfl rfl hs0 ?_
  intro w1 b5 hb5 hx1 hs1
  refine l_r (r_assign rfl) rfl ?_
  refine l_nil ?_
  refine s_seq ?_
  refine s_region ?_
  refine l_r (r_move rfl) rfl ?_
  refine l_r (r_len rfl el25) rfl ?_
  refine l_r (r_move rfl) rfl ?_
  refine l_r (r_cmp rfl rfl rfl) rfl ?_
  refine l_r (r_move rfl) rfl ?_
  refine l_part (dj := 11) rfl (fun hm => ?_) (fun hm => ?_)
  ·
    have hmp := of_decide_eq_true hm
    refine l_on (dj := 11) rfl rfl rfl ?_
    refine l_r (r_move rfl) rfl ?_
    refine l_on (dj := 11) rfl rfl rfl ?_
    refine l_r (r_makefunc rfl rfl) rfl ?_
    refine l_on (dj := 11) rfl rfl rfl ?_
    refine l_call rfl rfl fk93 rfl (co93 (Inv := fun s => .pt b5 [.func (.func f) #[] cap.toArray] 135 :: Inv s) (H := H) hs1 hx fk94 hg hd (onk94 hf hdo)) ?_
    rintro _ w3 (⟨s1, rfl, hfs, hg1, hs3⟩ | ⟨rfl, hfs, hs3⟩)
    ·
      refine ⟨_, rfl, ?_⟩
      refine l_on (dj := 11) rfl rfl rfl ?_
      refine l_r (r_not rfl) rfl ?_
      refine l_r (r_pick_t rfl rfl) rfl ?_
      refine l_r (r_assign rfl) rfl ?_
      refine l_nil ?_
      refine s_ret ?_
      exact q_done (.inr rfl) (.tmp rfl .nil) (.inl ⟨s1, rfl, hmp, hfs, hg1, hs3.tail⟩)
    ·
      refine ⟨_, rfl, ?_⟩
      refine l_on (dj := 11) rfl rfl rfl ?_
      refine l_r (r_not rfl) rfl ?_
      refine l_r (r_pick_t rfl rfl) rfl ?_
      refine l_r (r_assign rfl) rfl ?_
      refine l_nil ?_
      refine s_ret ?_
      exact q_done (.inr rfl) (.tmp rfl .nil) (.inr ⟨rfl, .inr hfs, hs3⟩)
  ·
    have hmp := of_decide_eq_false hm
    refine l_off (dj := 11) (b := false) rfl rfl rfl rfl rfl ?_
    refine l_off (dj := 11) (b := false) rfl rfl rfl rfl rfl ?_
    refine l_off (dj := 11) (b := false) rfl rfl rfl rfl rfl ?_
    refine l_off (dj := 11) (b := false) rfl rfl rfl rfl rfl ?_
    refine l_r (r_pick_f rfl rfl) rfl ?_
    refine l_r (r_assign rfl) rfl ?_
    refine l_nil ?_
    refine s_ret ?_
    exact q_done (.inr rfl) (.tmp rfl .nil) (.inr ⟨rfl, .inl (by omega), hs1.tail.dropL⟩)

set_option maxRecDepth 100000 in
theorem ix101 {σ : Type} {w0 w : World} {H : List Res} {ok : Nat → Prop} {good : σ → Prop} {dom : TRegion → Prop} {Inv : σ → List Res} {step : σ → TRegion → Option σ} {s0 : σ} {xs : List TRegion} {A : Option Addr} {c f : Nat} {cap : List Value} (hs0 : St 0 w0 w (Inv s0 ++ H)) (hx : Sl Kd.region w0 ok A c xs) (hf : fnOk Try.prog f = true) (hg : good s0) (hd : ∀ x, x ∈ xs → dom x) (hdo : FnOk Try.prog f cap Kd.region mkA true false w0 ok good dom Inv step) :
    Calls Try.prog 101 #[.slice A xs.length c, .func (.func f) #[] cap.toArray] w (fun e w' => ∃ i : Int, e = .returned (.int .i64 i) ∧ ((i = -1 ∧ ∃ s', foldS step s0 xs = some s' ∧ good s' ∧ St 0 w0 w' (Inv s' ++ H)) ∨ (0 ≤ i ∧ foldS step s0 xs = none ∧ St 0 w0 w' H))) := by
  refine q_call (n := 19) (args := [.slice A xs.length c, .func (.func f) #[] cap.toArray]) Try.func101 rfl rfl rfl ?_
  have hs0 := hs0
  have hxl := hx.1
  have hxm := hx.2.1
  refine s_seq ?_
  refine s_region ?_
  refine l_r (r_assign rfl) rfl ?_
  refine l_nil ?_
  refine s_seq ?_
  refine s_seq ?_
  refine s_region ?_
  refine l_r (r_move rfl) rfl ?_
  refine l_r (r_len rfl el70) rfl ?_
  refine l_r (r_move rfl) rfl ?_
  refine l_nil ?_
  refine s_block ?_
  refine s_loop (fun m L wl => ∃ (k : Nat) (s : σ), L = [(8, .int .i64 ((k : Nat) : Int)), (0, .slice A xs.length c), (1, .func (.func f) #[] cap.toArray), (7, .int .i64 ((xs.length : Int)))] ∧ m = xs.length - k ∧ k ≤ xs.length ∧ foldS step s0 (xs.take k) = some s ∧ good s ∧ St 0 w0 wl (Inv s ++ H)) _ [(8, .int .i64 ((0 : Nat) : Int)), (0, .slice A xs.length c), (1, .func (.func f) #[] cap.toArray), (7, .int .i64 ((xs.length : Int)))] (.cons rfl (.cons rfl (.cons rfl (.cons rfl .nil)))) ⟨0, s0, rfl, rfl, Nat.zero_le _, rfl, hg, hs0⟩ ?_
  rintro _ _ w1 ⟨k, s, rfl, rfl, hkk, hfs, hgs, hs1⟩
  refine s_seq ?_
  refine s_region ?_
  refine l_r (r_cmp rfl rfl rfl) rfl ?_
  refine l_nil ?_
  refine s_seq ?_
  refine s_part (dj := 9) rfl (fun hc2 => ?_) (fun hc2 => ?_)
  ·
    have hc2p := of_decide_eq_true hc2
    refine s_then rfl ?_
    refine s_skip ?_
    refine s_seq ?_
    refine s_block ?_
    refine s_seq ?_
    refine s_region ?_
    refine l_r (r_move rfl) rfl ?_
    refine l_r (r_assign rfl) rfl ?_
    refine l_nil ?_
    refine s_seq ?_
    refine s_region ?_
    refine l_r (r_move rfl) rfl ?_
    refine l_r (r_move rfl) rfl ?_
    refine l_r (r_move rfl) rfl ?_
    obtain ⟨e3x, e3h, e3b, e3o, e3cs, e3A, _, e3K, e3c⟩ := hx.get_ (i := k) (by omega)
    obtain rfl : e3cs = [.int .i64 e3x.From, .int .i64 e3x.Len, .bool e3x.Write] := e3K
    refine l_r (r_indexA rfl e3A rfl (by omega) (by omega) el70) rfl ?_
    refine l_r (r_loadN rfl ag156 (e3c.on hs1) sz156) rfl ?_
    refine l_call rfl rfl hf rfl (hdo w1 H s e3x [.int .i64 e3x.From, .int .i64 e3x.Len, .bool e3x.Write] hgs (hd _ (List.mem_of_getElem? e3h)) rfl hs1) ?_
    rintro _ w4 (⟨s1, rfl, hst, hg1, hs4⟩ | ⟨rfl, hst, hs4⟩)
    ·
      refine ⟨_, rfl, ?_⟩
      refine l_nil ?_
      refine s_else rfl ?_
      refine s_skip ?_
      refine s_mark ?_
      refine s_region ?_
      refine l_r (r_inc rfl (by omega)) rfl ?_
      refine l_r (r_move rfl) rfl ?_
      refine l_nil ?_
      refine s_again ?_
      exact ⟨_, [(8, .int .i64 (((k + 1) : Nat) : Int)), (0, .slice A xs.length c), (1, .func (.func f) #[] cap.toArray), (7, .int .i64 ((xs.length : Int)))], by omega, (.cons rfl (.cons rfl (.cons rfl (.cons rfl .nil)))), ⟨(k + 1), s1, rfl, rfl, by omega, foldS_next hfs e3h hst, hg1, hs4⟩⟩
    ·
      refine ⟨_, rfl, ?_⟩
      refine l_nil ?_
      refine s_then rfl ?_
      refine s_seq ?_
      refine s_region ?_
      refine l_r (r_move rfl) rfl ?_
      refine l_r (r_assign rfl) rfl ?_
      refine l_nil ?_
      refine s_ret ?_
      exact q_done (.inr rfl) (.tmp rfl .nil) ⟨_, rfl, .inr ⟨by omega, foldS_stop hfs e3h hst, hs4⟩⟩
  ·
    have hc2p := of_decide_eq_false hc2
    refine s_else rfl ?_
    refine s_exit rfl ?_
    refine s_seq ?_
    refine s_region ?_
    refine l_r (r_assign rfl) rfl ?_
    refine l_nil ?_
    refine s_ret ?_
    exact q_done (.inr rfl) (.tmp rfl .nil) ⟨_, rfl, .inl ⟨rfl, s, foldS_end hfs (by omega), hgs, hs1⟩⟩

set_option maxRecDepth 100000 in
theorem co84 {σ : Type} {w0 w : World} {H : List Res} {ok : Nat → Prop} {good : σ → Prop} {dom : TRegion → Prop} {Inv : σ → List Res} {step : σ → TRegion → Option σ} {s0 : σ} {xs : List TRegion} {A : Option Addr} {c f : Nat} {cap : List Value} (hs0 : St 0 w0 w (Inv s0 ++ H)) (hx : Sl Kd.region w0 ok A c xs) (hf : fnOk Try.prog f = true) (hg : good s0) (hd : ∀ x, x ∈ xs → dom x) (hdo : FnOk Try.prog f cap Kd.region mkA true false w0 ok good dom Inv step) :
    Calls Try.prog 84 #[.slice A xs.length c, .func (.func f) #[] cap.toArray] w (fun e w' => (∃ s', e = .returned (.bool false) ∧ foldS step s0 xs = some s' ∧ good s' ∧ St 0 w0 w' (Inv s' ++ H)) ∨ (e = .returned (.bool true) ∧ foldS step s0 xs = none ∧ St 0 w0 w' H)) := by
  refine q_call (n := 9) (args := [.slice A xs.length c, .func (.func f) #[] cap.toArray]) Try.func84 rfl rfl rfl ?_
  have hs0 := hs0
  refine s_seq ?_
  refine s_region ?_
  refine l_r (r_assign rfl) rfl ?_
  refine l_nil ?_
  refine s_seq ?_
  refine s_region ?_
  refine l_r (r_move rfl) rfl ?_
  refine l_r (r_move rfl) rfl ?_
  refine l_call rfl rfl fk101 rfl (ix101 hs0 hx hf hg hd hdo) ?_
  rintro _ w1 ⟨i, rfl, ⟨rfl, s1, hfs, hg1, hs1⟩ | ⟨hi, hfs, hs1⟩⟩
  ·
    refine ⟨_, rfl, ?_⟩
    refine l_r (r_cmp rfl rfl (b := false) (by decide)) rfl ?_
    refine l_r (r_assign rfl) rfl ?_
    refine l_nil ?_
    refine s_ret ?_
    exact q_done (.inr rfl) (.tmp rfl .nil) (.inl ⟨s1, rfl, hfs, hg1, hs1⟩)
  ·
    refine ⟨_, rfl, ?_⟩
    refine l_r (r_cmp rfl rfl (b := true) (congrArg some (decide_eq_true hi))) rfl ?_
    refine l_r (r_assign rfl) rfl ?_
    refine l_nil ?_
    refine s_ret ?_
    exact q_done (.inr rfl) (.tmp rfl .nil) (.inr ⟨rfl, hfs, hs1⟩)

end Go.Proofs.Ytfhghnhgcdiknaa
