/- What may be: numbers, objects, processes. -/
import Derived.Test.YtfhghnhgcdiknaaWzi
set_option linter.unusedVariables false
set_option linter.unusedSimpArgs false
namespace Go.Proofs.Ytfhghnhgcdiknaa
open Go.RowKit
def inr (n a b : Int) : Bool := decide (n ≥ a) && decide (n ≤ b)
theorem inr_iff {n a b : Int} : inr n a b = true ↔ a ≤ n ∧ n ≤ b := by simp [inr]
def pstep {τ : Type} (p : τ → Bool) : Unit → τ → Option Unit := fun _ x => if p x then some () else none
theorem foldS_pure {τ : Type} {p : τ → Bool} : ∀ {l : List τ} {s : Unit}, foldS (pstep p) s l = if l.all p then some () else none
  | [], _ => rfl
  | x :: l, s => by
    by_cases hp : p x = true
    · simp [foldS, pstep, hp, foldS_pure (l := l)]
    · simp [foldS, pstep, hp]
theorem fnOk_pure {τ : Type} {P : Program} {f : Nat} {cap : List Value} {d : Kd τ} {mk : List Value → Value} {w0 : World} {ok : Nat → Prop} {p : τ → Bool} (h : ∀ w, Ext w0 w → ∀ ok x cs, d.K w ok x cs → Calls P f (mk cs :: cap).toArray w (fun e w' => e = .returned (.bool (p x)) ∧ St 0 w w' [])) :
    FnOk P f cap d mk false true w0 ok (fun _ => True) (fun _ => True) (fun _ : Unit => []) (pstep p) :=
  fun w H s x cs _ _ hK hs => (h w hs.toExt ok x cs (d.on hK hs)).mono (fun e w' ⟨he, hc⟩ => by
    cases hp : p x with
    | true => exact .inl ⟨(), by rw [he, hp], by simp [pstep, hp], trivial, hs.call0 hc⟩
    | false => exact .inr ⟨by rw [he, hp], by simp [pstep, hp], hs.call0 hc⟩)

theorem alp34 (w : World) {ok : Nat → Prop} {xs : List Int} {A : Option Addr} {c f : Nat} {cap : List Value} {n : Int} {p : Int → Bool} (hx : Sl Kd.int w ok A c xs) (hf : fnOk Try.prog f = true) (h : ∀ w1, Ext w w1 → ∀ ok x cs, Kd.int.K w1 ok x cs → Calls Try.prog f (mkI cs :: cap).toArray w1 (fun e w' => e = .returned (.bool (p x)) ∧ St 0 w1 w' [])) :
    Calls Try.prog 34 #[.slice A xs.length c, .int .i64 n, .func (.func f) #[] cap.toArray] w (fun e w' => e = .returned (.bool (decide ((xs.length : Int) ≤ n) && xs.all p)) ∧ St 0 w w' []) :=
  (al34 (σ := Unit) (Inv := fun _ => []) (H := []) (s0 := ()) (n := n) (St.refl 0 w) hx hf trivial (fun _ _ => trivial) (fnOk_pure h)).mono (by
    rintro e w' (⟨s', rfl, hn, hf, _, hs⟩ | ⟨rfl, hn, hs⟩)
    · rw [foldS_pure] at hf
      split at hf
      · rename_i ha
        exact ⟨by rw [ha, decide_eq_true hn]; rfl, hs⟩
      · cases hf
    · refine ⟨?_, hs⟩
      rcases hn with hn | hn
      · rw [decide_eq_false (by omega), Bool.false_and]
      · rw [foldS_pure] at hn
        split at hn
        · cases hn
        · rename_i ha
          rw [eq_false_of_ne_true ha, Bool.and_false])

theorem alp35 (w : World) {ok : Nat → Prop} {xs : List TPartConf} {A : Option Addr} {c f : Nat} {cap : List Value} {n : Int} {p : TPartConf → Bool} (hx : Sl Kd.partConf w ok A c xs) (hf : fnOk Try.prog f = true) (h : ∀ w1, Ext w w1 → ∀ ok x cs, Kd.partConf.K w1 ok x cs → Calls Try.prog f (mkA cs :: cap).toArray w1 (fun e w' => e = .returned (.bool (p x)) ∧ St 0 w1 w' [])) :
    Calls Try.prog 35 #[.slice A xs.length c, .int .i64 n, .func (.func f) #[] cap.toArray] w (fun e w' => e = .returned (.bool (decide ((xs.length : Int) ≤ n) && xs.all p)) ∧ St 0 w w' []) :=
  (al35 (σ := Unit) (Inv := fun _ => []) (H := []) (s0 := ()) (n := n) (St.refl 0 w) hx hf trivial (fun _ _ => trivial) (fnOk_pure h)).mono (by
    rintro e w' (⟨s', rfl, hn, hf, _, hs⟩ | ⟨rfl, hn, hs⟩)
    · rw [foldS_pure] at hf
      split at hf
      · rename_i ha
        exact ⟨by rw [ha, decide_eq_true hn]; rfl, hs⟩
      · cases hf
    · refine ⟨?_, hs⟩
      rcases hn with hn | hn
      · rw [decide_eq_false (by omega), Bool.false_and]
      · rw [foldS_pure] at hn
        split at hn
        · cases hn
        · rename_i ha
          rw [eq_false_of_ne_true ha, Bool.and_false])

theorem alp58 (w : World) {ok : Nat → Prop} {xs : List TProcConf} {A : Option Addr} {c f : Nat} {cap : List Value} {n : Int} {p : TProcConf → Bool} (hx : Sl Kd.procConf w ok A c xs) (hf : fnOk Try.prog f = true) (h : ∀ w1, Ext w w1 → ∀ ok x cs, Kd.procConf.K w1 ok x cs → Calls Try.prog f (mkA cs :: cap).toArray w1 (fun e w' => e = .returned (.bool (p x)) ∧ St 0 w1 w' [])) :
    Calls Try.prog 58 #[.slice A xs.length c, .int .i64 n, .func (.func f) #[] cap.toArray] w (fun e w' => e = .returned (.bool (decide ((xs.length : Int) ≤ n) && xs.all p)) ∧ St 0 w w' []) :=
  (al58 (σ := Unit) (Inv := fun _ => []) (H := []) (s0 := ()) (n := n) (St.refl 0 w) hx hf trivial (fun _ _ => trivial) (fnOk_pure h)).mono (by
    rintro e w' (⟨s', rfl, hn, hf, _, hs⟩ | ⟨rfl, hn, hs⟩)
    · rw [foldS_pure] at hf
      split at hf
      · rename_i ha
        exact ⟨by rw [ha, decide_eq_true hn]; rfl, hs⟩
      · cases hf
    · refine ⟨?_, hs⟩
      rcases hn with hn | hn
      · rw [decide_eq_false (by omega), Bool.false_and]
      · rw [foldS_pure] at hn
        split at hn
        · cases hn
        · rename_i ha
          rw [eq_false_of_ne_true ha, Bool.and_false])

theorem alp60 (w : World) {ok : Nat → Prop} {xs : List TBufferConf} {A : Option Addr} {c f : Nat} {cap : List Value} {n : Int} {p : TBufferConf → Bool} (hx : Sl Kd.bufferConf w ok A c xs) (hf : fnOk Try.prog f = true) (h : ∀ w1, Ext w w1 → ∀ ok x cs, Kd.bufferConf.K w1 ok x cs → Calls Try.prog f (mkA cs :: cap).toArray w1 (fun e w' => e = .returned (.bool (p x)) ∧ St 0 w1 w' [])) :
    Calls Try.prog 60 #[.slice A xs.length c, .int .i64 n, .func (.func f) #[] cap.toArray] w (fun e w' => e = .returned (.bool (decide ((xs.length : Int) ≤ n) && xs.all p)) ∧ St 0 w w' []) :=
  (al60 (σ := Unit) (Inv := fun _ => []) (H := []) (s0 := ()) (n := n) (St.refl 0 w) hx hf trivial (fun _ _ => trivial) (fnOk_pure h)).mono (by
    rintro e w' (⟨s', rfl, hn, hf, _, hs⟩ | ⟨rfl, hn, hs⟩)
    · rw [foldS_pure] at hf
      split at hf
      · rename_i ha
        exact ⟨by rw [ha, decide_eq_true hn]; rfl, hs⟩
      · cases hf
    · refine ⟨?_, hs⟩
      rcases hn with hn | hn
      · rw [decide_eq_false (by omega), Bool.false_and]
      · rw [foldS_pure] at hn
        split at hn
        · cases hn
        · rename_i ha
          rw [eq_false_of_ne_true ha, Bool.and_false])

theorem alp61 (w : World) {ok : Nat → Prop} {xs : List TSemaConf} {A : Option Addr} {c f : Nat} {cap : List Value} {n : Int} {p : TSemaConf → Bool} (hx : Sl Kd.semaConf w ok A c xs) (hf : fnOk Try.prog f = true) (h : ∀ w1, Ext w w1 → ∀ ok x cs, Kd.semaConf.K w1 ok x cs → Calls Try.prog f (mkA cs :: cap).toArray w1 (fun e w' => e = .returned (.bool (p x)) ∧ St 0 w1 w' [])) :
    Calls Try.prog 61 #[.slice A xs.length c, .int .i64 n, .func (.func f) #[] cap.toArray] w (fun e w' => e = .returned (.bool (decide ((xs.length : Int) ≤ n) && xs.all p)) ∧ St 0 w w' []) :=
  (al61 (σ := Unit) (Inv := fun _ => []) (H := []) (s0 := ()) (n := n) (St.refl 0 w) hx hf trivial (fun _ _ => trivial) (fnOk_pure h)).mono (by
    rintro e w' (⟨s', rfl, hn, hf, _, hs⟩ | ⟨rfl, hn, hs⟩)
    · rw [foldS_pure] at hf
      split at hf
      · rename_i ha
        exact ⟨by rw [ha, decide_eq_true hn]; rfl, hs⟩
      · cases hf
    · refine ⟨?_, hs⟩
      rcases hn with hn | hn
      · rw [decide_eq_false (by omega), Bool.false_and]
      · rw [foldS_pure] at hn
        split at hn
        · cases hn
        · rename_i ha
          rw [eq_false_of_ne_true ha, Bool.and_false])

theorem alp62 (w : World) {ok : Nat → Prop} {xs : List TWindow} {A : Option Addr} {c f : Nat} {cap : List Value} {n : Int} {p : TWindow → Bool} (hx : Sl Kd.window w ok A c xs) (hf : fnOk Try.prog f = true) (h : ∀ w1, Ext w w1 → ∀ ok x cs, Kd.window.K w1 ok x cs → Calls Try.prog f (mkA cs :: cap).toArray w1 (fun e w' => e = .returned (.bool (p x)) ∧ St 0 w1 w' [])) :
    Calls Try.prog 62 #[.slice A xs.length c, .int .i64 n, .func (.func f) #[] cap.toArray] w (fun e w' => e = .returned (.bool (decide ((xs.length : Int) ≤ n) && xs.all p)) ∧ St 0 w w' []) :=
  (al62 (σ := Unit) (Inv := fun _ => []) (H := []) (s0 := ()) (n := n) (St.refl 0 w) hx hf trivial (fun _ _ => trivial) (fnOk_pure h)).mono (by
    rintro e w' (⟨s', rfl, hn, hf, _, hs⟩ | ⟨rfl, hn, hs⟩)
    · rw [foldS_pure] at hf
      split at hf
      · rename_i ha
        exact ⟨by rw [ha, decide_eq_true hn]; rfl, hs⟩
      · cases hf
    · refine ⟨?_, hs⟩
      rcases hn with hn | hn
      · rw [decide_eq_false (by omega), Bool.false_and]
      · rw [foldS_pure] at hn
        split at hn
        · cases hn
        · rename_i ha
          rw [eq_false_of_ne_true ha, Bool.and_false])

theorem alp64 (w : World) {ok : Nat → Prop} {xs : List TChannel} {A : Option Addr} {c f : Nat} {cap : List Value} {n : Int} {p : TChannel → Bool} (hx : Sl Kd.channel w ok A c xs) (hf : fnOk Try.prog f = true) (h : ∀ w1, Ext w w1 → ∀ ok x cs, Kd.channel.K w1 ok x cs → Calls Try.prog f (mkA cs :: cap).toArray w1 (fun e w' => e = .returned (.bool (p x)) ∧ St 0 w1 w' [])) :
    Calls Try.prog 64 #[.slice A xs.length c, .int .i64 n, .func (.func f) #[] cap.toArray] w (fun e w' => e = .returned (.bool (decide ((xs.length : Int) ≤ n) && xs.all p)) ∧ St 0 w w' []) :=
  (al64 (σ := Unit) (Inv := fun _ => []) (H := []) (s0 := ()) (n := n) (St.refl 0 w) hx hf trivial (fun _ _ => trivial) (fnOk_pure h)).mono (by
    rintro e w' (⟨s', rfl, hn, hf, _, hs⟩ | ⟨rfl, hn, hs⟩)
    · rw [foldS_pure] at hf
      split at hf
      · rename_i ha
        exact ⟨by rw [ha, decide_eq_true hn]; rfl, hs⟩
      · cases hf
    · refine ⟨?_, hs⟩
      rcases hn with hn | hn
      · rw [decide_eq_false (by omega), Bool.false_and]
      · rw [foldS_pure] at hn
        split at hn
        · cases hn
        · rename_i ha
          rw [eq_false_of_ne_true ha, Bool.and_false])

set_option maxRecDepth 100000 in
theorem between_ok (w : World) (n a b : Int) :
    Calls Try.prog 33 #[.int .i64 n, .int .i64 a, .int .i64 b] w (fun e w' => e = .returned (.bool (inr n a b)) ∧ St 0 w w' []) := by
  refine q_call (n := 15) (args := [.int .i64 n, .int .i64 a, .int .i64 b]) Try.func33 rfl rfl rfl ?_
  have hs0 := St.refl 0 w
  refine s_seq ?_
  refine s_region ?_
  refine l_r (r_assign rfl) rfl ?_
  refine l_nil ?_
  refine s_seq ?_
  refine s_region ?_
  refine l_r (r_move rfl) rfl ?_
  refine l_r (r_move rfl) rfl ?_
  refine l_r (r_cmp rfl rfl rfl) rfl ?_
  refine l_r (r_move rfl) rfl ?_
  refine l_part (dj := 10) rfl (fun hc1 => ?_) (fun hc1 => ?_)
  ·
    have hc1p := of_decide_eq_true hc1
    refine l_on (dj := 10) rfl rfl rfl ?_
    refine l_r (r_move rfl) rfl ?_
    refine l_on (dj := 10) rfl rfl rfl ?_
    refine l_r (r_move rfl) rfl ?_
    refine l_on (dj := 10) rfl rfl rfl ?_
    refine l_r (r_cmp rfl rfl rfl) rfl ?_
    refine l_r (r_pick_t rfl rfl) rfl ?_
    refine l_r (r_assign rfl) rfl ?_
    refine l_nil ?_
    refine s_ret ?_
    exact q_done (.inr rfl) (.tmp rfl .nil) ⟨congrArg Ending.returned (congrArg Value.bool (by rw [inr, decide_eq_true hc1p, Bool.true_and])), hs0⟩
  ·
    have hc1p := of_decide_eq_false hc1
    refine l_off (dj := 10) (b := false) rfl rfl rfl rfl rfl ?_
    refine l_off (dj := 10) (b := false) rfl rfl rfl rfl rfl ?_
    refine l_off (dj := 10) (b := false) rfl rfl rfl rfl rfl ?_
    refine l_r (r_pick_f rfl rfl) rfl ?_
    refine l_r (r_assign rfl) rfl ?_
    refine l_nil ?_
    refine s_ret ?_
    exact q_done (.inr rfl) (.tmp rfl .nil) ⟨congrArg Ending.returned (congrArg Value.bool (by rw [inr, decide_eq_false hc1p, Bool.false_and])), hs0⟩

def bufB (x : TBufferConf) : Bool := inr x.Depth 1 8

set_option maxRecDepth 100000 in
theorem cl52 (w : World) (ok : Nat → Prop) (x : TBufferConf) (cs : List Value) (hK : Kd.bufferConf.K w ok x cs) :
    Calls Try.prog 52 #[mkA cs] w (fun e w' => e = .returned (.bool (bufB x)) ∧ St 0 w w' []) := by
  refine q_call (n := 6) (args := [mkA cs]) Try.func52 rfl rfl rfl ?_
  have hs0 := St.refl 0 w
  have hK0 := hK
  obtain rfl : cs = [.int .i64 x.Depth, .bool x.Ranked] := hK
  refine s_seq ?_
  refine s_region ?_
  refine l_box rfl rfl rfl hs0 ?_
  intro w1 b1 hb1 hx1 hs1
  refine l_r (r_assign rfl) rfl ?_
  refine l_nil ?_
  refine s_seq ?_
  refine s_region ?_
  refine l_r (r_field rfl fo114_0) rfl ?_
  refine l_r (r_load1p rfl hs1 Repl.here ag3 rfl) rfl ?_
  refine l_call rfl rfl fk33 rfl (between_ok w1 x.Depth 1 8) ?_
  rintro _ w2 ⟨rfl, hc2⟩
  have hs2 := hs1.call0 hc2
  refine ⟨_, rfl, ?_⟩
  refine l_r (r_assign rfl) rfl ?_
  refine l_nil ?_
  refine s_ret ?_
  exact q_done (.inr rfl) (.tmp rfl .nil) ⟨congrArg Ending.returned (congrArg Value.bool (by simp [bufB])), hs2.tail⟩

def semB (x : TSemaConf) : Bool := inr x.Most 1 8 && inr x.Count 0 x.Most

set_option maxRecDepth 100000 in
theorem cl53 (w : World) (ok : Nat → Prop) (x : TSemaConf) (cs : List Value) (hK : Kd.semaConf.K w ok x cs) :
    Calls Try.prog 53 #[mkA cs] w (fun e w' => e = .returned (.bool (semB x)) ∧ St 0 w w' []) := by
  refine q_call (n := 13) (args := [mkA cs]) Try.func53 rfl rfl rfl ?_
  have hs0 := St.refl 0 w
  have hK0 := hK
  obtain rfl : cs = [.int .i64 x.Count, .int .i64 x.Most, .bool x.Ranked] := hK
  refine s_seq ?_
  refine s_region ?_
  refine l_box rfl rfl rfl hs0 ?_
  intro w1 b1 hb1 hx1 hs1
  refine l_r (r_assign rfl) rfl ?_
  refine l_nil ?_
  refine s_seq ?_
  refine s_region ?_
  refine l_r (r_field rfl fo117_1) rfl ?_
  refine l_r (r_load1p rfl hs1 Repl.here ag3 rfl) rfl ?_
  refine l_call rfl rfl fk33 rfl (between_ok w1 x.Most 1 8) ?_
  rintro _ w2 ⟨rfl, hc2⟩
  have hs2 := hs1.call0 hc2
  refine ⟨_, rfl, ?_⟩
  refine l_r (r_move rfl) rfl ?_
  refine l_part (dj := 6) rfl (fun hc3 => ?_) (fun hc3 => ?_)
  ·
    refine l_on (dj := 6) rfl rfl rfl ?_
    refine l_r (r_field rfl fo117_0) rfl ?_
    refine l_on (dj := 6) rfl rfl rfl ?_
    refine l_r (r_load1p rfl hs2 Repl.here ag3 rfl) rfl ?_
    refine l_on (dj := 6) rfl rfl rfl ?_
    refine l_r (r_field rfl fo117_1) rfl ?_
    refine l_on (dj := 6) rfl rfl rfl ?_
    refine l_r (r_load1p rfl hs2 Repl.here ag3 rfl) rfl ?_
    refine l_on (dj := 6) rfl rfl rfl ?_
    refine l_call rfl rfl fk33 rfl (between_ok w2 x.Count 0 x.Most) ?_
    rintro _ w4 ⟨rfl, hc4⟩
    have hs4 := hs2.call0 hc4
    refine ⟨_, rfl, ?_⟩
    refine l_r (r_pick_t rfl rfl) rfl ?_
    refine l_r (r_assign rfl) rfl ?_
    refine l_nil ?_
    refine s_ret ?_
    exact q_done (.inr rfl) (.tmp rfl .nil) ⟨congrArg Ending.returned (congrArg Value.bool (by simp [semB, hc3])), hs4.tail⟩
  ·
    refine l_off (dj := 6) (b := false) rfl rfl rfl rfl rfl ?_
    refine l_off (dj := 6) (b := false) rfl rfl rfl rfl rfl ?_
    refine l_off (dj := 6) (b := false) rfl rfl rfl rfl rfl ?_
    refine l_off (dj := 6) (b := false) rfl rfl rfl rfl rfl ?_
    refine l_off (dj := 6) (b := false) rfl rfl rfl rfl rfl ?_
    refine l_r (r_pick_f rfl rfl) rfl ?_
    refine l_r (r_assign rfl) rfl ?_
    refine l_nil ?_
    refine s_ret ?_
    exact q_done (.inr rfl) (.tmp rfl .nil) ⟨congrArg Ending.returned (congrArg Value.bool (by simp [semB, hc3])), hs2.tail⟩

def samB (x : Int) : Bool := inr x 0 4096

set_option maxRecDepth 100000 in
theorem cl54 (w : World) (ok : Nat → Prop) (x : Int) (cs : List Value) (hK : Kd.int.K w ok x cs) :
    Calls Try.prog 54 #[mkI cs] w (fun e w' => e = .returned (.bool (samB x)) ∧ St 0 w w' []) := by
  refine q_call (n := 5) (args := [mkI cs]) Try.func54 rfl rfl rfl ?_
  have hs0 := St.refl 0 w
  obtain rfl : cs = [.int .i64 x] := hK
  refine s_seq ?_
  refine s_region ?_
  refine l_r (r_assign rfl) rfl ?_
  refine l_nil ?_
  refine s_seq ?_
  refine s_region ?_
  refine l_r (r_move rfl) rfl ?_
  refine l_call rfl rfl fk33 rfl (between_ok w x 0 4096) ?_
  rintro _ w1 ⟨rfl, hc1⟩
  have hs1 := hs0.call0 hc1
  refine ⟨_, rfl, ?_⟩
  refine l_r (r_assign rfl) rfl ?_
  refine l_nil ?_
  refine s_ret ?_
  exact q_done (.inr rfl) (.tmp rfl .nil) ⟨congrArg Ending.returned (congrArg Value.bool (by simp [samB])), hs1⟩

def queB (x : Int) : Bool := inr x 1 8

set_option maxRecDepth 100000 in
theorem cl55 (w : World) (ok : Nat → Prop) (x : Int) (cs : List Value) (hK : Kd.int.K w ok x cs) :
    Calls Try.prog 55 #[mkI cs] w (fun e w' => e = .returned (.bool (queB x)) ∧ St 0 w w' []) := by
  refine q_call (n := 5) (args := [mkI cs]) Try.func55 rfl rfl rfl ?_
  have hs0 := St.refl 0 w
  obtain rfl : cs = [.int .i64 x] := hK
  refine s_seq ?_
  refine s_region ?_
  refine l_r (r_assign rfl) rfl ?_
  refine l_nil ?_
  refine s_seq ?_
  refine s_region ?_
  refine l_r (r_move rfl) rfl ?_
  refine l_call rfl rfl fk33 rfl (between_ok w x 1 8) ?_
  rintro _ w1 ⟨rfl, hc1⟩
  have hs1 := hs0.call0 hc1
  refine ⟨_, rfl, ?_⟩
  refine l_r (r_assign rfl) rfl ?_
  refine l_nil ?_
  refine s_ret ?_
  exact q_done (.inr rfl) (.tmp rfl .nil) ⟨congrArg Ending.returned (congrArg Value.bool (by simp [queB])), hs1⟩

def actB (x : Int) : Bool := inr x 0 4

set_option maxRecDepth 100000 in
theorem cl56 (w : World) (ok : Nat → Prop) (x : Int) (cs : List Value) (hK : Kd.int.K w ok x cs) :
    Calls Try.prog 56 #[mkI cs] w (fun e w' => e = .returned (.bool (actB x)) ∧ St 0 w w' []) := by
  refine q_call (n := 5) (args := [mkI cs]) Try.func56 rfl rfl rfl ?_
  have hs0 := St.refl 0 w
  obtain rfl : cs = [.int .i64 x] := hK
  refine s_seq ?_
  refine s_region ?_
  refine l_r (r_assign rfl) rfl ?_
  refine l_nil ?_
  refine s_seq ?_
  refine s_region ?_
  refine l_r (r_move rfl) rfl ?_
  refine l_call rfl rfl fk33 rfl (between_ok w x 0 4) ?_
  rintro _ w1 ⟨rfl, hc1⟩
  have hs1 := hs0.call0 hc1
  refine ⟨_, rfl, ?_⟩
  refine l_r (r_assign rfl) rfl ?_
  refine l_nil ?_
  refine s_ret ?_
  exact q_done (.inr rfl) (.tmp rfl .nil) ⟨congrArg Ending.returned (congrArg Value.bool (by simp [actB])), hs1⟩

def procB (x : TProcConf) : Bool := inr x.Prio 0 15 && (inr x.Period 0 4096 && (inr x.Limit 0 4096 && inr x.Entry 0 63))

set_option maxRecDepth 100000 in
theorem cl59 (w : World) (ok : Nat → Prop) (x : TProcConf) (cs : List Value) (hK : Kd.procConf.K w ok x cs) :
    Calls Try.prog 59 #[mkA cs] w (fun e w' => e = .returned (.bool (procB x)) ∧ St 0 w w' []) := by
  refine q_call (n := 21) (args := [mkA cs]) Try.func59 rfl rfl rfl ?_
  have hs0 := St.refl 0 w
  have hK0 := hK
  obtain rfl : cs = [.int .i64 x.Prio, .int .i64 x.Period, .int .i64 x.Limit, .int .i64 x.Entry, .bool x.Auto] := hK
  refine s_seq ?_
  refine s_region ?_
  refine l_box rfl rfl rfl hs0 ?_
  intro w1 b1 hb1 hx1 hs1
  refine l_r (r_assign rfl) rfl ?_
  refine l_nil ?_
  refine s_seq ?_
  refine s_region ?_
  refine l_r (r_field rfl fo122_0) rfl ?_
  refine l_r (r_load1p rfl hs1 Repl.here ag3 rfl) rfl ?_
  refine l_call rfl rfl fk33 rfl (between_ok w1 x.Prio 0 15) ?_
  rintro _ w2 ⟨rfl, hc2⟩
  have hs2 := hs1.call0 hc2
  refine ⟨_, rfl, ?_⟩
  refine l_r (r_move rfl) rfl ?_
  refine l_part (dj := 6) rfl (fun hc3 => ?_) (fun hc3 => ?_)
  ·
    refine l_on (dj := 6) rfl rfl rfl ?_
    refine l_r (r_field rfl fo122_1) rfl ?_
    refine l_on (dj := 6) rfl rfl rfl ?_
    refine l_r (r_load1p rfl hs2 Repl.here ag3 rfl) rfl ?_
    refine l_on (dj := 6) rfl rfl rfl ?_
    refine l_call rfl rfl fk33 rfl (between_ok w2 x.Period 0 4096) ?_
    rintro _ w4 ⟨rfl, hc4⟩
    have hs4 := hs2.call0 hc4
    refine ⟨_, rfl, ?_⟩
    refine l_r (r_pick_t rfl rfl) rfl ?_
    refine l_r (r_move rfl) rfl ?_
    refine l_part (dj := 11) rfl (fun hc5 => ?_) (fun hc5 => ?_)
    ·
      refine l_on (dj := 11) rfl rfl rfl ?_
      refine l_r (r_field rfl fo122_2) rfl ?_
      refine l_on (dj := 11) rfl rfl rfl ?_
      refine l_r (r_load1p rfl hs4 Repl.here ag3 rfl) rfl ?_
      refine l_on (dj := 11) rfl rfl rfl ?_
      refine l_call rfl rfl fk33 rfl (between_ok w4 x.Limit 0 4096) ?_
      rintro _ w6 ⟨rfl, hc6⟩
      have hs6 := hs4.call0 hc6
      refine ⟨_, rfl, ?_⟩
      refine l_r (r_pick_t rfl rfl) rfl ?_
      refine l_r (r_move rfl) rfl ?_
      refine l_part (dj := 16) rfl (fun hc7 => ?_) (fun hc7 => ?_)
      ·
        refine l_on (dj := 16) rfl rfl rfl ?_
        refine l_r (r_field rfl fo122_3) rfl ?_
        refine l_on (dj := 16) rfl rfl rfl ?_
        refine l_r (r_load1p rfl hs6 Repl.here ag3 rfl) rfl ?_
        refine l_on (dj := 16) rfl rfl rfl ?_
        refine l_call rfl rfl fk33 rfl (between_ok w6 x.Entry 0 63) ?_
        rintro _ w8 ⟨rfl, hc8⟩
        have hs8 := hs6.call0 hc8
        refine ⟨_, rfl, ?_⟩
        refine l_r (r_pick_t rfl rfl) rfl ?_
        refine l_r (r_assign rfl) rfl ?_
        refine l_nil ?_
        refine s_ret ?_
        exact q_done (.inr rfl) (.tmp rfl .nil) ⟨congrArg Ending.returned (congrArg Value.bool (by simp [procB, hc3, hc5, hc7])), hs8.tail⟩
      ·
        refine l_off (dj := 16) (b := false) rfl rfl rfl rfl rfl ?_
        refine l_off (dj := 16) (b := false) rfl rfl rfl rfl rfl ?_
        refine l_off (dj := 16) (b := false) rfl rfl rfl rfl rfl ?_
        refine l_r (r_pick_f rfl rfl) rfl ?_
        refine l_r (r_assign rfl) rfl ?_
        refine l_nil ?_
        refine s_ret ?_
        exact q_done (.inr rfl) (.tmp rfl .nil) ⟨congrArg Ending.returned (congrArg Value.bool (by simp [procB, hc3, hc5, hc7])), hs6.tail⟩
    ·
      refine l_off (dj := 11) (b := false) rfl rfl rfl rfl rfl ?_
      refine l_off (dj := 11) (b := false) rfl rfl rfl rfl rfl ?_
      refine l_off (dj := 11) (b := false) rfl rfl rfl rfl rfl ?_
      refine l_r (r_pick_f rfl rfl) rfl ?_
      refine l_r (r_move rfl) rfl ?_
      refine l_off (dj := 16) (b := false) rfl rfl rfl rfl rfl ?_
      refine l_off (dj := 16) (b := false) rfl rfl rfl rfl rfl ?_
      refine l_off (dj := 16) (b := false) rfl rfl rfl rfl rfl ?_
      refine l_r (r_pick_f rfl rfl) rfl ?_
      refine l_r (r_assign rfl) rfl ?_
      refine l_nil ?_
      refine s_ret ?_
      exact q_done (.inr rfl) (.tmp rfl .nil) ⟨congrArg Ending.returned (congrArg Value.bool (by simp [procB, hc3, hc5])), hs4.tail⟩
  ·
    refine l_off (dj := 6) (b := false) rfl rfl rfl rfl rfl ?_
    refine l_off (dj := 6) (b := false) rfl rfl rfl rfl rfl ?_
    refine l_off (dj := 6) (b := false) rfl rfl rfl rfl rfl ?_
    refine l_r (r_pick_f rfl rfl) rfl ?_
    refine l_r (r_move rfl) rfl ?_
    refine l_off (dj := 11) (b := false) rfl rfl rfl rfl rfl ?_
    refine l_off (dj := 11) (b := false) rfl rfl rfl rfl rfl ?_
    refine l_off (dj := 11) (b := false) rfl rfl rfl rfl rfl ?_
    refine l_r (r_pick_f rfl rfl) rfl ?_
    refine l_r (r_move rfl) rfl ?_
    refine l_off (dj := 16) (b := false) rfl rfl rfl rfl rfl ?_
    refine l_off (dj := 16) (b := false) rfl rfl rfl rfl rfl ?_
    refine l_off (dj := 16) (b := false) rfl rfl rfl rfl rfl ?_
    refine l_r (r_pick_f rfl rfl) rfl ?_
    refine l_r (r_assign rfl) rfl ?_
    refine l_nil ?_
    refine s_ret ?_
    exact q_done (.inr rfl) (.tmp rfl .nil) ⟨congrArg Ending.returned (congrArg Value.bool (by simp [procB, hc3])), hs2.tail⟩

end Go.Proofs.Ytfhghnhgcdiknaa
