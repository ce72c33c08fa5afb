/- Clones. -/
import Derived.Test.YtfhghnhgcdiknaaFacts
import Derived.Test.YtfhghnhgcdiknaaMore
namespace Go.Proofs.Ytfhghnhgcdiknaa
open Go.RowKit
set_option maxRecDepth 100000 in
theorem clone41 {xs : List TWait} {A : Option Addr} {c : Nat} (w : World) {ok : Nat → Prop} (hx : Sl Kd.wait w ok A c xs) (hb : xs.length ≤ 100000000) :
    Calls Try.prog 41 #[.slice A xs.length c] w (fun e w' => ∃ v cs, e = .returned v ∧ Reps Kd.wait w ok xs cs ∧ St 0 w w' [.row 0 102 3 v xs.length cs]) := by
  refine q_call (n := 8) (args := [.slice A xs.length c]) Try.func41 rfl rfl rfl ?_
  have hs0 := St.refl 0 w
  refine s_seq ?_
  refine s_region ?_
  refine l_r (r_assign rfl) rfl ?_
  refine l_nil ?_
  refine s_seq ?_
  refine s_seq ?_
  refine s_region ?_
  refine l_r (r_move rfl) rfl ?_
  rcases A with _ | p
  ·
    refine l_r (r_eqnil rfl rfl Try.underlying89) rfl ?_
    refine l_nil ?_
    refine s_then rfl ?_
    refine s_seq ?_
    refine s_region ?_
    refine l_r (r_assign rfl) rfl ?_
    refine l_nil ?_
    refine s_ret ?_
    have hxn := hx.none_nil
    subst hxn
    exact q_done (.inr rfl) (.tmp rfl .nil) ⟨_, [], rfl, Reps.nil _ _ _, hs0.nil_row _ _ _⟩
  ·
    refine l_r (r_eqnil rfl rfl Try.underlying89) rfl ?_
    obtain ⟨cs, hR, hcl, hcs, hc1⟩ := hx.news
    refine l_nil ?_
    refine s_else rfl ?_
    refine s_skip ?_
    refine s_seq ?_
    refine s_region ?_
    refine l_bs0 Try.underlying89 sz102 rfl hs0 ?_
    intro w1 b5 hb5 hx1 hs1
    refine l_r (r_move rfl) rfl ?_
    have hr2 := hs1.pt_row (e := 102) (sz := 3) (m := 0) (base := 0) (Nat.zero_le _) rfl (by decide)
    refine l_append (news := cs) (j := xs.length) Try.underlying89 rw102 rfl rfl rfl rfl hcl (fun i u hu => cell_on (hcs i u hu) hs1) hc1 (by omega) rfl (Nat.zero_le _) (Nat.zero_le _) hr2 (fun v' => Repl.here) rfl ?_
    intro v2 w2 hz2 hk2 hs2
    rw [Nat.zero_add] at hs2
    refine l_r (r_assign rfl) rfl ?_
    refine l_nil ?_
    refine s_ret ?_
    exact q_done (.inr rfl) (.tmp rfl .nil) ⟨_, cs, rfl, hR, hs2⟩

set_option maxRecDepth 100000 in
theorem clone71 {xs : List Int} {A : Option Addr} {c : Nat} (w : World) {ok : Nat → Prop} (hx : Sl Kd.int w ok A c xs) (hb : xs.length ≤ 100000000) :
    Calls Try.prog 71 #[.slice A xs.length c] w (fun e w' => ∃ v cs, e = .returned v ∧ Reps Kd.int w ok xs cs ∧ St 0 w w' [.row 0 3 1 v xs.length cs]) := by
  refine q_call (n := 8) (args := [.slice A xs.length c]) Try.func71 rfl rfl rfl ?_
  have hs0 := St.refl 0 w
  refine s_seq ?_
  refine s_region ?_
  refine l_r (r_assign rfl) rfl ?_
  refine l_nil ?_
  refine s_seq ?_
  refine s_seq ?_
  refine s_region ?_
  refine l_r (r_move rfl) rfl ?_
  rcases A with _ | p
  ·
    refine l_r (r_eqnil rfl rfl Try.underlying22) rfl ?_
    refine l_nil ?_
    refine s_then rfl ?_
    refine s_seq ?_
    refine s_region ?_
    refine l_r (r_assign rfl) rfl ?_
    refine l_nil ?_
    refine s_ret ?_
    have hxn := hx.none_nil
    subst hxn
    exact q_done (.inr rfl) (.tmp rfl .nil) ⟨_, [], rfl, Reps.nil _ _ _, hs0.nil_row _ _ _⟩
  ·
    refine l_r (r_eqnil rfl rfl Try.underlying22) rfl ?_
    obtain ⟨cs, hR, hcl, hcs, hc1⟩ := hx.news
    refine l_nil ?_
    refine s_else rfl ?_
    refine s_skip ?_
    refine s_seq ?_
    refine s_region ?_
    refine l_bs0 Try.underlying22 sz3 rfl hs0 ?_
    intro w1 b5 hb5 hx1 hs1
    refine l_r (r_move rfl) rfl ?_
    have hr2 := hs1.pt_row (e := 3) (sz := 1) (m := 0) (base := 0) (Nat.zero_le _) rfl (by decide)
    refine l_append (news := cs) (j := xs.length) Try.underlying22 rw3 rfl rfl rfl rfl hcl (fun i u hu => cell_on (hcs i u hu) hs1) hc1 (by omega) rfl (Nat.zero_le _) (Nat.zero_le _) hr2 (fun v' => Repl.here) rfl ?_
    intro v2 w2 hz2 hk2 hs2
    rw [Nat.zero_add] at hs2
    refine l_r (r_assign rfl) rfl ?_
    refine l_nil ?_
    refine s_ret ?_
    exact q_done (.inr rfl) (.tmp rfl .nil) ⟨_, cs, rfl, hR, hs2⟩

set_option maxRecDepth 100000 in
theorem clone78 {xs : List TProc} {A : Option Addr} {c : Nat} (w : World) {ok : Nat → Prop} (hx : Sl Kd.proc w ok A c xs) (hb : xs.length ≤ 100000000) :
    Calls Try.prog 78 #[.slice A xs.length c] w (fun e w' => ∃ v cs, e = .returned v ∧ Reps Kd.proc w ok xs cs ∧ St 0 w w' [.row 0 81 18 v xs.length cs]) := by
  refine q_call (n := 8) (args := [.slice A xs.length c]) Try.func78 rfl rfl rfl ?_
  have hs0 := St.refl 0 w
  refine s_seq ?_
  refine s_region ?_
  refine l_r (r_assign rfl) rfl ?_
  refine l_nil ?_
  refine s_seq ?_
  refine s_seq ?_
  refine s_region ?_
  refine l_r (r_move rfl) rfl ?_
  rcases A with _ | p
  ·
    refine l_r (r_eqnil rfl rfl Try.underlying38) rfl ?_
    refine l_nil ?_
    refine s_then rfl ?_
    refine s_seq ?_
    refine s_region ?_
    refine l_r (r_assign rfl) rfl ?_
    refine l_nil ?_
    refine s_ret ?_
    have hxn := hx.none_nil
    subst hxn
    exact q_done (.inr rfl) (.tmp rfl .nil) ⟨_, [], rfl, Reps.nil _ _ _, hs0.nil_row _ _ _⟩
  ·
    refine l_r (r_eqnil rfl rfl Try.underlying38) rfl ?_
    obtain ⟨cs, hR, hcl, hcs, hc1⟩ := hx.news
    refine l_nil ?_
    refine s_else rfl ?_
    refine s_skip ?_
    refine s_seq ?_
    refine s_region ?_
    refine l_bs0 Try.underlying38 sz81 rfl hs0 ?_
    intro w1 b5 hb5 hx1 hs1
    refine l_r (r_move rfl) rfl ?_
    have hr2 := hs1.pt_row (e := 81) (sz := 18) (m := 0) (base := 0) (Nat.zero_le _) rfl (by decide)
    refine l_append (news := cs) (j := xs.length) Try.underlying38 rw81 rfl rfl rfl rfl hcl (fun i u hu => cell_on (hcs i u hu) hs1) hc1 (by omega) rfl (Nat.zero_le _) (Nat.zero_le _) hr2 (fun v' => Repl.here) rfl ?_
    intro v2 w2 hz2 hk2 hs2
    rw [Nat.zero_add] at hs2
    refine l_r (r_assign rfl) rfl ?_
    refine l_nil ?_
    refine s_ret ?_
    exact q_done (.inr rfl) (.tmp rfl .nil) ⟨_, cs, rfl, hR, hs2⟩

set_option maxRecDepth 100000 in
theorem clone79 {xs : List TSample} {A : Option Addr} {c : Nat} (w : World) {ok : Nat → Prop} (hx : Sl Kd.sample w ok A c xs) (hb : xs.length ≤ 100000000) :
    Calls Try.prog 79 #[.slice A xs.length c] w (fun e w' => ∃ v cs, e = .returned v ∧ Reps Kd.sample w ok xs cs ∧ St 0 w w' [.row 0 56 3 v xs.length cs]) := by
  refine q_call (n := 8) (args := [.slice A xs.length c]) Try.func79 rfl rfl rfl ?_
  have hs0 := St.refl 0 w
  refine s_seq ?_
  refine s_region ?_
  refine l_r (r_assign rfl) rfl ?_
  refine l_nil ?_
  refine s_seq ?_
  refine s_seq ?_
  refine s_region ?_
  refine l_r (r_move rfl) rfl ?_
  rcases A with _ | p
  ·
    refine l_r (r_eqnil rfl rfl Try.underlying43) rfl ?_
    refine l_nil ?_
    refine s_then rfl ?_
    refine s_seq ?_
    refine s_region ?_
    refine l_r (r_assign rfl) rfl ?_
    refine l_nil ?_
    refine s_ret ?_
    have hxn := hx.none_nil
    subst hxn
    exact q_done (.inr rfl) (.tmp rfl .nil) ⟨_, [], rfl, Reps.nil _ _ _, hs0.nil_row _ _ _⟩
  ·
    refine l_r (r_eqnil rfl rfl Try.underlying43) rfl ?_
    obtain ⟨cs, hR, hcl, hcs, hc1⟩ := hx.news
    refine l_nil ?_
    refine s_else rfl ?_
    refine s_skip ?_
    refine s_seq ?_
    refine s_region ?_
    refine l_bs0 Try.underlying43 sz56 rfl hs0 ?_
    intro w1 b5 hb5 hx1 hs1
    refine l_r (r_move rfl) rfl ?_
    have hr2 := hs1.pt_row (e := 56) (sz := 3) (m := 0) (base := 0) (Nat.zero_le _) rfl (by decide)
    refine l_append (news := cs) (j := xs.length) Try.underlying43 rw56 rfl rfl rfl rfl hcl (fun i u hu => cell_on (hcs i u hu) hs1) hc1 (by omega) rfl (Nat.zero_le _) (Nat.zero_le _) hr2 (fun v' => Repl.here) rfl ?_
    intro v2 w2 hz2 hk2 hs2
    rw [Nat.zero_add] at hs2
    refine l_r (r_assign rfl) rfl ?_
    refine l_nil ?_
    refine s_ret ?_
    exact q_done (.inr rfl) (.tmp rfl .nil) ⟨_, cs, rfl, hR, hs2⟩

set_option maxRecDepth 100000 in
theorem clone95 {xs : List TBoard} {A : Option Addr} {c : Nat} (w : World) {ok : Nat → Prop} (hx : Sl Kd.board w ok A c xs) (hb : xs.length ≤ 100000000) :
    Calls Try.prog 95 #[.slice A xs.length c] w (fun e w' => ∃ v cs, e = .returned v ∧ Reps Kd.board w ok xs cs ∧ St 0 w w' [.row 0 91 3 v xs.length cs]) := by
  refine q_call (n := 8) (args := [.slice A xs.length c]) Try.func95 rfl rfl rfl ?_
  have hs0 := St.refl 0 w
  refine s_seq ?_
  refine s_region ?_
  refine l_r (r_assign rfl) rfl ?_
  refine l_nil ?_
  refine s_seq ?_
  refine s_seq ?_
  refine s_region ?_
  refine l_r (r_move rfl) rfl ?_
  rcases A with _ | p
  ·
    refine l_r (r_eqnil rfl rfl Try.underlying39) rfl ?_
    refine l_nil ?_
    refine s_then rfl ?_
    refine s_seq ?_
    refine s_region ?_
    refine l_r (r_assign rfl) rfl ?_
    refine l_nil ?_
    refine s_ret ?_
    have hxn := hx.none_nil
    subst hxn
    exact q_done (.inr rfl) (.tmp rfl .nil) ⟨_, [], rfl, Reps.nil _ _ _, hs0.nil_row _ _ _⟩
  ·
    refine l_r (r_eqnil rfl rfl Try.underlying39) rfl ?_
    obtain ⟨cs, hR, hcl, hcs, hc1⟩ := hx.news
    refine l_nil ?_
    refine s_else rfl ?_
    refine s_skip ?_
    refine s_seq ?_
    refine s_region ?_
    refine l_bs0 Try.underlying39 sz91 rfl hs0 ?_
    intro w1 b5 hb5 hx1 hs1
    refine l_r (r_move rfl) rfl ?_
    have hr2 := hs1.pt_row (e := 91) (sz := 3) (m := 0) (base := 0) (Nat.zero_le _) rfl (by decide)
    refine l_append (news := cs) (j := xs.length) Try.underlying39 rw91 rfl rfl rfl rfl hcl (fun i u hu => cell_on (hcs i u hu) hs1) hc1 (by omega) rfl (Nat.zero_le _) (Nat.zero_le _) hr2 (fun v' => Repl.here) rfl ?_
    intro v2 w2 hz2 hk2 hs2
    rw [Nat.zero_add] at hs2
    refine l_r (r_assign rfl) rfl ?_
    refine l_nil ?_
    refine s_ret ?_
    exact q_done (.inr rfl) (.tmp rfl .nil) ⟨_, cs, rfl, hR, hs2⟩

set_option maxRecDepth 100000 in
theorem clone96 {xs : List TBuffer} {A : Option Addr} {c : Nat} (w : World) {ok : Nat → Prop} (hx : Sl Kd.buffer w ok A c xs) (hb : xs.length ≤ 100000000) :
    Calls Try.prog 96 #[.slice A xs.length c] w (fun e w' => ∃ v cs, e = .returned v ∧ Reps Kd.buffer w ok xs cs ∧ St 0 w w' [.row 0 93 4 v xs.length cs]) := by
  refine q_call (n := 8) (args := [.slice A xs.length c]) Try.func96 rfl rfl rfl ?_
  have hs0 := St.refl 0 w
  refine s_seq ?_
  refine s_region ?_
  refine l_r (r_assign rfl) rfl ?_
  refine l_nil ?_
  refine s_seq ?_
  refine s_seq ?_
  refine s_region ?_
  refine l_r (r_move rfl) rfl ?_
  rcases A with _ | p
  ·
    refine l_r (r_eqnil rfl rfl Try.underlying40) rfl ?_
    refine l_nil ?_
    refine s_then rfl ?_
    refine s_seq ?_
    refine s_region ?_
    refine l_r (r_assign rfl) rfl ?_
    refine l_nil ?_
    refine s_ret ?_
    have hxn := hx.none_nil
    subst hxn
    exact q_done (.inr rfl) (.tmp rfl .nil) ⟨_, [], rfl, Reps.nil _ _ _, hs0.nil_row _ _ _⟩
  ·
    refine l_r (r_eqnil rfl rfl Try.underlying40) rfl ?_
    obtain ⟨cs, hR, hcl, hcs, hc1⟩ := hx.news
    refine l_nil ?_
    refine s_else rfl ?_
    refine s_skip ?_
    refine s_seq ?_
    refine s_region ?_
    refine l_bs0 Try.underlying40 sz93 rfl hs0 ?_
    intro w1 b5 hb5 hx1 hs1
    refine l_r (r_move rfl) rfl ?_
    have hr2 := hs1.pt_row (e := 93) (sz := 4) (m := 0) (base := 0) (Nat.zero_le _) rfl (by decide)
    refine l_append (news := cs) (j := xs.length) Try.underlying40 rw93 rfl rfl rfl rfl hcl (fun i u hu => cell_on (hcs i u hu) hs1) hc1 (by omega) rfl (Nat.zero_le _) (Nat.zero_le _) hr2 (fun v' => Repl.here) rfl ?_
    intro v2 w2 hz2 hk2 hs2
    rw [Nat.zero_add] at hs2
    refine l_r (r_assign rfl) rfl ?_
    refine l_nil ?_
    refine s_ret ?_
    exact q_done (.inr rfl) (.tmp rfl .nil) ⟨_, cs, rfl, hR, hs2⟩

set_option maxRecDepth 100000 in
theorem clone97 {xs : List TSema} {A : Option Addr} {c : Nat} (w : World) {ok : Nat → Prop} (hx : Sl Kd.sema w ok A c xs) (hb : xs.length ≤ 100000000) :
    Calls Try.prog 97 #[.slice A xs.length c] w (fun e w' => ∃ v cs, e = .returned v ∧ Reps Kd.sema w ok xs cs ∧ St 0 w w' [.row 0 95 4 v xs.length cs]) := by
  refine q_call (n := 8) (args := [.slice A xs.length c]) Try.func97 rfl rfl rfl ?_
  have hs0 := St.refl 0 w
  refine s_seq ?_
  refine s_region ?_
  refine l_r (r_assign rfl) rfl ?_
  refine l_nil ?_
  refine s_seq ?_
  refine s_seq ?_
  refine s_region ?_
  refine l_r (r_move rfl) rfl ?_
  rcases A with _ | p
  ·
    refine l_r (r_eqnil rfl rfl Try.underlying41) rfl ?_
    refine l_nil ?_
    refine s_then rfl ?_
    refine s_seq ?_
    refine s_region ?_
    refine l_r (r_assign rfl) rfl ?_
    refine l_nil ?_
    refine s_ret ?_
    have hxn := hx.none_nil
    subst hxn
    exact q_done (.inr rfl) (.tmp rfl .nil) ⟨_, [], rfl, Reps.nil _ _ _, hs0.nil_row _ _ _⟩
  ·
    refine l_r (r_eqnil rfl rfl Try.underlying41) rfl ?_
    obtain ⟨cs, hR, hcl, hcs, hc1⟩ := hx.news
    refine l_nil ?_
    refine s_else rfl ?_
    refine s_skip ?_
    refine s_seq ?_
    refine s_region ?_
    refine l_bs0 Try.underlying41 sz95 rfl hs0 ?_
    intro w1 b5 hb5 hx1 hs1
    refine l_r (r_move rfl) rfl ?_
    have hr2 := hs1.pt_row (e := 95) (sz := 4) (m := 0) (base := 0) (Nat.zero_le _) rfl (by decide)
    refine l_append (news := cs) (j := xs.length) Try.underlying41 rw95 rfl rfl rfl rfl hcl (fun i u hu => cell_on (hcs i u hu) hs1) hc1 (by omega) rfl (Nat.zero_le _) (Nat.zero_le _) hr2 (fun v' => Repl.here) rfl ?_
    intro v2 w2 hz2 hk2 hs2
    rw [Nat.zero_add] at hs2
    refine l_r (r_assign rfl) rfl ?_
    refine l_nil ?_
    refine s_ret ?_
    exact q_done (.inr rfl) (.tmp rfl .nil) ⟨_, cs, rfl, hR, hs2⟩

set_option maxRecDepth 100000 in
theorem clone98 {xs : List TEvent} {A : Option Addr} {c : Nat} (w : World) {ok : Nat → Prop} (hx : Sl Kd.event w ok A c xs) (hb : xs.length ≤ 100000000) :
    Calls Try.prog 98 #[.slice A xs.length c] w (fun e w' => ∃ v cs, e = .returned v ∧ Reps Kd.event w ok xs cs ∧ St 0 w w' [.row 0 97 2 v xs.length cs]) := by
  refine q_call (n := 8) (args := [.slice A xs.length c]) Try.func98 rfl rfl rfl ?_
  have hs0 := St.refl 0 w
  refine s_seq ?_
  refine s_region ?_
  refine l_r (r_assign rfl) rfl ?_
  refine l_nil ?_
  refine s_seq ?_
  refine s_seq ?_
  refine s_region ?_
  refine l_r (r_move rfl) rfl ?_
  rcases A with _ | p
  ·
    refine l_r (r_eqnil rfl rfl Try.underlying42) rfl ?_
    refine l_nil ?_
    refine s_then rfl ?_
    refine s_seq ?_
    refine s_region ?_
    refine l_r (r_assign rfl) rfl ?_
    refine l_nil ?_
    refine s_ret ?_
    have hxn := hx.none_nil
    subst hxn
    exact q_done (.inr rfl) (.tmp rfl .nil) ⟨_, [], rfl, Reps.nil _ _ _, hs0.nil_row _ _ _⟩
  ·
    refine l_r (r_eqnil rfl rfl Try.underlying42) rfl ?_
    obtain ⟨cs, hR, hcl, hcs, hc1⟩ := hx.news
    refine l_nil ?_
    refine s_else rfl ?_
    refine s_skip ?_
    refine s_seq ?_
    refine s_region ?_
    refine l_bs0 Try.underlying42 sz97 rfl hs0 ?_
    intro w1 b5 hb5 hx1 hs1
    refine l_r (r_move rfl) rfl ?_
    have hr2 := hs1.pt_row (e := 97) (sz := 2) (m := 0) (base := 0) (Nat.zero_le _) rfl (by decide)
    refine l_append (news := cs) (j := xs.length) Try.underlying42 rw97 rfl rfl rfl rfl hcl (fun i u hu => cell_on (hcs i u hu) hs1) hc1 (by omega) rfl (Nat.zero_le _) (Nat.zero_le _) hr2 (fun v' => Repl.here) rfl ?_
    intro v2 w2 hz2 hk2 hs2
    rw [Nat.zero_add] at hs2
    refine l_r (r_assign rfl) rfl ?_
    refine l_nil ?_
    refine s_ret ?_
    exact q_done (.inr rfl) (.tmp rfl .nil) ⟨_, cs, rfl, hR, hs2⟩

set_option maxRecDepth 100000 in
theorem clone99 {xs : List TQueue} {A : Option Addr} {c : Nat} (w : World) {ok : Nat → Prop} (hx : Sl Kd.queue w ok A c xs) (hb : xs.length ≤ 100000000) :
    Calls Try.prog 99 #[.slice A xs.length c] w (fun e w' => ∃ v cs, e = .returned v ∧ Reps Kd.queue w ok xs cs ∧ St 0 w w' [.row 0 52 3 v xs.length cs]) := by
  refine q_call (n := 8) (args := [.slice A xs.length c]) Try.func99 rfl rfl rfl ?_
  have hs0 := St.refl 0 w
  refine s_seq ?_
  refine s_region ?_
  refine l_r (r_assign rfl) rfl ?_
  refine l_nil ?_
  refine s_seq ?_
  refine s_seq ?_
  refine s_region ?_
  refine l_r (r_move rfl) rfl ?_
  rcases A with _ | p
  ·
    refine l_r (r_eqnil rfl rfl Try.underlying44) rfl ?_
    refine l_nil ?_
    refine s_then rfl ?_
    refine s_seq ?_
    refine s_region ?_
    refine l_r (r_assign rfl) rfl ?_
    refine l_nil ?_
    refine s_ret ?_
    have hxn := hx.none_nil
    subst hxn
    exact q_done (.inr rfl) (.tmp rfl .nil) ⟨_, [], rfl, Reps.nil _ _ _, hs0.nil_row _ _ _⟩
  ·
    refine l_r (r_eqnil rfl rfl Try.underlying44) rfl ?_
    obtain ⟨cs, hR, hcl, hcs, hc1⟩ := hx.news
    refine l_nil ?_
    refine s_else rfl ?_
    refine s_skip ?_
    refine s_seq ?_
    refine s_region ?_
    refine l_bs0 Try.underlying44 sz52 rfl hs0 ?_
    intro w1 b5 hb5 hx1 hs1
    refine l_r (r_move rfl) rfl ?_
    have hr2 := hs1.pt_row (e := 52) (sz := 3) (m := 0) (base := 0) (Nat.zero_le _) rfl (by decide)
    refine l_append (news := cs) (j := xs.length) Try.underlying44 rw52 rfl rfl rfl rfl hcl (fun i u hu => cell_on (hcs i u hu) hs1) hc1 (by omega) rfl (Nat.zero_le _) (Nat.zero_le _) hr2 (fun v' => Repl.here) rfl ?_
    intro v2 w2 hz2 hk2 hs2
    rw [Nat.zero_add] at hs2
    refine l_r (r_assign rfl) rfl ?_
    refine l_nil ?_
    refine s_ret ?_
    exact q_done (.inr rfl) (.tmp rfl .nil) ⟨_, cs, rfl, hR, hs2⟩

end Go.Proofs.Ytfhghnhgcdiknaa
