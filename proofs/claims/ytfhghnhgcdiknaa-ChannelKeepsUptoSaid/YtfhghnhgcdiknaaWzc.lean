/- Without channels nothing is brought; moving changes nothing but ports. -/
import Derived.Test.YtfhghnhgcdiknaaWzb
set_option linter.unusedVariables false
namespace Go.Proofs.Ytfhghnhgcdiknaa
open Go.RowKit
theorem r_neb_eq {P : Program} {n : Nat} {L : Slots} {w : World} {d ty : Nat} {pos : String} {af : Array Edge} {x y : Operand} {t t' : TypeId} {p q : Bool} (hx : ev L x = some (.bool p)) (hy : ev L y = some (.bool q)) (ht : P.underlying t = some .bool) (h : p = q) : Runs P n L ⟨some d, .binOp .neq t x y t', ty, pos, af, none⟩ (.bool false) w := by
  subst h
  exact r_neb_same hx hy ht
theorem r_eqb_eq {P : Program} {n : Nat} {L : Slots} {w : World} {d ty : Nat} {pos : String} {af : Array Edge} {x y : Operand} {t t' : TypeId} {p q : Bool} (hx : ev L x = some (.bool p)) (hy : ev L y = some (.bool q)) (ht : P.underlying t = some .bool) (h : p = q) : Runs P n L ⟨some d, .binOp .eql t x y t', ty, pos, af, none⟩ (.bool true) w := by
  subst h
  exact r_eqb_same hx hy ht
theorem none_rch {cf : TConfig} {part p : Int} (h : Rch { cf with Channels := [] } part p) : p = part := by
  induction h with
  | self => rfl
  | from_ hx => cases hx
  | to_ hx => cases hx
theorem none_reach {cf : TConfig} {part : Int} {k : Nat} {b : Bool} (h : (reachV { cf with Channels := [] } part)[k]? = some b) : b = ((k : Int) == part) := by
  obtain ⟨_, _, hr⟩ := reachV_get h
  by_cases e : (k : Int) = part
  · rw [show ((k : Int) == part) = true from beq_iff_eq.2 e, hr, e]
    exact .self
  · rw [show ((k : Int) == part) = false from beq_eq_false_iff_ne.2 e]
    cases b with
    | false => rfl
    | true => exact absurd (none_rch (hr.1 rfl)) e
theorem reachV_len {cf : TConfig} {part : Int} (h : inR cf part) : (reachV cf part).length = cf.Parts.length := by rw [reachV_in h, reachL_len]
theorem none_len {cf : TConfig} {part : Int} (h : part ≥ 0) : decide ((((reachV { cf with Channels := [] } part).length : Nat) : Int) > 0) = decide (part < (cf.Parts.length : Int)) := by
  by_cases hp : part < (cf.Parts.length : Int)
  · rw [reachV_len (cf := { cf with Channels := [] }) ⟨h, hp⟩, decide_eq_true hp]
    exact decide_eq_true (by simp only; omega)
  · rw [reachV_out (cf := { cf with Channels := [] }) (fun h => hp h.2), decide_eq_false hp]
    rfl
theorem none_neg {cf : TConfig} {part : Int} (h : ¬ part ≥ 0) : decide ((((reachV { cf with Channels := [] } part).length : Nat) : Int) > 0) = false := by
  rw [reachV_out (fun h' => h h'.1)]
  rfl
def strip (p : TPart) : TPart := { p with Samples := [], Queues := [] }
theorem strip_putQ (ps : List TPart) (i a : Nat) (q : TQueue) : (putQP ps i a q).map (fun p => (strip p, p.Samples.length, p.Queues.length)) = ps.map (fun p => (strip p, p.Samples.length, p.Queues.length)) := by
  apply List.ext_getElem?
  intro k
  unfold putQP
  simp only [List.getElem?_map, List.getElem?_modify]
  cases ps[k]? with
  | none => simp
  | some p => by_cases e : i = k <;> simp [e, strip]
theorem strip_putS (ps : List TPart) (i a : Nat) (q : TSample) : (putSP ps i a q).map (fun p => (strip p, p.Samples.length, p.Queues.length)) = ps.map (fun p => (strip p, p.Samples.length, p.Queues.length)) := by
  apply List.ext_getElem?
  intro k
  unfold putSP
  simp only [List.getElem?_map, List.getElem?_modify]
  cases ps[k]? with
  | none => simp
  | some p => by_cases e : i = k <;> simp [e, strip]
theorem strip_step (ps : List TPart) (x : TChannel) : (stepL ps x).map (fun p => (strip p, p.Samples.length, p.Queues.length)) = ps.map (fun p => (strip p, p.Samples.length, p.Queues.length)) := by
  unfold stepL
  split
  · split
    · split
      · split
        · rw [strip_putQ, strip_putQ]
        · rfl
      · split
        · rw [strip_putS]
        · rfl
    · rfl
  · rfl
theorem strip_fold (xs : List TChannel) : ∀ ps : List TPart, (xs.foldl stepL ps).map (fun p => (strip p, p.Samples.length, p.Queues.length)) = ps.map (fun p => (strip p, p.Samples.length, p.Queues.length)) := by
  induction xs with
  | nil => intro ps; rfl
  | cons x xs ih => intro ps; rw [List.foldl_cons, ih, strip_step]
theorem moveL_rest {cf : TConfig} {ps : List TPart} {k : Nat} {p q : TPart} (hp : ps[k]? = some p) (hq : (moveL cf ps)[k]? = some q) : strip q = strip p ∧ q.Samples.length = p.Samples.length ∧ q.Queues.length = p.Queues.length := by
  have h := congrArg (fun l => l[k]?) (strip_fold cf.Channels ps)
  simp only [List.getElem?_map] at h
  unfold moveL at hq
  rw [hp, hq] at h
  simpa using h

set_option maxRecDepth 100000 in
set_option maxHeartbeats 4000000 in
theorem channelNone_any {cf : TConfig} {pl : List Value} {ps : List TPart} {A : Option Addr} {c : Nat} {part : Int} (w : World) {ok ok2 : Nat → Prop} (hKl : Kd.config.K w ok cf pl) (hx : Sl Kd.part w ok2 A c ps) (hsm : ∀ p, p ∈ ps → PartSmall p) :
    Calls Try.prog 7 #[.agg pl.toArray, .slice A ps.length c, .int .i64 part] w (fun e w' => e = .returned (.bool true) ∧ Ext w w') := by
  refine q_call (n := 62) (args := [.agg pl.toArray, .slice A ps.length c, .int .i64 part]) Try.func7 rfl rfl rfl ?_
  have hs0 := St.refl 0 w
  have hKl0 := hKl
  obtain ⟨Al_2, cl_2, Al_3, cl_3, Al_4, cl_4, Al_5, cl_5, rfl, hl_2, hl_3, hl_4, hl_5⟩ := hKl
  have hle2 := hl_2.len
  have hle3 := hl_3.len
  have hle4 := hl_4.len
  have hle5 := hl_5.len
  have hKn : Kd.config.K w ok { cf with Channels := [] } [.int .i64 cf.Frame, .int .i64 cf.Switch, .slice Al_2 cf.Lines.length cl_2, .slice Al_3 cf.Parts.length cl_3, .slice Al_4 cf.Windows.length cl_4, .slice none 0 0] := ⟨_, _, _, _, _, _, none, 0, rfl, hl_2, hl_3, hl_4, Sl.nil _ _ _ _ (by decide)⟩
  have hlx := hx.len
  refine s_seq ?_
  refine s_region ?_
  refine l_box rfl rfl rfl hs0 ?_
  intro w1 b3 hb3 hx1 hs1
  refine l_r (r_assign rfl) rfl ?_
  refine l_nil ?_
  refine s_seq ?_
  refine s_region ?_
  refine l_call rfl rfl fk9 rfl (awake_ok w1) ?_
  rintro _ w2 ⟨rfl, hx2⟩
  have hs2 := hs1.ext hx2
  refine ⟨_, rfl, ?_⟩
  refine l_r (r_assign rfl) rfl ?_
  refine l_nil ?_
  refine s_seq ?_
  refine s_region ?_
  refine l_r (r_loadNp rfl hs2 Repl.here ag27 sz27) rfl ?_
  refine l_r (r_move rfl) rfl ?_
  refine l_call rfl rfl fk10 rfl (few_any w2 (Kd.config.on hKl0 hs2) (hx.onk hs2) hsm) ?_
  rintro _ w3 ⟨bb3, rfl, hb3, hc3⟩
  have hs3 := hs2.call0 hc3
  refine ⟨_, rfl, ?_⟩
  refine l_r (r_assign rfl) rfl ?_
  refine l_nil ?_
  refine s_seq ?_
  refine s_seq ?_
  refine s_region ?_
  refine l_r (r_move rfl) rfl ?_
  refine l_r (r_not rfl) rfl ?_
  refine l_r (r_move rfl) rfl ?_
  refine l_on (dj := 18) rfl rfl rfl ?_
  refine l_r (r_move rfl) rfl ?_
  refine l_on (dj := 18) rfl rfl rfl ?_
  refine l_r (r_not rfl) rfl ?_
  refine l_r (r_pick_f rfl rfl) rfl ?_
  refine l_nil ?_
  refine s_part (dj := 21) rfl (fun hc4 => ?_) (fun hc4 => ?_)
  ·
    have hc4n := Bool.not_eq_true' _ |>.mp hc4
    refine s_then rfl ?_
    refine s_seq ?_
    refine s_region ?_
    refine l_r (r_move rfl) rfl ?_
    refine l_r (r_assign rfl) rfl ?_
    refine l_nil ?_
    refine s_ret ?_
    exact q_done (.inr rfl) (.tmp rfl .nil) ⟨rfl, hs3.toExt⟩
  ·
    have hc4n := Bool.not_eq_false' _ |>.mp hc4
    refine s_else rfl ?_
    refine s_skip ?_
    refine s_seq ?_
    obtain ⟨hfc, hn8, hq20⟩ := hb3 hc4n
    refine s_region ?_
    refine l_r (r_field rfl fo27_5) rfl ?_
    refine l_store1 rfl rfl rfl sz25 (Nat.zero_le _) hs3 Repl.here rfl ?_
    intro w5 hz5 hk5 hs5
    refine l_nil ?_
    refine s_seq ?_
    refine s_region ?_
    refine l_r (r_loadNp rfl hs5 Repl.here ag27 sz27) rfl ?_
    refine l_r (r_move rfl) rfl ?_
    have hcall := move_val w5 (Kd.config.on hKn hs5) (hx.onk hs5) (by omega) hsm hq20 (show 20 * 2 ^ ([] : List TChannel).length ≤ 100000000 by decide)
    rw [show moveL { cf with Channels := [] } ps = ps from rfl] at hcall
    refine l_call rfl rfl fk12 rfl hcall ?_
    rintro _ w6 ⟨Am, cm, rfl, hx6, hm⟩
    have hs6 := hs5.ext hx6
    refine ⟨_, rfl, ?_⟩
    have hcb3 : Cells w6 b3 0 [.int .i64 cf.Frame, .int .i64 cf.Switch, .slice Al_2 cf.Lines.length cl_2, .slice Al_3 cf.Parts.length cl_3, .slice Al_4 cf.Windows.length cl_4, .slice none 0 0] := heap_all (hs6.get (r := .pt b3 _ _) List.mem_cons_self)
    have hl_2 := (hl_2.onk hs6).all_ (by decide)
    have hl_3 := (hl_3.onk hs6).all_ (by decide)
    have hl_4 := (hl_4.onk hs6).all_ (by decide)
    have hl_5 := (hl_5.onk hs6).all_ (by decide)
    have hx := (hx.onk hs6).all_ (by decide)
    have hKn := Kd.config.on hKn hs6
    have hxb := hs6.toExt
    have hs7 := St.refl w6.heap.size w6
    refine l_r (r_move rfl) rfl ?_
    refine l_call rfl rfl fk11 rfl (same_parts w6 (hm.onk hs7) (hx.onk hs7)) ?_
    rintro _ w8 ⟨rfl, hc8⟩
    have hs8 := hs7.call0 hc8
    refine ⟨_, rfl, ?_⟩
    refine l_r (r_assign rfl) rfl ?_
    refine l_nil ?_
    refine s_seq ?_
    refine s_region ?_
    refine l_r (r_loadN rfl ag27 (hcb3.on hs8) sz27) rfl ?_
    refine l_r (r_move rfl) rfl ?_
    have hcall := reach_val (part := part) w8 (Kd.config.on hKn hs8) (show cf.Parts.length ≤ 2000000 from Nat.le_trans hfc.2.1 (by decide))
    refine l_call rfl rfl fk14 rfl hcall ?_
    rintro _ w9 ⟨Ar, cr, rfl, hx9, hr⟩
    have hs9 := hs8.ext hx9
    refine ⟨_, rfl, ?_⟩
    have hl_2 := (hl_2.onk hs9).all_ (by decide)
    have hl_3 := (hl_3.onk hs9).all_ (by decide)
    have hl_4 := (hl_4.onk hs9).all_ (by decide)
    have hl_5 := (hl_5.onk hs9).all_ (by decide)
    have hx := (hx.onk hs9).all_ (by decide)
    have hcb3 := hcb3.on hs9
    have hm := (hm.onk hs9).all_ (by decide)
    have hKn := Kd.config.on hKn hs9
    have hxb := hxb.trans hs9.toExt
    have hs10 := St.refl w9.heap.size w9
    have hlr := hr.len
    refine l_r (r_assign rfl) rfl ?_
    refine l_nil ?_
    refine s_seq ?_
    refine s_seq ?_
    refine s_region ?_
    refine l_r (r_assign rfl) rfl ?_
    refine l_nil ?_
    refine s_block ?_
    refine s_loop (fun m L wl => ∃ (k : Nat), L = [(11, .int .i64 ((k : Nat) : Int)), (2, .int .i64 part), (3, .pointer (some ⟨b3, 0 + 0, none⟩)), (9, .bool true), (10, .slice Ar ((reachV { cf with Channels := [] } part)).length cr)] ∧ m = (reachV { cf with Channels := [] } part).length - k ∧ k ≤ (reachV { cf with Channels := [] } part).length ∧ St w9.heap.size w9 wl []) _ [(11, .int .i64 ((0 : Nat) : Int)), (2, .int .i64 part), (3, .pointer (some ⟨b3, 0 + 0, none⟩)), (9, .bool true), (10, .slice Ar ((reachV { cf with Channels := [] } part)).length cr)] (.cons rfl (.cons rfl (.cons rfl (.cons rfl (.cons rfl .nil))))) ⟨0, rfl, rfl, Nat.zero_le _, hs10⟩ ?_
    rintro _ _ w11 ⟨k, rfl, rfl, hkk, hs11⟩
    refine s_seq ?_
    refine s_seq ?_
    refine s_region ?_
    refine l_r (r_move rfl) rfl ?_
    refine l_r (r_move rfl) rfl ?_
    refine l_r (r_len rfl el35) rfl ?_
    refine l_r (r_cmp rfl rfl rfl) rfl ?_
    refine l_nil ?_
    refine s_part (dj := 35) rfl (fun hc12 => ?_) (fun hc12 => ?_)
    ·
      have hc12p := of_decide_eq_true hc12
      refine s_then rfl ?_
      refine s_skip ?_
      refine s_seq ?_
      refine s_block ?_
      refine s_seq ?_
      refine s_region ?_
      refine l_r (r_move rfl) rfl ?_
      refine l_r (r_move rfl) rfl ?_
      obtain ⟨e13x, e13h, e13b, e13o, e13cs, e13A, _, e13K, e13c⟩ := hr.get_ (i := k) (by omega)
      obtain rfl : e13cs = [.bool e13x] := e13K
      refine l_r (r_indexA rfl e13A rfl (by omega) (by omega) el35) rfl ?_
      refine l_r (r_load1 rfl ag4 ((e13c.on hs11).get (j := 0) rfl)) rfl ?_
      refine l_r (r_move rfl) rfl ?_
      refine l_r (r_move rfl) rfl ?_
      refine l_r (r_cmp rfl rfl rfl) rfl ?_
      refine l_r (r_neb_eq rfl rfl Try.underlying4 (none_reach e13h)) rfl ?_
      refine l_nil ?_
      refine s_else rfl ?_
      refine s_skip ?_
      refine s_mark ?_
      refine s_region ?_
      refine l_r (r_move rfl) rfl ?_
      refine l_r (r_inc rfl (by omega)) rfl ?_
      refine l_r (r_assign rfl) rfl ?_
      refine l_nil ?_
      refine s_again ?_
      exact ⟨_, [(11, .int .i64 (((k + 1) : Nat) : Int)), (2, .int .i64 part), (3, .pointer (some ⟨b3, 0 + 0, none⟩)), (9, .bool true), (10, .slice Ar ((reachV { cf with Channels := [] } part)).length cr)], by omega, (.cons rfl (.cons rfl (.cons rfl (.cons rfl (.cons rfl .nil))))), ⟨(k + 1), rfl, rfl, by omega, hs11⟩⟩
    ·
      have hc12p := of_decide_eq_false hc12
      refine s_else rfl ?_
      refine s_exit rfl ?_
      refine s_seq ?_
      refine s_region ?_
      refine l_r (r_move rfl) rfl ?_
      refine l_r (r_move rfl) rfl ?_
      refine l_on (dj := 47) rfl rfl rfl ?_
      refine l_r (r_move rfl) rfl ?_
      refine l_on (dj := 47) rfl rfl rfl ?_
      refine l_r (r_len rfl el35) rfl ?_
      refine l_on (dj := 47) rfl rfl rfl ?_
      refine l_r (r_cmp rfl rfl rfl) rfl ?_
      refine l_on (dj := 47) rfl rfl rfl ?_
      refine l_r (r_move rfl) rfl ?_
      refine l_on (dj := 47) rfl rfl rfl ?_
      refine l_r (r_cmp rfl rfl rfl) rfl ?_
      refine l_on (dj := 47) rfl rfl rfl ?_
      refine l_r (r_move rfl) rfl ?_
      refine l_part (dj := 53) rfl (fun hc14 => ?_) (fun hc14 => ?_)
      ·
        have hc14p := of_decide_eq_true hc14
        refine l_on (dj := 53) rfl rfl rfl ?_
        refine l_r (r_move rfl) rfl ?_
        refine l_on (dj := 53) rfl rfl rfl ?_
        refine l_r (r_field rfl fo27_3) rfl ?_
        refine l_on (dj := 53) rfl rfl rfl ?_
        refine l_r (r_load1 rfl ag23 ((hcb3.on hs11).get (j := 3) rfl)) rfl ?_
        refine l_on (dj := 53) rfl rfl rfl ?_
        refine l_r (r_len rfl el23) rfl ?_
        refine l_on (dj := 53) rfl rfl rfl ?_
        refine l_r (r_cmp rfl rfl rfl) rfl ?_
        refine l_on (dj := 47) rfl rfl rfl ?_
        refine l_r (r_pick_t rfl rfl) rfl ?_
        refine l_on (dj := 47) rfl rfl rfl ?_
        refine l_r (r_eqb_eq rfl rfl Try.underlying4 (none_len hc14p)) rfl ?_
        refine l_r (r_pick_t rfl rfl) rfl ?_
        refine l_r (r_assign rfl) rfl ?_
        refine l_nil ?_
        refine s_ret ?_
        exact q_done (.inr rfl) (.tmp rfl .nil) ⟨rfl, hxb.trans hs11.toExt⟩
      ·
        have hc14p := of_decide_eq_false hc14
        refine l_off (dj := 53) (b := false) rfl rfl rfl rfl rfl ?_
        refine l_off (dj := 53) (b := false) rfl rfl rfl rfl rfl ?_
        refine l_off (dj := 53) (b := false) rfl rfl rfl rfl rfl ?_
        refine l_off (dj := 53) (b := false) rfl rfl rfl rfl rfl ?_
        refine l_off (dj := 53) (b := false) rfl rfl rfl rfl rfl ?_
        refine l_on (dj := 47) rfl rfl rfl ?_
        refine l_r (r_pick_f rfl rfl) rfl ?_
        refine l_on (dj := 47) rfl rfl rfl ?_
        refine l_r (r_eqb_eq rfl rfl Try.underlying4 (none_neg hc14p)) rfl ?_
        refine l_r (r_pick_t rfl rfl) rfl ?_
        refine l_r (r_assign rfl) rfl ?_
        refine l_nil ?_
        refine s_ret ?_
        exact q_done (.inr rfl) (.tmp rfl .nil) ⟨rfl, hxb.trans hs11.toExt⟩

set_option maxRecDepth 100000 in
set_option maxHeartbeats 4000000 in
theorem channelRest_any {cf : TConfig} {pl : List Value} {ps : List TPart} {A : Option Addr} {c : Nat} (w : World) {ok ok2 : Nat → Prop} (hKl : Kd.config.K w ok cf pl) (hx : Sl Kd.part w ok2 A c ps) (hsm : ∀ p, p ∈ ps → PartSmall p) :
    Calls Try.prog 6 #[.agg pl.toArray, .slice A ps.length c] w (fun e w' => e = .returned (.bool true) ∧ Ext w w') := by
  refine q_call (n := 84) (args := [.agg pl.toArray, .slice A ps.length c]) Try.func6 rfl rfl rfl ?_
  have hs0 := St.refl 0 w
  have hKl0 := hKl
  obtain ⟨Al_2, cl_2, Al_3, cl_3, Al_4, cl_4, Al_5, cl_5, rfl, hl_2, hl_3, hl_4, hl_5⟩ := hKl
  have hle2 := hl_2.len
  have hle3 := hl_3.len
  have hle4 := hl_4.len
  have hle5 := hl_5.len
  have hlx := hx.len
  refine s_seq ?_
  refine s_region ?_
  refine l_box rfl rfl rfl hs0 ?_
  intro w1 b2 hb2 hx1 hs1
  refine l_r (r_assign rfl) rfl ?_
  refine l_nil ?_
  refine s_seq ?_
  refine s_region ?_
  refine l_call rfl rfl fk9 rfl (awake_ok w1) ?_
  rintro _ w2 ⟨rfl, hx2⟩
  have hs2 := hs1.ext hx2
  refine ⟨_, rfl, ?_⟩
  refine l_r (r_assign rfl) rfl ?_
  refine l_nil ?_
  refine s_seq ?_
  refine s_region ?_
  refine l_r (r_loadNp rfl hs2 Repl.here ag27 sz27) rfl ?_
  refine l_r (r_move rfl) rfl ?_
  refine l_call rfl rfl fk10 rfl (few_any w2 (Kd.config.on hKl0 hs2) (hx.onk hs2) hsm) ?_
  rintro _ w3 ⟨bb3, rfl, hb3, hc3⟩
  have hs3 := hs2.call0 hc3
  refine ⟨_, rfl, ?_⟩
  refine l_r (r_assign rfl) rfl ?_
  refine l_nil ?_
  refine s_seq ?_
  refine s_seq ?_
  refine s_region ?_
  refine l_r (r_move rfl) rfl ?_
  refine l_r (r_not rfl) rfl ?_
  refine l_r (r_move rfl) rfl ?_
  refine l_on (dj := 18) rfl rfl rfl ?_
  refine l_r (r_move rfl) rfl ?_
  refine l_on (dj := 18) rfl rfl rfl ?_
  refine l_r (r_not rfl) rfl ?_
  refine l_r (r_pick_f rfl rfl) rfl ?_
  refine l_nil ?_
  refine s_part (dj := 21) rfl (fun hc4 => ?_) (fun hc4 => ?_)
  ·
    have hc4n := Bool.not_eq_true' _ |>.mp hc4
    refine s_then rfl ?_
    refine s_seq ?_
    refine s_region ?_
    refine l_r (r_move rfl) rfl ?_
    refine l_r (r_assign rfl) rfl ?_
    refine l_nil ?_
    refine s_ret ?_
    exact q_done (.inr rfl) (.tmp rfl .nil) ⟨rfl, hs3.toExt⟩
  ·
    have hc4n := Bool.not_eq_false' _ |>.mp hc4
    refine s_else rfl ?_
    refine s_skip ?_
    refine s_seq ?_
    obtain ⟨hfc, hn8, hq20⟩ := hb3 hc4n
    have hml := moveL_len cf ps
    have hpow : 20 * 2 ^ cf.Channels.length ≤ 100000000 := Nat.le_trans (Nat.mul_le_mul_left _ (Nat.pow_le_pow_right (by decide) hfc.2.2.2.1)) (by decide)
    refine s_region ?_
    refine l_r (r_loadNp rfl hs3 Repl.here ag27 sz27) rfl ?_
    refine l_r (r_move rfl) rfl ?_
    have hcall := move_val w3 (Kd.config.on hKl0 hs3) (hx.onk hs3) (by omega) hsm hq20 hpow
    refine l_call rfl rfl fk12 rfl hcall ?_
    rintro _ w5 ⟨Am, cm, rfl, hx5, hm⟩
    have hs5 := hs3.ext hx5
    refine ⟨_, rfl, ?_⟩
    have hcb2 : Cells w5 b2 0 [.int .i64 cf.Frame, .int .i64 cf.Switch, .slice Al_2 cf.Lines.length cl_2, .slice Al_3 cf.Parts.length cl_3, .slice Al_4 cf.Windows.length cl_4, .slice Al_5 cf.Channels.length cl_5] := heap_all (hs5.get (r := .pt b2 _ _) List.mem_cons_self)
    have hl_2 := (hl_2.onk hs5).all_ (by decide)
    have hl_3 := (hl_3.onk hs5).all_ (by decide)
    have hl_4 := (hl_4.onk hs5).all_ (by decide)
    have hl_5 := (hl_5.onk hs5).all_ (by decide)
    have hx := (hx.onk hs5).all_ (by decide)
    have hxb := hs5.toExt
    have hs6 := St.refl w5.heap.size w5
    refine l_r (r_assign rfl) rfl ?_
    refine l_nil ?_
    refine s_seq ?_
    refine s_seq ?_
    refine s_region ?_
    refine l_r (r_move rfl) rfl ?_
    refine l_r (r_len rfl el28) rfl ?_
    refine l_r (r_move rfl) rfl ?_
    refine l_r (r_len rfl el28) rfl ?_
    refine l_r (r_cmp rfl rfl (b := false) (congrArg some (bne_eq_false_iff_eq.2 (by rw [hml])))) rfl ?_
    refine l_nil ?_
    refine s_else rfl ?_
    refine s_skip ?_
    refine s_seq ?_
    refine s_seq ?_
    refine s_region ?_
    refine l_r (r_assign rfl) rfl ?_
    refine l_nil ?_
    refine s_block ?_
    refine s_loop (fun m L wl => ∃ (k : Nat), L = [(8, .int .i64 ((k : Nat) : Int)), (1, .slice A ps.length c), (7, .slice Am ((moveL cf ps)).length cm)] ∧ m = ps.length - k ∧ k ≤ ps.length ∧ St w5.heap.size w5 wl []) _ [(8, .int .i64 ((0 : Nat) : Int)), (1, .slice A ps.length c), (7, .slice Am ((moveL cf ps)).length cm)] (.cons rfl (.cons rfl (.cons rfl .nil))) ⟨0, rfl, rfl, Nat.zero_le _, hs6⟩ ?_
    rintro _ _ w7 ⟨k, rfl, rfl, hkk, hs7⟩
    refine s_seq ?_
    refine s_seq ?_
    refine s_region ?_
    refine l_r (r_move rfl) rfl ?_
    refine l_r (r_move rfl) rfl ?_
    refine l_r (r_len rfl el28) rfl ?_
    refine l_r (r_cmp rfl rfl rfl) rfl ?_
    refine l_nil ?_
    refine s_part (dj := 34) rfl (fun hc8 => ?_) (fun hc8 => ?_)
    ·
      have hc8p := of_decide_eq_true hc8
      refine s_then rfl ?_
      refine s_skip ?_
      refine s_seq ?_
      refine s_block ?_
      refine s_seq ?_
      refine s_region ?_
      refine l_r (r_move rfl) rfl ?_
      refine l_r (r_move rfl) rfl ?_
      obtain ⟨e9x, e9h, e9b, e9o, e9cs, e9A, _, e9K, e9c⟩ := hx.get_ (i := k) (by omega)
      have e9K0 := e9K
      obtain ⟨Ae9_3, ce9_3, Ae9_4, ce9_4, Ae9_5, ce9_5, Ae9_6, ce9_6, Ae9_7, ce9_7, Ae9_8, ce9_8, Ae9_9, ce9_9, Ae9_10, ce9_10, Ae9_12, ce9_12, Ae9_14, ce9_14, rfl, he9_3, he9_4, he9_5, he9_6, he9_7, he9_8, he9_9, he9_10, he9_12, he9_14⟩ := e9K
      refine l_r (r_indexA rfl e9A rfl (by omega) (by omega) el28) rfl ?_
      refine l_r (r_loadN rfl ag48 (e9c.on hs7) sz48) rfl ?_
      refine l_alloc zz48 rfl hs7 ?_
      intro w10 b9 hb9 hx10 hs10
      refine l_storeAll rfl rfl sz48 (one_all rfl) (Nat.le_refl _) hs10 Repl.here rfl ?_
      intro w11 hz11 hk11 hs11
      refine l_nil ?_
      refine s_seq ?_
      refine s_region ?_
      refine l_r (r_move rfl) rfl ?_
      refine l_r (r_move rfl) rfl ?_
      obtain ⟨e12x, e12h, e12b, e12o, e12cs, e12A, _, e12K, e12c⟩ := hm.get_ (i := k) (by omega)
      have e12K0 := e12K
      obtain ⟨Ae12_3, ce12_3, Ae12_4, ce12_4, Ae12_5, ce12_5, Ae12_6, ce12_6, Ae12_7, ce12_7, Ae12_8, ce12_8, Ae12_9, ce12_9, Ae12_10, ce12_10, Ae12_12, ce12_12, Ae12_14, ce12_14, rfl, he12_3, he12_4, he12_5, he12_6, he12_7, he12_8, he12_9, he12_10, he12_12, he12_14⟩ := e12K
      refine l_r (r_indexA rfl e12A rfl (by omega) (by omega) el28) rfl ?_
      refine l_r (r_loadN rfl ag48 (e12c.on hs11) sz48) rfl ?_
      refine l_alloc zz48 rfl hs11 ?_
      intro w13 b10 hb10 hx13 hs13
      refine l_storeAll rfl rfl sz48 (one_all rfl) (Nat.le_refl _) hs13 Repl.here rfl ?_
      intro w14 hz14 hk14 hs14
      refine l_nil ?_
      refine s_seq ?_
      refine s_region ?_
      refine l_r (r_field rfl fo48_9) rfl ?_
      refine l_store1 rfl rfl rfl sz43 (Nat.le_refl _) hs14 (Repl.there Repl.here) rfl ?_
      intro w15 hz15 hk15 hs15
      refine l_nil ?_
      refine s_seq ?_
      refine s_region ?_
      refine l_r (r_field rfl fo48_9) rfl ?_
      refine l_store1 rfl rfl rfl sz43 (Nat.le_refl _) hs15 Repl.here rfl ?_
      intro w16 hz16 hk16 hs16
      refine l_nil ?_
      refine s_seq ?_
      refine s_region ?_
      refine l_r (r_field rfl fo48_10) rfl ?_
      refine l_store1 rfl rfl rfl sz44 (Nat.le_refl _) hs16 (Repl.there Repl.here) rfl ?_
      intro w17 hz17 hk17 hs17
      refine l_nil ?_
      refine s_seq ?_
      refine s_region ?_
      refine l_r (r_field rfl fo48_10) rfl ?_
      refine l_store1 rfl rfl rfl sz44 (Nat.le_refl _) hs17 Repl.here rfl ?_
      intro w18 hz18 hk18 hs18
      refine l_nil ?_
      refine s_seq ?_
      refine s_region ?_
      refine l_r (r_loadNp rfl hs18 (Repl.there Repl.here) ag48 sz48) rfl ?_
      refine l_r (r_loadNp rfl hs18 Repl.here ag48 sz48) rfl ?_
      obtain ⟨hst, hsl, hql⟩ := moveL_rest e9h e12h
      have hKa : Kd.part.K w5 (fun _ => True) (strip e9x) [.int .i64 e9x.Mode, .int .i64 e9x.Begun, .int .i64 e9x.Next, .slice Ae9_3 e9x.Memory.length ce9_3, .slice Ae9_4 e9x.Procs.length ce9_4, .slice Ae9_5 e9x.Boards.length ce9_5, .slice Ae9_6 e9x.Buffers.length ce9_6, .slice Ae9_7 e9x.Semas.length ce9_7, .slice Ae9_8 e9x.Events.length ce9_8, .slice none 0 0, .slice none 0 0, .int .i64 e9x.Latch.Depth, .slice Ae9_12 e9x.Latch.Lines.length ce9_12, .int .i64 e9x.Latch.Dropped, .slice Ae9_14 e9x.Given.length ce9_14] := ⟨_, _, _, _, _, _, _, _, _, _, _, _, none, 0, none, 0, _, _, _, _, rfl, he9_3, he9_4, he9_5, he9_6, he9_7, he9_8, Sl.nil _ _ _ _ (by decide), Sl.nil _ _ _ _ (by decide), he9_12, he9_14⟩
      have hKb : Kd.part.K w5 (fun _ => True) (strip e12x) [.int .i64 e12x.Mode, .int .i64 e12x.Begun, .int .i64 e12x.Next, .slice Ae12_3 e12x.Memory.length ce12_3, .slice Ae12_4 e12x.Procs.length ce12_4, .slice Ae12_5 e12x.Boards.length ce12_5, .slice Ae12_6 e12x.Buffers.length ce12_6, .slice Ae12_7 e12x.Semas.length ce12_7, .slice Ae12_8 e12x.Events.length ce12_8, .slice none 0 0, .slice none 0 0, .int .i64 e12x.Latch.Depth, .slice Ae12_12 e12x.Latch.Lines.length ce12_12, .int .i64 e12x.Latch.Dropped, .slice Ae12_14 e12x.Given.length ce12_14] := ⟨_, _, _, _, _, _, _, _, _, _, _, _, none, 0, none, 0, _, _, _, _, rfl, he12_3, he12_4, he12_5, he12_6, he12_7, he12_8, Sl.nil _ _ _ _ (by decide), Sl.nil _ _ _ _ (by decide), he12_12, he12_14⟩
      rw [hst] at hKb
      refine l_call rfl rfl fk16 rfl (same_part w18 (Kd.part.on hKa hs18) (Kd.part.on hKb hs18)) ?_
      rintro _ w19 ⟨rfl, hc19⟩
      have hs19 := hs18.call0 hc19
      refine ⟨_, rfl, ?_⟩
      refine l_r (r_assign rfl) rfl ?_
      refine l_nil ?_
      refine s_seq ?_
      refine s_quiet (by kernel_rfl) (by kernel_rfl) ?_
      refine qq_r (fun w' hw' => r_move rfl) rfl ?_
      refine qq_r (fun w' hw' => r_not rfl) rfl ?_
      refine qq_r (fun w' hw' => r_move rfl) rfl ?_
      refine qq_on (dj := 54) rfl rfl rfl ?_
      refine qq_r (fun w' hw' => r_move rfl) rfl ?_
      refine qq_on (dj := 54) rfl rfl rfl ?_
      refine qq_r (fun w' hw' => r_move rfl) rfl ?_
      refine qq_on (dj := 54) rfl rfl rfl ?_
      refine qq_r (fun w' hw' => r_indexA rfl e9A rfl (by omega) (by omega) el28) rfl ?_
      refine qq_on (dj := 54) rfl rfl rfl ?_
      refine qq_r (fun w' hw' => r_field rfl fo48_9) rfl ?_
      refine qq_on (dj := 54) rfl rfl rfl ?_
      refine qq_r (fun w' hw' => r_load1 rfl ag43 ((e9c.on (hs19.ext hw')).get (j := 9) rfl)) rfl ?_
      refine qq_on (dj := 54) rfl rfl rfl ?_
      refine qq_r (fun w' hw' => r_len rfl el43) rfl ?_
      refine qq_on (dj := 54) rfl rfl rfl ?_
      refine qq_r (fun w' hw' => r_move rfl) rfl ?_
      refine qq_on (dj := 54) rfl rfl rfl ?_
      refine qq_r (fun w' hw' => r_move rfl) rfl ?_
      refine qq_on (dj := 54) rfl rfl rfl ?_
      refine qq_r (fun w' hw' => r_indexA rfl e12A rfl (by omega) (by omega) el28) rfl ?_
      refine qq_on (dj := 54) rfl rfl rfl ?_
      refine qq_r (fun w' hw' => r_field rfl fo48_9) rfl ?_
      refine qq_on (dj := 54) rfl rfl rfl ?_
      refine qq_r (fun w' hw' => r_load1 rfl ag43 ((e12c.on (hs19.ext hw')).get (j := 9) rfl)) rfl ?_
      refine qq_on (dj := 54) rfl rfl rfl ?_
      refine qq_r (fun w' hw' => r_len rfl el43) rfl ?_
      refine qq_on (dj := 54) rfl rfl rfl ?_
      refine qq_r (fun w' hw' => r_cmp rfl rfl (b := false) (congrArg some (bne_eq_false_iff_eq.2 (by rw [hsl])))) rfl ?_
      refine qq_r (fun w' hw' => r_pick_f rfl rfl) rfl ?_
      refine qq_r (fun w' hw' => r_move rfl) rfl ?_
      refine qq_on (dj := 69) rfl rfl rfl ?_
      refine qq_r (fun w' hw' => r_move rfl) rfl ?_
      refine qq_on (dj := 69) rfl rfl rfl ?_
      refine qq_r (fun w' hw' => r_move rfl) rfl ?_
      refine qq_on (dj := 69) rfl rfl rfl ?_
      refine qq_r (fun w' hw' => r_indexA rfl e9A rfl (by omega) (by omega) el28) rfl ?_
      refine qq_on (dj := 69) rfl rfl rfl ?_
      refine qq_r (fun w' hw' => r_field rfl fo48_10) rfl ?_
      refine qq_on (dj := 69) rfl rfl rfl ?_
      refine qq_r (fun w' hw' => r_load1 rfl ag44 ((e9c.on (hs19.ext hw')).get (j := 10) rfl)) rfl ?_
      refine qq_on (dj := 69) rfl rfl rfl ?_
      refine qq_r (fun w' hw' => r_len rfl el44) rfl ?_
      refine qq_on (dj := 69) rfl rfl rfl ?_
      refine qq_r (fun w' hw' => r_move rfl) rfl ?_
      refine qq_on (dj := 69) rfl rfl rfl ?_
      refine qq_r (fun w' hw' => r_move rfl) rfl ?_
      refine qq_on (dj := 69) rfl rfl rfl ?_
      refine qq_r (fun w' hw' => r_indexA rfl e12A rfl (by omega) (by omega) el28) rfl ?_
      refine qq_on (dj := 69) rfl rfl rfl ?_
      refine qq_r (fun w' hw' => r_field rfl fo48_10) rfl ?_
      refine qq_on (dj := 69) rfl rfl rfl ?_
      refine qq_r (fun w' hw' => r_load1 rfl ag44 ((e12c.on (hs19.ext hw')).get (j := 10) rfl)) rfl ?_
      refine qq_on (dj := 69) rfl rfl rfl ?_
      refine qq_r (fun w' hw' => r_len rfl el44) rfl ?_
      refine qq_on (dj := 69) rfl rfl rfl ?_
      refine qq_r (fun w' hw' => r_cmp rfl rfl (b := false) (congrArg some (bne_eq_false_iff_eq.2 (by rw [hql])))) rfl ?_
      refine qq_r (fun w' hw' => r_pick_f rfl rfl) rfl ?_
      refine qq_nil ?_
      intro w20 hx20
      have hs20 := hs19.ext hx20
      refine s_else rfl ?_
      refine s_skip ?_
      refine s_mark ?_
      refine s_region ?_
      refine l_r (r_move rfl) rfl ?_
      refine l_r (r_inc rfl (by omega)) rfl ?_
      refine l_r (r_assign rfl) rfl ?_
      refine l_nil ?_
      refine s_again ?_
      exact ⟨_, [(8, .int .i64 (((k + 1) : Nat) : Int)), (1, .slice A ps.length c), (7, .slice Am ((moveL cf ps)).length cm)], by omega, (.cons rfl (.cons rfl (.cons rfl .nil))), ⟨(k + 1), rfl, rfl, by omega, hs20.tail.tail⟩⟩
    ·
      have hc8p := of_decide_eq_false hc8
      refine s_else rfl ?_
      refine s_exit rfl ?_
      refine s_seq ?_
      refine s_region ?_
      refine l_r (r_assign rfl) rfl ?_
      refine l_nil ?_
      refine s_ret ?_
      exact q_done (.inr rfl) (.tmp rfl .nil) ⟨rfl, hxb.trans hs7.toExt⟩

end Go.Proofs.Ytfhghnhgcdiknaa
