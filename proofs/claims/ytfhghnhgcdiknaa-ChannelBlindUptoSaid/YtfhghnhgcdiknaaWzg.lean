/- What a partition becomes does not hang on those that do not reach it. -/
import Derived.Test.YtfhghnhgcdiknaaWzf
set_option linter.unusedVariables false
namespace Go.Proofs.Ytfhghnhgcdiknaa
open Go.RowKit
/-- Partitions that are those of ps where part is reached by them, of the first k; as many ports everywhere. -/
def Mix (cf : TConfig) (part : Int) (ps ns : List TPart) (k : Nat) : Prop := ∀ j : Nat, j < k → ∃ p q, ps[j]? = some p ∧ ns[j]? = some q ∧ (Rch cf part (j : Int) → q = p) ∧ q.Queues.length = p.Queues.length ∧ q.Samples.length = p.Samples.length
theorem Mix.nil (cf : TConfig) (part : Int) (ps ns : List TPart) : Mix cf part ps ns 0 := fun j hj => by omega
theorem Mix.step {cf : TConfig} {part : Int} {ps ns ns' : List TPart} {k : Nat} {p q : TPart} (h : Mix cf part ps ns k) (hn : ∀ j : Nat, j < k → ns'[j]? = ns[j]?) (hp : ps[k]? = some p) (hq : ns'[k]? = some q) (hr : Rch cf part (k : Int) → q = p) (h1 : q.Queues.length = p.Queues.length) (h2 : q.Samples.length = p.Samples.length) : Mix cf part ps ns' (k + 1) := by
  intro j hj
  by_cases e : j = k
  · subst e
    exact ⟨p, q, hp, hq, hr, h1, h2⟩
  · rw [hn j (by omega)]
    exact h j (by omega)
theorem Mix.agree {cf : TConfig} {part : Int} {ps ns : List TPart} (h : Mix cf part ps ns ps.length) (hl : ns.length = ps.length) (hc : ps.length = cf.Parts.length) : Agree cf part ps ns := by
  refine ⟨hc, fun j hr => ?_, ?_⟩
  · by_cases hj : j < ps.length
    · obtain ⟨p, q, hp, hq, he, _⟩ := h j hj
      rw [hp, hq, he hr]
    · rw [List.getElem?_eq_none (by omega), List.getElem?_eq_none (by omega)]
  · apply List.ext_getElem?
    intro j
    simp only [List.getElem?_map]
    by_cases hj : j < ps.length
    · obtain ⟨p, q, hp, hq, _, h1, h2⟩ := h j hj
      rw [hp, hq]
      simp [h1, h2]
    · rw [List.getElem?_eq_none (by omega), List.getElem?_eq_none (by omega)]
theorem set_before {α : Type} {xs : List α} {k j : Nat} {x : α} (h : j < k) : (xs.set k x)[j]? = xs[j]? := by rw [List.getElem?_set, if_neg (by omega)]
theorem set_at {α : Type} {xs : List α} {k : Nat} {x y : α} (hk : k < xs.length) (h : (xs.set k x)[k]? = some y) : y = x := by
  rw [List.getElem?_set_self hk] at h
  exact (Option.some.inj h).symm

set_option maxRecDepth 100000 in
set_option maxHeartbeats 4000000 in
theorem channelBlind_any {cf : TConfig} {pl : List Value} {ps qs : List TPart} {A A2 : Option Addr} {c c2 : Nat} {part : Int} (w : World) {ok ok2 ok3 : Nat → Prop} (hKl : Kd.config.K w ok cf pl) (hx : Sl Kd.part w ok2 A c ps) (hy : Sl Kd.part w ok3 A2 c2 qs) (hsm : ∀ p, p ∈ ps → PartSmall p) (hsm2 : ∀ p, p ∈ qs → PartSmall p) :
    Calls Try.prog 4 #[.agg pl.toArray, .slice A ps.length c, .slice A2 qs.length c2, .int .i64 part] w (fun e w' => e = .returned (.bool true) ∧ Ext w w') := by
  refine q_call (n := 144) (args := [.agg pl.toArray, .slice A ps.length c, .slice A2 qs.length c2, .int .i64 part]) Try.func4 rfl rfl rfl ?_
  have hs0 := St.refl 0 w
  have hKl0 := hKl
  obtain ⟨Al_2, cl_2, Al_3, cl_3, Al_4, cl_4, Al_5, cl_5, rfl, hl_2, hl_3, hl_4, hl_5⟩ := hKl
  have hle2 := hl_2.len
  have hle3 := hl_3.len
  have hle4 := hl_4.len
  have hle5 := hl_5.len
  have hlx := hx.len
  have hly := hy.len
  refine s_seq ?_
  refine s_region ?_
  refine l_box rfl rfl rfl hs0 ?_
  intro w1 b4 hb4 hx1 hs1
  refine l_r (r_assign rfl) rfl ?_
  refine l_nil ?_
  refine s_seq ?_
  refine s_region ?_
  refine l_call rfl rfl fk9 rfl (awake_ok w1) ?_
  rintro _ w2 ⟨rfl, hx2⟩
  have hs2 := hs1.ext hx2
  refine ⟨_, rfl, ?_⟩
  refine l_r (r_assign rfl) rfl ?_
  refine l_nil ?_
  refine s_seq ?_
  refine s_region ?_
  refine l_r (r_loadNp rfl hs2 Repl.here ag27 sz27) rfl ?_
  refine l_r (r_move rfl) rfl ?_
  refine l_call rfl rfl fk10 rfl (few_any w2 (Kd.config.on hKl0 hs2) (hx.onk hs2) hsm) ?_
  rintro _ w3 ⟨bb3, rfl, hb3, hc3⟩
  have hs3 := hs2.call0 hc3
  refine ⟨_, rfl, ?_⟩
  refine l_r (r_assign rfl) rfl ?_
  refine l_nil ?_
  refine s_seq ?_
  refine s_region ?_
  refine l_r (r_loadNp rfl hs3 Repl.here ag27 sz27) rfl ?_
  refine l_r (r_move rfl) rfl ?_
  refine l_call rfl rfl fk10 rfl (few_any w3 (Kd.config.on hKl0 hs3) (hy.onk hs3) hsm2) ?_
  rintro _ w4 ⟨bb4, rfl, hb4, hc4⟩
  have hs4 := hs3.call0 hc4
  refine ⟨_, rfl, ?_⟩
  refine l_r (r_assign rfl) rfl ?_
  refine l_nil ?_
  refine s_seq ?_
  refine s_seq ?_
  refine s_region ?_
  refine l_r (r_move rfl) rfl ?_
  refine l_r (r_not rfl) rfl ?_
  refine l_r (r_move rfl) rfl ?_
  refine l_on (dj := 27) rfl rfl rfl ?_
  refine l_r (r_move rfl) rfl ?_
  refine l_on (dj := 27) rfl rfl rfl ?_
  refine l_r (r_not rfl) rfl ?_
  refine l_r (r_pick_f rfl rfl) rfl ?_
  refine l_r (r_move rfl) rfl ?_
  refine l_part (dj := 31) rfl (fun hc5 => ?_) (fun hc5 => ?_)
  ·
    have hc5n := Bool.not_eq_true' _ |>.mp hc5
    refine l_off (dj := 31) (b := true) rfl rfl rfl rfl rfl ?_
    refine l_off (dj := 31) (b := true) rfl rfl rfl rfl rfl ?_
    refine l_r (r_pick_t rfl rfl) rfl ?_
    refine l_r (r_move rfl) rfl ?_
    refine l_off (dj := 35) (b := true) rfl rfl rfl rfl rfl ?_
    refine l_off (dj := 35) (b := true) rfl rfl rfl rfl rfl ?_
    refine l_off (dj := 35) (b := true) rfl rfl rfl rfl rfl ?_
    refine l_off (dj := 35) (b := true) rfl rfl rfl rfl rfl ?_
    refine l_off (dj := 35) (b := true) rfl rfl rfl rfl rfl ?_
    refine l_off (dj := 35) (b := true) rfl rfl rfl rfl rfl ?_
    refine l_r (r_pick_t rfl rfl) rfl ?_
    refine l_r (r_move rfl) rfl ?_
    refine l_off (dj := 43) (b := true) rfl rfl rfl rfl rfl ?_
    refine l_off (dj := 43) (b := true) rfl rfl rfl rfl rfl ?_
    refine l_off (dj := 43) (b := true) rfl rfl rfl rfl rfl ?_
    refine l_off (dj := 43) (b := true) rfl rfl rfl rfl rfl ?_
    refine l_off (dj := 43) (b := true) rfl rfl rfl rfl rfl ?_
    refine l_r (r_pick_t rfl rfl) rfl ?_
    refine l_r (r_move rfl) rfl ?_
    refine l_off (dj := 50) (b := true) rfl rfl rfl rfl rfl ?_
    refine l_off (dj := 50) (b := true) rfl rfl rfl rfl rfl ?_
    refine l_r (r_pick_t rfl rfl) rfl ?_
    refine l_r (r_move rfl) rfl ?_
    refine l_off (dj := 54) (b := true) rfl rfl rfl rfl rfl ?_
    refine l_off (dj := 54) (b := true) rfl rfl rfl rfl rfl ?_
    refine l_off (dj := 54) (b := true) rfl rfl rfl rfl rfl ?_
    refine l_off (dj := 54) (b := true) rfl rfl rfl rfl rfl ?_
    refine l_r (r_pick_t rfl rfl) rfl ?_
    refine l_nil ?_
    refine s_then rfl ?_
    refine s_seq ?_
    refine s_region ?_
    refine l_r (r_move rfl) rfl ?_
    refine l_r (r_assign rfl) rfl ?_
    refine l_nil ?_
    refine s_ret ?_
    exact q_done (.inr rfl) (.tmp rfl .nil) ⟨rfl, hs4.toExt⟩
  ·
    have hc5n := Bool.not_eq_false' _ |>.mp hc5
    refine l_on (dj := 31) rfl rfl rfl ?_
    refine l_r (r_move rfl) rfl ?_
    refine l_on (dj := 31) rfl rfl rfl ?_
    refine l_r (r_not rfl) rfl ?_
    refine l_r (r_pick_f rfl rfl) rfl ?_
    refine l_r (r_move rfl) rfl ?_
    refine l_part (dj := 35) rfl (fun hc6 => ?_) (fun hc6 => ?_)
    ·
      have hc6n := Bool.not_eq_true' _ |>.mp hc6
      refine l_off (dj := 35) (b := true) rfl rfl rfl rfl rfl ?_
      refine l_off (dj := 35) (b := true) rfl rfl rfl rfl rfl ?_
      refine l_off (dj := 35) (b := true) rfl rfl rfl rfl rfl ?_
      refine l_off (dj := 35) (b := true) rfl rfl rfl rfl rfl ?_
      refine l_off (dj := 35) (b := true) rfl rfl rfl rfl rfl ?_
      refine l_off (dj := 35) (b := true) rfl rfl rfl rfl rfl ?_
      refine l_r (r_pick_t rfl rfl) rfl ?_
      refine l_r (r_move rfl) rfl ?_
      refine l_off (dj := 43) (b := true) rfl rfl rfl rfl rfl ?_
      refine l_off (dj := 43) (b := true) rfl rfl rfl rfl rfl ?_
      refine l_off (dj := 43) (b := true) rfl rfl rfl rfl rfl ?_
      refine l_off (dj := 43) (b := true) rfl rfl rfl rfl rfl ?_
      refine l_off (dj := 43) (b := true) rfl rfl rfl rfl rfl ?_
      refine l_r (r_pick_t rfl rfl) rfl ?_
      refine l_r (r_move rfl) rfl ?_
      refine l_off (dj := 50) (b := true) rfl rfl rfl rfl rfl ?_
      refine l_off (dj := 50) (b := true) rfl rfl rfl rfl rfl ?_
      refine l_r (r_pick_t rfl rfl) rfl ?_
      refine l_r (r_move rfl) rfl ?_
      refine l_off (dj := 54) (b := true) rfl rfl rfl rfl rfl ?_
      refine l_off (dj := 54) (b := true) rfl rfl rfl rfl rfl ?_
      refine l_off (dj := 54) (b := true) rfl rfl rfl rfl rfl ?_
      refine l_off (dj := 54) (b := true) rfl rfl rfl rfl rfl ?_
      refine l_r (r_pick_t rfl rfl) rfl ?_
      refine l_nil ?_
      refine s_then rfl ?_
      refine s_seq ?_
      refine s_region ?_
      refine l_r (r_move rfl) rfl ?_
      refine l_r (r_assign rfl) rfl ?_
      refine l_nil ?_
      refine s_ret ?_
      exact q_done (.inr rfl) (.tmp rfl .nil) ⟨rfl, hs4.toExt⟩
    ·
      have hc6n := Bool.not_eq_false' _ |>.mp hc6
      refine l_on (dj := 35) rfl rfl rfl ?_
      refine l_r (r_move rfl) rfl ?_
      refine l_on (dj := 35) rfl rfl rfl ?_
      refine l_r (r_len rfl el28) rfl ?_
      refine l_on (dj := 35) rfl rfl rfl ?_
      refine l_r (r_field rfl fo27_3) rfl ?_
      refine l_on (dj := 35) rfl rfl rfl ?_
      refine l_r (r_load1p rfl hs4 Repl.here ag23 rfl) rfl ?_
      refine l_on (dj := 35) rfl rfl rfl ?_
      refine l_r (r_len rfl el23) rfl ?_
      refine l_on (dj := 35) rfl rfl rfl ?_
      refine l_r (r_cmp rfl rfl rfl) rfl ?_
      refine l_r (r_pick_f rfl rfl) rfl ?_
      refine l_r (r_move rfl) rfl ?_
      refine l_part (dj := 43) rfl (fun hc7 => ?_) (fun hc7 => ?_)
      ·
        have hc7p := bne_iff_ne.1 hc7
        refine l_off (dj := 43) (b := true) rfl rfl rfl rfl rfl ?_
        refine l_off (dj := 43) (b := true) rfl rfl rfl rfl rfl ?_
        refine l_off (dj := 43) (b := true) rfl rfl rfl rfl rfl ?_
        refine l_off (dj := 43) (b := true) rfl rfl rfl rfl rfl ?_
        refine l_off (dj := 43) (b := true) rfl rfl rfl rfl rfl ?_
        refine l_r (r_pick_t rfl rfl) rfl ?_
        refine l_r (r_move rfl) rfl ?_
        refine l_off (dj := 50) (b := true) rfl rfl rfl rfl rfl ?_
        refine l_off (dj := 50) (b := true) rfl rfl rfl rfl rfl ?_
        refine l_r (r_pick_t rfl rfl) rfl ?_
        refine l_r (r_move rfl) rfl ?_
        refine l_off (dj := 54) (b := true) rfl rfl rfl rfl rfl ?_
        refine l_off (dj := 54) (b := true) rfl rfl rfl rfl rfl ?_
        refine l_off (dj := 54) (b := true) rfl rfl rfl rfl rfl ?_
        refine l_off (dj := 54) (b := true) rfl rfl rfl rfl rfl ?_
        refine l_r (r_pick_t rfl rfl) rfl ?_
        refine l_nil ?_
        refine s_then rfl ?_
        refine s_seq ?_
        refine s_region ?_
        refine l_r (r_move rfl) rfl ?_
        refine l_r (r_assign rfl) rfl ?_
        refine l_nil ?_
        refine s_ret ?_
        exact q_done (.inr rfl) (.tmp rfl .nil) ⟨rfl, hs4.toExt⟩
      ·
        have hc7p := bne_eq_false_iff_eq.1 hc7
        refine l_on (dj := 43) rfl rfl rfl ?_
        refine l_r (r_move rfl) rfl ?_
        refine l_on (dj := 43) rfl rfl rfl ?_
        refine l_r (r_len rfl el28) rfl ?_
        refine l_on (dj := 43) rfl rfl rfl ?_
        refine l_r (r_move rfl) rfl ?_
        refine l_on (dj := 43) rfl rfl rfl ?_
        refine l_r (r_len rfl el28) rfl ?_
        refine l_on (dj := 43) rfl rfl rfl ?_
        refine l_r (r_cmp rfl rfl rfl) rfl ?_
        refine l_r (r_pick_f rfl rfl) rfl ?_
        refine l_r (r_move rfl) rfl ?_
        refine l_part (dj := 50) rfl (fun hc8 => ?_) (fun hc8 => ?_)
        ·
          have hc8p := bne_iff_ne.1 hc8
          refine l_off (dj := 50) (b := true) rfl rfl rfl rfl rfl ?_
          refine l_off (dj := 50) (b := true) rfl rfl rfl rfl rfl ?_
          refine l_r (r_pick_t rfl rfl) rfl ?_
          refine l_r (r_move rfl) rfl ?_
          refine l_off (dj := 54) (b := true) rfl rfl rfl rfl rfl ?_
          refine l_off (dj := 54) (b := true) rfl rfl rfl rfl rfl ?_
          refine l_off (dj := 54) (b := true) rfl rfl rfl rfl rfl ?_
          refine l_off (dj := 54) (b := true) rfl rfl rfl rfl rfl ?_
          refine l_r (r_pick_t rfl rfl) rfl ?_
          refine l_nil ?_
          refine s_then rfl ?_
          refine s_seq ?_
          refine s_region ?_
          refine l_r (r_move rfl) rfl ?_
          refine l_r (r_assign rfl) rfl ?_
          refine l_nil ?_
          refine s_ret ?_
          exact q_done (.inr rfl) (.tmp rfl .nil) ⟨rfl, hs4.toExt⟩
        ·
          have hc8p := bne_eq_false_iff_eq.1 hc8
          refine l_on (dj := 50) rfl rfl rfl ?_
          refine l_r (r_move rfl) rfl ?_
          refine l_on (dj := 50) rfl rfl rfl ?_
          refine l_r (r_cmp rfl rfl rfl) rfl ?_
          refine l_r (r_pick_f rfl rfl) rfl ?_
          refine l_r (r_move rfl) rfl ?_
          refine l_part (dj := 54) rfl (fun hc9 => ?_) (fun hc9 => ?_)
          ·
            have hc9p := of_decide_eq_true hc9
            refine l_off (dj := 54) (b := true) rfl rfl rfl rfl rfl ?_
            refine l_off (dj := 54) (b := true) rfl rfl rfl rfl rfl ?_
            refine l_off (dj := 54) (b := true) rfl rfl rfl rfl rfl ?_
            refine l_off (dj := 54) (b := true) rfl rfl rfl rfl rfl ?_
            refine l_r (r_pick_t rfl rfl) rfl ?_
            refine l_nil ?_
            refine s_then rfl ?_
            refine s_seq ?_
            refine s_region ?_
            refine l_r (r_move rfl) rfl ?_
            refine l_r (r_assign rfl) rfl ?_
            refine l_nil ?_
            refine s_ret ?_
            exact q_done (.inr rfl) (.tmp rfl .nil) ⟨rfl, hs4.toExt⟩
          ·
            have hc9p := of_decide_eq_false hc9
            refine l_on (dj := 54) rfl rfl rfl ?_
            refine l_r (r_move rfl) rfl ?_
            refine l_on (dj := 54) rfl rfl rfl ?_
            refine l_r (r_move rfl) rfl ?_
            refine l_on (dj := 54) rfl rfl rfl ?_
            refine l_r (r_len rfl el28) rfl ?_
            refine l_on (dj := 54) rfl rfl rfl ?_
            refine l_r (r_cmp rfl rfl rfl) rfl ?_
            refine l_r (r_pick_f rfl rfl) rfl ?_
            refine l_nil ?_
            refine s_part (dj := 59) rfl (fun hc10 => ?_) (fun hc10 => ?_)
            ·
              have hc10p := of_decide_eq_true hc10
              refine s_then rfl ?_
              refine s_seq ?_
              refine s_region ?_
              refine l_r (r_move rfl) rfl ?_
              refine l_r (r_assign rfl) rfl ?_
              refine l_nil ?_
              refine s_ret ?_
              exact q_done (.inr rfl) (.tmp rfl .nil) ⟨rfl, hs4.toExt⟩
            ·
              have hc10p := of_decide_eq_false hc10
              refine s_else rfl ?_
              refine s_skip ?_
              refine s_seq ?_
              obtain ⟨hfc, hn8, hq20⟩ := hb3 hc5n
              obtain ⟨_, hm8, hqm20⟩ := hb4 hc6n
              have hin : inR cf part := ⟨by omega, by omega⟩
              have hrl : (reachV cf part).length = ps.length := by rw [reachV_len hin]; omega
              have hml := moveL_len cf ps
              have hpow : 20 * 2 ^ cf.Channels.length ≤ 100000000 := Nat.le_trans (Nat.mul_le_mul_left _ (Nat.pow_le_pow_right (by decide) hfc.2.2.2.1)) (by decide)
              have hp2 : cf.Parts.length ≤ 2000000 := Nat.le_trans hfc.2.1 (by decide)
              have hqs : qs.length = ps.length := by omega
              refine s_region ?_
              refine l_r (r_loadNp rfl hs4 Repl.here ag27 sz27) rfl ?_
              refine l_r (r_move rfl) rfl ?_
              have hcall := reach_val (part := part) w4 (Kd.config.on hKl0 hs4) hp2
              refine l_call rfl rfl fk14 rfl hcall ?_
              rintro _ w11 ⟨Ar, cr, rfl, hx11, hr⟩
              have hs11 := hs4.ext hx11
              refine ⟨_, rfl, ?_⟩
              have hcb4 : Cells w11 b4 0 [.int .i64 cf.Frame, .int .i64 cf.Switch, .slice Al_2 cf.Lines.length cl_2, .slice Al_3 cf.Parts.length cl_3, .slice Al_4 cf.Windows.length cl_4, .slice Al_5 cf.Channels.length cl_5] := heap_all (hs11.get (r := .pt b4 _ _) List.mem_cons_self)
              have hl_2 := (hl_2.onk hs11).all_ (by decide)
              have hl_3 := (hl_3.onk hs11).all_ (by decide)
              have hl_4 := (hl_4.onk hs11).all_ (by decide)
              have hl_5 := (hl_5.onk hs11).all_ (by decide)
              have hx := (hx.onk hs11).all_ (by decide)
              have hy := (hy.onk hs11).all_ (by decide)
              have hKl0 := Kd.config.on hKl0 hs11
              have hxb := hs11.toExt
              have hs12 := St.refl w11.heap.size w11
              refine l_r (r_assign rfl) rfl ?_
              refine l_nil ?_
              refine s_seq ?_
              refine s_seq ?_
              refine s_region ?_
              refine l_r (r_move rfl) rfl ?_
              refine l_r (r_len rfl el35) rfl ?_
              refine l_r (r_move rfl) rfl ?_
              refine l_r (r_len rfl el28) rfl ?_
              refine l_r (r_cmp rfl rfl (b := false) (congrArg some (bne_eq_false_iff_eq.2 (by rw [hrl])))) rfl ?_
              refine l_nil ?_
              refine s_else rfl ?_
              refine s_skip ?_
              refine s_seq ?_
              refine s_region ?_
              refine l_r (r_move rfl) rfl ?_
              refine l_copyB hs12 (dk := Kd.part) Try.underlying28 rw48 rfl rfl rfl rfl (hy) (by omega) rfl rfl ?_
              intro _ nN w13 hRN hx13
              obtain ⟨gN, kN, rfl, hcapN⟩ := row_some (hx13.get (r := .row _ _ _ _ _ _) List.mem_cons_self) (by omega)
              have hs13 := hs12.call1 hx13
              refine l_r (r_assign rfl) rfl ?_
              refine l_nil ?_
              refine s_seq ?_
              refine s_seq ?_
              refine s_region ?_
              refine l_r (r_assign rfl) rfl ?_
              refine l_nil ?_
              refine s_block ?_
              refine s_loop (fun m L wl => ∃ (k : Nat) (ns : List TPart) (cs : List Value), L = [(14, .int .i64 ((k : Nat) : Int)), (1, .slice A ps.length c), (3, .int .i64 part), (4, .pointer (some ⟨b4, 0 + 0, none⟩)), (12, .slice Ar ((reachV cf part)).length cr), (13, .slice (some ⟨gN, 0, none⟩) qs.length kN)] ∧ m = ps.length - k ∧ k ≤ ps.length ∧ Mix cf part ps ns k ∧ Reps Kd.part w11 (fun _ => True) ns cs ∧ ns.length = qs.length ∧ (∀ p ∈ ns, p ∈ ps ∨ p ∈ qs) ∧ St w11.heap.size w11 wl [.row 0 48 15 (.slice (some ⟨gN, 0, none⟩) qs.length kN) qs.length (cs)]) _ [(14, .int .i64 ((0 : Nat) : Int)), (1, .slice A ps.length c), (3, .int .i64 part), (4, .pointer (some ⟨b4, 0 + 0, none⟩)), (12, .slice Ar ((reachV cf part)).length cr), (13, .slice (some ⟨gN, 0, none⟩) qs.length kN)] (.cons rfl (.cons rfl (.cons rfl (.cons rfl (.cons rfl (.cons rfl .nil)))))) ⟨0, qs, nN, rfl, rfl, Nat.zero_le _, Mix.nil _ _ _ _, hRN, rfl, fun p hp => .inr hp, hs13⟩ ?_
              rintro _ _ w14 ⟨k, ns, cs, rfl, rfl, hkk, hMix, hRn, hnl, hmem, hs14⟩
              have hcl : cs.length = ns.length * 15 := hRn.1
              refine s_seq ?_
              refine s_seq ?_
              refine s_region ?_
              refine l_r (r_move rfl) rfl ?_
              refine l_r (r_move rfl) rfl ?_
              refine l_r (r_len rfl el28) rfl ?_
              refine l_r (r_cmp rfl rfl rfl) rfl ?_
              refine l_nil ?_
              refine s_part (dj := 74) rfl (fun hc15 => ?_) (fun hc15 => ?_)
              ·
                have hc15p := of_decide_eq_true hc15
                refine s_then rfl ?_
                refine s_skip ?_
                refine s_seq ?_
                refine s_block ?_
                refine s_seq ?_
                refine s_seq ?_
                refine s_region ?_
                refine l_r (r_move rfl) rfl ?_
                refine l_r (r_move rfl) rfl ?_
                obtain ⟨e16x, e16h, e16b, e16o, e16cs, e16A, _, e16K, e16c⟩ := hr.get_ (i := k) (by omega)
                obtain rfl : e16cs = [.bool e16x] := e16K
                refine l_r (r_indexA rfl e16A rfl (by omega) (by omega) el35) rfl ?_
                refine l_r (r_load1 rfl ag4 ((e16c.on hs14).get (j := 0) rfl)) rfl ?_
                refine l_nil ?_
                refine s_part (dj := 80) rfl (fun hc17 => ?_) (fun hc17 => ?_)
                ·
                  refine s_then rfl ?_
                  refine s_region ?_
                  refine l_r (r_move rfl) rfl ?_
                  refine l_r (r_move rfl) rfl ?_
                  refine l_r (r_move rfl) rfl ?_
                  refine l_r (r_move rfl) rfl ?_
                  obtain ⟨e18x, e18h, e18b, e18o, e18cs, e18A, _, e18K, e18c⟩ := hx.get_ (i := k) (by omega)
                  have e18K0 := e18K
                  obtain ⟨Ae18_3, ce18_3, Ae18_4, ce18_4, Ae18_5, ce18_5, Ae18_6, ce18_6, Ae18_7, ce18_7, Ae18_8, ce18_8, Ae18_9, ce18_9, Ae18_10, ce18_10, Ae18_12, ce18_12, Ae18_14, ce18_14, rfl, he18_3, he18_4, he18_5, he18_6, he18_7, he18_8, he18_9, he18_10, he18_12, he18_14⟩ := e18K
                  refine l_r (r_indexA rfl e18A rfl (by omega) (by omega) el28) rfl ?_
                  refine l_r (r_loadN rfl ag48 (e18c.on hs14) sz48) rfl ?_
                  refine l_r (r_index rfl rfl (by omega) (by omega) el28) rfl ?_
                  refine l_storeR (base := 0) (e := 48) (sz := 15) (cs := cs) (cs' := (cs.take (k * 15) ++ [.int .i64 e18x.Mode, .int .i64 e18x.Begun, .int .i64 e18x.Next, .slice Ae18_3 e18x.Memory.length ce18_3, .slice Ae18_4 e18x.Procs.length ce18_4, .slice Ae18_5 e18x.Boards.length ce18_5, .slice Ae18_6 e18x.Buffers.length ce18_6, .slice Ae18_7 e18x.Semas.length ce18_7, .slice Ae18_8 e18x.Events.length ce18_8, .slice Ae18_9 e18x.Samples.length ce18_9, .slice Ae18_10 e18x.Queues.length ce18_10, .int .i64 e18x.Latch.Depth, .slice Ae18_12 e18x.Latch.Lines.length ce18_12, .int .i64 e18x.Latch.Dropped, .slice Ae18_14 e18x.Given.length ce18_14] ++ cs.drop (k * 15 + 15))) rfl rfl rfl sz48 (one_all rfl) (Nat.le_refl _) hs14 Repl.here (by simp only [Nat.zero_add, Int.toNat_natCast, List.length_cons, List.length_nil]; omega) (by simp only [Nat.zero_add, Int.toNat_natCast]; rfl) ?_
                  intro w19 hz19 hk19 hs19
                  have hRn2 : Reps Kd.part w11 (fun _ => True) (ns.set k e18x) (cs.take (k * 15) ++ [.int .i64 e18x.Mode, .int .i64 e18x.Begun, .int .i64 e18x.Next, .slice Ae18_3 e18x.Memory.length ce18_3, .slice Ae18_4 e18x.Procs.length ce18_4, .slice Ae18_5 e18x.Boards.length ce18_5, .slice Ae18_6 e18x.Buffers.length ce18_6, .slice Ae18_7 e18x.Semas.length ce18_7, .slice Ae18_8 e18x.Events.length ce18_8, .slice Ae18_9 e18x.Samples.length ce18_9, .slice Ae18_10 e18x.Queues.length ce18_10, .int .i64 e18x.Latch.Depth, .slice Ae18_12 e18x.Latch.Lines.length ce18_12, .int .i64 e18x.Latch.Dropped, .slice Ae18_14 e18x.Given.length ce18_14] ++ cs.drop (k * 15 + 15)) := hRn.set (by omega) (Kd.part.all_ e18K0)
                  refine l_nil ?_
                  refine s_seq ?_
                  have hnsl : (ns.set k e18x).length = qs.length := by rw [List.length_set]; exact hnl
                  obtain ⟨q, hq⟩ : ∃ q, (ns.set k e18x)[k]? = some q := ⟨_, List.getElem?_eq_getElem (by omega)⟩
                  obtain ⟨B3, d3, B4, d4, B5, d5, B6, d6, B7, d7, B8, d8, B9, d9, B10, d10, B12, d12, B14, d14, hseg, _⟩ := hRn2.2 k q hq
                  refine s_quiet (by kernel_rfl) (by kernel_rfl) ?_
                  refine qq_r (fun w' hw' => r_move rfl) rfl ?_
                  refine qq_r (fun w' hw' => r_move rfl) rfl ?_
                  refine qq_r (fun w' hw' => r_index rfl rfl (by omega) (by omega) el28) rfl ?_
                  refine qq_r (fun w' hw' => r_field rfl fo48_10) rfl ?_
                  refine qq_r (fun w' hw' => r_load1R (v := .slice B10 q.Queues.length d10) rfl (hs19.ext hw') Repl.here ag44 (by rw [Nat.zero_add]; exact seg_get hseg rfl)) rfl ?_
                  refine qq_r (fun w' hw' => r_len rfl el44) rfl ?_
                  refine qq_r (fun w' hw' => r_move rfl) rfl ?_
                  refine qq_r (fun w' hw' => r_move rfl) rfl ?_
                  refine qq_r (fun w' hw' => r_indexA rfl e18A rfl (by omega) (by omega) el28) rfl ?_
                  refine qq_r (fun w' hw' => r_field rfl fo48_10) rfl ?_
                  refine qq_r (fun w' hw' => r_load1 rfl ag44 ((e18c.on (hs19.ext hw')).get (j := 10) rfl)) rfl ?_
                  refine qq_r (fun w' hw' => r_len rfl el44) rfl ?_
                  refine qq_r (fun w' hw' => r_cmp rfl rfl rfl) rfl ?_
                  refine qq_r (fun w' hw' => r_move rfl) rfl ?_
                  refine qq_part (dj := 101) rfl (fun hc20 => ?_) (fun hc20 => ?_)
                  ·
                    have hc20p := bne_iff_ne.1 hc20
                    refine qq_off (dj := 101) (b := true) rfl rfl rfl rfl rfl ?_
                    refine qq_off (dj := 101) (b := true) rfl rfl rfl rfl rfl ?_
                    refine qq_off (dj := 101) (b := true) rfl rfl rfl rfl rfl ?_
                    refine qq_off (dj := 101) (b := true) rfl rfl rfl rfl rfl ?_
                    refine qq_off (dj := 101) (b := true) rfl rfl rfl rfl rfl ?_
                    refine qq_off (dj := 101) (b := true) rfl rfl rfl rfl rfl ?_
                    refine qq_off (dj := 101) (b := true) rfl rfl rfl rfl rfl ?_
                    refine qq_off (dj := 101) (b := true) rfl rfl rfl rfl rfl ?_
                    refine qq_off (dj := 101) (b := true) rfl rfl rfl rfl rfl ?_
                    refine qq_off (dj := 101) (b := true) rfl rfl rfl rfl rfl ?_
                    refine qq_off (dj := 101) (b := true) rfl rfl rfl rfl rfl ?_
                    refine qq_off (dj := 101) (b := true) rfl rfl rfl rfl rfl ?_
                    refine qq_off (dj := 101) (b := true) rfl rfl rfl rfl rfl ?_
                    refine qq_r (fun w' hw' => r_pick_t rfl rfl) rfl ?_
                    refine qq_nil ?_
                    intro w21 hx21
                    have hs21 := hs19.ext hx21
                    refine s_then rfl ?_
                    refine s_seq ?_
                    refine s_region ?_
                    refine l_r (r_assign rfl) rfl ?_
                    refine l_nil ?_
                    refine s_ret ?_
                    exact q_done (.inr rfl) (.tmp rfl .nil) ⟨rfl, hxb.trans hs21.toExt⟩
                  ·
                    have hc20p := bne_eq_false_iff_eq.1 hc20
                    refine qq_on (dj := 101) rfl rfl rfl ?_
                    refine qq_r (fun w' hw' => r_move rfl) rfl ?_
                    refine qq_on (dj := 101) rfl rfl rfl ?_
                    refine qq_r (fun w' hw' => r_move rfl) rfl ?_
                    refine qq_on (dj := 101) rfl rfl rfl ?_
                    refine qq_r (fun w' hw' => r_index rfl rfl (by omega) (by omega) el28) rfl ?_
                    refine qq_on (dj := 101) rfl rfl rfl ?_
                    refine qq_r (fun w' hw' => r_field rfl fo48_9) rfl ?_
                    refine qq_on (dj := 101) rfl rfl rfl ?_
                    refine qq_r (fun w' hw' => r_load1R (v := .slice B9 q.Samples.length d9) rfl (hs19.ext hw') Repl.here ag43 (by rw [Nat.zero_add]; exact seg_get hseg rfl)) rfl ?_
                    refine qq_on (dj := 101) rfl rfl rfl ?_
                    refine qq_r (fun w' hw' => r_len rfl el43) rfl ?_
                    refine qq_on (dj := 101) rfl rfl rfl ?_
                    refine qq_r (fun w' hw' => r_move rfl) rfl ?_
                    refine qq_on (dj := 101) rfl rfl rfl ?_
                    refine qq_r (fun w' hw' => r_move rfl) rfl ?_
                    refine qq_on (dj := 101) rfl rfl rfl ?_
                    refine qq_r (fun w' hw' => r_indexA rfl e18A rfl (by omega) (by omega) el28) rfl ?_
                    refine qq_on (dj := 101) rfl rfl rfl ?_
                    refine qq_r (fun w' hw' => r_field rfl fo48_9) rfl ?_
                    refine qq_on (dj := 101) rfl rfl rfl ?_
                    refine qq_r (fun w' hw' => r_load1 rfl ag43 ((e18c.on (hs19.ext hw')).get (j := 9) rfl)) rfl ?_
                    refine qq_on (dj := 101) rfl rfl rfl ?_
                    refine qq_r (fun w' hw' => r_len rfl el43) rfl ?_
                    refine qq_on (dj := 101) rfl rfl rfl ?_
                    refine qq_r (fun w' hw' => r_cmp rfl rfl rfl) rfl ?_
                    refine qq_r (fun w' hw' => r_pick_f rfl rfl) rfl ?_
                    refine qq_nil ?_
                    intro w22 hx22
                    have hs22 := hs19.ext hx22
                    refine s_part (dj := 115) rfl (fun hc23 => ?_) (fun hc23 => ?_)
                    ·
                      have hc23p := bne_iff_ne.1 hc23
                      refine s_then rfl ?_
                      refine s_seq ?_
                      refine s_region ?_
                      refine l_r (r_assign rfl) rfl ?_
                      refine l_nil ?_
                      refine s_ret ?_
                      exact q_done (.inr rfl) (.tmp rfl .nil) ⟨rfl, hxb.trans hs22.toExt⟩
                    ·
                      have hc23p := bne_eq_false_iff_eq.1 hc23
                      refine s_else rfl ?_
                      refine s_skip ?_
                      refine s_mark ?_
                      refine s_region ?_
                      refine l_r (r_move rfl) rfl ?_
                      refine l_r (r_inc rfl (by omega)) rfl ?_
                      refine l_r (r_assign rfl) rfl ?_
                      refine l_nil ?_
                      refine s_again ?_
                      exact ⟨_, [(14, .int .i64 (((k + 1) : Nat) : Int)), (1, .slice A ps.length c), (3, .int .i64 part), (4, .pointer (some ⟨b4, 0 + 0, none⟩)), (12, .slice Ar ((reachV cf part)).length cr), (13, .slice (some ⟨gN, 0, none⟩) qs.length kN)], by omega, (.cons rfl (.cons rfl (.cons rfl (.cons rfl (.cons rfl (.cons rfl .nil)))))), ⟨(k + 1), (ns.set k e18x), (cs.take (k * 15) ++ [.int .i64 e18x.Mode, .int .i64 e18x.Begun, .int .i64 e18x.Next, .slice Ae18_3 e18x.Memory.length ce18_3, .slice Ae18_4 e18x.Procs.length ce18_4, .slice Ae18_5 e18x.Boards.length ce18_5, .slice Ae18_6 e18x.Buffers.length ce18_6, .slice Ae18_7 e18x.Semas.length ce18_7, .slice Ae18_8 e18x.Events.length ce18_8, .slice Ae18_9 e18x.Samples.length ce18_9, .slice Ae18_10 e18x.Queues.length ce18_10, .int .i64 e18x.Latch.Depth, .slice Ae18_12 e18x.Latch.Lines.length ce18_12, .int .i64 e18x.Latch.Dropped, .slice Ae18_14 e18x.Given.length ce18_14] ++ cs.drop (k * 15 + 15)), rfl, rfl, by omega, hMix.step (fun j hj => set_before hj) e18h hq (fun _ => set_at (by omega) hq) (by omega) (by omega), hRn2, by rw [List.length_set]; exact hnl, (fun p hp => (List.mem_or_eq_of_mem_set hp).elim (hmem p) (fun e => .inl (e ▸ List.mem_of_getElem? e18h))), hs22⟩⟩
                ·
                  refine s_else rfl ?_
                  refine s_skip ?_
                  refine s_seq ?_
                  have hnsl : ns.length = qs.length := by exact hnl
                  obtain ⟨q, hq⟩ : ∃ q, ns[k]? = some q := ⟨_, List.getElem?_eq_getElem (by omega)⟩
                  obtain ⟨B3, d3, B4, d4, B5, d5, B6, d6, B7, d7, B8, d8, B9, d9, B10, d10, B12, d12, B14, d14, hseg, _⟩ := hRn.2 k q hq
                  refine s_quiet (by kernel_rfl) (by kernel_rfl) ?_
                  refine qq_r (fun w' hw' => r_move rfl) rfl ?_
                  refine qq_r (fun w' hw' => r_move rfl) rfl ?_
                  refine qq_r (fun w' hw' => r_index rfl rfl (by omega) (by omega) el28) rfl ?_
                  refine qq_r (fun w' hw' => r_field rfl fo48_10) rfl ?_
                  refine qq_r (fun w' hw' => r_load1R (v := .slice B10 q.Queues.length d10) rfl (hs14.ext hw') Repl.here ag44 (by rw [Nat.zero_add]; exact seg_get hseg rfl)) rfl ?_
                  refine qq_r (fun w' hw' => r_len rfl el44) rfl ?_
                  refine qq_r (fun w' hw' => r_move rfl) rfl ?_
                  refine qq_r (fun w' hw' => r_move rfl) rfl ?_
                  obtain ⟨e24x, e24h, e24b, e24o, e24cs, e24A, _, e24K, e24c⟩ := hx.get_ (i := k) (by omega)
                  have e24K0 := e24K
                  obtain ⟨Ae24_3, ce24_3, Ae24_4, ce24_4, Ae24_5, ce24_5, Ae24_6, ce24_6, Ae24_7, ce24_7, Ae24_8, ce24_8, Ae24_9, ce24_9, Ae24_10, ce24_10, Ae24_12, ce24_12, Ae24_14, ce24_14, rfl, he24_3, he24_4, he24_5, he24_6, he24_7, he24_8, he24_9, he24_10, he24_12, he24_14⟩ := e24K
                  refine qq_r (fun w' hw' => r_indexA rfl e24A rfl (by omega) (by omega) el28) rfl ?_
                  refine qq_r (fun w' hw' => r_field rfl fo48_10) rfl ?_
                  refine qq_r (fun w' hw' => r_load1 rfl ag44 ((e24c.on (hs14.ext hw')).get (j := 10) rfl)) rfl ?_
                  refine qq_r (fun w' hw' => r_len rfl el44) rfl ?_
                  refine qq_r (fun w' hw' => r_cmp rfl rfl rfl) rfl ?_
                  refine qq_r (fun w' hw' => r_move rfl) rfl ?_
                  refine qq_part (dj := 101) rfl (fun hc25 => ?_) (fun hc25 => ?_)
                  ·
                    have hc25p := bne_iff_ne.1 hc25
                    refine qq_off (dj := 101) (b := true) rfl rfl rfl rfl rfl ?_
                    refine qq_off (dj := 101) (b := true) rfl rfl rfl rfl rfl ?_
                    refine qq_off (dj := 101) (b := true) rfl rfl rfl rfl rfl ?_
                    refine qq_off (dj := 101) (b := true) rfl rfl rfl rfl rfl ?_
                    refine qq_off (dj := 101) (b := true) rfl rfl rfl rfl rfl ?_
                    refine qq_off (dj := 101) (b := true) rfl rfl rfl rfl rfl ?_
                    refine qq_off (dj := 101) (b := true) rfl rfl rfl rfl rfl ?_
                    refine qq_off (dj := 101) (b := true) rfl rfl rfl rfl rfl ?_
                    refine qq_off (dj := 101) (b := true) rfl rfl rfl rfl rfl ?_
                    refine qq_off (dj := 101) (b := true) rfl rfl rfl rfl rfl ?_
                    refine qq_off (dj := 101) (b := true) rfl rfl rfl rfl rfl ?_
                    refine qq_off (dj := 101) (b := true) rfl rfl rfl rfl rfl ?_
                    refine qq_off (dj := 101) (b := true) rfl rfl rfl rfl rfl ?_
                    refine qq_r (fun w' hw' => r_pick_t rfl rfl) rfl ?_
                    refine qq_nil ?_
                    intro w26 hx26
                    have hs26 := hs14.ext hx26
                    refine s_then rfl ?_
                    refine s_seq ?_
                    refine s_region ?_
                    refine l_r (r_assign rfl) rfl ?_
                    refine l_nil ?_
                    refine s_ret ?_
                    exact q_done (.inr rfl) (.tmp rfl .nil) ⟨rfl, hxb.trans hs26.toExt⟩
                  ·
                    have hc25p := bne_eq_false_iff_eq.1 hc25
                    refine qq_on (dj := 101) rfl rfl rfl ?_
                    refine qq_r (fun w' hw' => r_move rfl) rfl ?_
                    refine qq_on (dj := 101) rfl rfl rfl ?_
                    refine qq_r (fun w' hw' => r_move rfl) rfl ?_
                    refine qq_on (dj := 101) rfl rfl rfl ?_
                    refine qq_r (fun w' hw' => r_index rfl rfl (by omega) (by omega) el28) rfl ?_
                    refine qq_on (dj := 101) rfl rfl rfl ?_
                    refine qq_r (fun w' hw' => r_field rfl fo48_9) rfl ?_
                    refine qq_on (dj := 101) rfl rfl rfl ?_
                    refine qq_r (fun w' hw' => r_load1R (v := .slice B9 q.Samples.length d9) rfl (hs14.ext hw') Repl.here ag43 (by rw [Nat.zero_add]; exact seg_get hseg rfl)) rfl ?_
                    refine qq_on (dj := 101) rfl rfl rfl ?_
                    refine qq_r (fun w' hw' => r_len rfl el43) rfl ?_
                    refine qq_on (dj := 101) rfl rfl rfl ?_
                    refine qq_r (fun w' hw' => r_move rfl) rfl ?_
                    refine qq_on (dj := 101) rfl rfl rfl ?_
                    refine qq_r (fun w' hw' => r_move rfl) rfl ?_
                    refine qq_on (dj := 101) rfl rfl rfl ?_
                    refine qq_r (fun w' hw' => r_indexA rfl e24A rfl (by omega) (by omega) el28) rfl ?_
                    refine qq_on (dj := 101) rfl rfl rfl ?_
                    refine qq_r (fun w' hw' => r_field rfl fo48_9) rfl ?_
                    refine qq_on (dj := 101) rfl rfl rfl ?_
                    refine qq_r (fun w' hw' => r_load1 rfl ag43 ((e24c.on (hs14.ext hw')).get (j := 9) rfl)) rfl ?_
                    refine qq_on (dj := 101) rfl rfl rfl ?_
                    refine qq_r (fun w' hw' => r_len rfl el43) rfl ?_
                    refine qq_on (dj := 101) rfl rfl rfl ?_
                    refine qq_r (fun w' hw' => r_cmp rfl rfl rfl) rfl ?_
                    refine qq_r (fun w' hw' => r_pick_f rfl rfl) rfl ?_
                    refine qq_nil ?_
                    intro w27 hx27
                    have hs27 := hs14.ext hx27
                    refine s_part (dj := 115) rfl (fun hc28 => ?_) (fun hc28 => ?_)
                    ·
                      have hc28p := bne_iff_ne.1 hc28
                      refine s_then rfl ?_
                      refine s_seq ?_
                      refine s_region ?_
                      refine l_r (r_assign rfl) rfl ?_
                      refine l_nil ?_
                      refine s_ret ?_
                      exact q_done (.inr rfl) (.tmp rfl .nil) ⟨rfl, hxb.trans hs27.toExt⟩
                    ·
                      have hc28p := bne_eq_false_iff_eq.1 hc28
                      refine s_else rfl ?_
                      refine s_skip ?_
                      refine s_mark ?_
                      refine s_region ?_
                      refine l_r (r_move rfl) rfl ?_
                      refine l_r (r_inc rfl (by omega)) rfl ?_
                      refine l_r (r_assign rfl) rfl ?_
                      refine l_nil ?_
                      refine s_again ?_
                      exact ⟨_, [(14, .int .i64 (((k + 1) : Nat) : Int)), (1, .slice A ps.length c), (3, .int .i64 part), (4, .pointer (some ⟨b4, 0 + 0, none⟩)), (12, .slice Ar ((reachV cf part)).length cr), (13, .slice (some ⟨gN, 0, none⟩) qs.length kN)], by omega, (.cons rfl (.cons rfl (.cons rfl (.cons rfl (.cons rfl (.cons rfl .nil)))))), ⟨(k + 1), ns, cs, rfl, rfl, by omega, hMix.step (fun j hj => rfl) e24h hq (fun hr => by have h1 := (reachV_get e16h).2.2.2 hr; rw [hc17] at h1; cases h1) (by omega) (by omega), hRn, hnl, hmem, hs27⟩⟩
              ·
                have hc15p := of_decide_eq_false hc15
                refine s_else rfl ?_
                refine s_exit rfl ?_
                refine s_seq ?_
                obtain rfl : k = ps.length := by omega
                have hagree := hMix.agree (by omega) (by omega)
                have hnS := row_slT (d := Kd.part) (hs14.get (r := .row 0 48 15 (.slice (some ⟨gN, 0, none⟩) qs.length kN) qs.length cs) List.mem_cons_self) (hRn.onr hs14) hnl
                have hx := (hx.onk hs14).all_ (by decide)
                have hcb4 := hcb4.on hs14
                have hl_2 := (hl_2.onk hs14).all_ (by decide)
                have hl_3 := (hl_3.onk hs14).all_ (by decide)
                have hl_4 := (hl_4.onk hs14).all_ (by decide)
                have hl_5 := (hl_5.onk hs14).all_ (by decide)
                have hr := (hr.onk hs14).all_ (by decide)
                have hKl0 := Kd.config.on hKl0 hs14
                have hxb := hxb.trans hs14.toExt
                have hs29 := St.refl w14.heap.size w14
                skip
                refine s_region ?_
                refine l_r (r_loadN rfl ag27 (hcb4.on hs29) sz27) rfl ?_
                refine l_r (r_move rfl) rfl ?_
                have hcall := move_val w14 (Kd.config.on hKl0 hs29) (hx.onk hs29) (by omega) hsm hq20 hpow
                refine l_call rfl rfl fk12 rfl hcall ?_
                rintro _ w30 ⟨Aa, ca, rfl, hx30, ha⟩
                have hs30 := hs29.ext hx30
                refine ⟨_, rfl, ?_⟩
                have hx := (hx.onk hs30).all_ (by decide)
                have hcb4 := hcb4.on hs30
                have hl_2 := (hl_2.onk hs30).all_ (by decide)
                have hl_3 := (hl_3.onk hs30).all_ (by decide)
                have hl_4 := (hl_4.onk hs30).all_ (by decide)
                have hl_5 := (hl_5.onk hs30).all_ (by decide)
                have hr := (hr.onk hs30).all_ (by decide)
                have hKl0 := Kd.config.on hKl0 hs30
                have hnS := (hnS.onk hs30)
                have hxb := hxb.trans hs30.toExt
                have hs31 := St.refl w30.heap.size w30
                refine l_r (r_assign rfl) rfl ?_
                refine l_nil ?_
                refine s_seq ?_
                refine s_region ?_
                refine l_r (r_loadN rfl ag27 (hcb4.on hs31) sz27) rfl ?_
                refine l_r (r_move rfl) rfl ?_
                have hcall := move_val w30 (Kd.config.on hKl0 hs31) (hnS.onk hs31) (by omega) (fun p hp => (hmem p hp).elim (hsm p) (hsm2 p)) (M := 20) (fun p hp => (hmem p hp).elim (hq20 p) (hqm20 p)) hpow
                rw [hnl] at hcall
                refine l_call rfl rfl fk12 rfl hcall ?_
                rintro _ w32 ⟨Ab, cb, rfl, hx32, hb⟩
                have hs32 := hs31.ext hx32
                refine ⟨_, rfl, ?_⟩
                have hx := (hx.onk hs32).all_ (by decide)
                have hcb4 := hcb4.on hs32
                have hl_2 := (hl_2.onk hs32).all_ (by decide)
                have hl_3 := (hl_3.onk hs32).all_ (by decide)
                have hl_4 := (hl_4.onk hs32).all_ (by decide)
                have hl_5 := (hl_5.onk hs32).all_ (by decide)
                have hr := (hr.onk hs32).all_ (by decide)
                have ha := (ha.onk hs32).all_ (by decide)
                have hKl0 := Kd.config.on hKl0 hs32
                have hnS := (hnS.onk hs32)
                have hxb := hxb.trans hs32.toExt
                have hs33 := St.refl w32.heap.size w32
                have hmn := moveL_len cf ns
                refine l_r (r_assign rfl) rfl ?_
                refine l_nil ?_
                refine s_seq ?_
                refine s_seq ?_
                refine s_region ?_
                refine l_r (r_move rfl) rfl ?_
                refine l_r (r_len rfl el28) rfl ?_
                refine l_r (r_move rfl) rfl ?_
                refine l_r (r_len rfl el28) rfl ?_
                refine l_r (r_cmp rfl rfl (b := false) (congrArg some (bne_eq_false_iff_eq.2 (by rw [hml])))) rfl ?_
                refine l_r (r_move rfl) rfl ?_
                refine l_on (dj := 127) rfl rfl rfl ?_
                refine l_r (r_move rfl) rfl ?_
                refine l_on (dj := 127) rfl rfl rfl ?_
                refine l_r (r_len rfl el28) rfl ?_
                refine l_on (dj := 127) rfl rfl rfl ?_
                refine l_r (r_move rfl) rfl ?_
                refine l_on (dj := 127) rfl rfl rfl ?_
                refine l_r (r_len rfl el28) rfl ?_
                refine l_on (dj := 127) rfl rfl rfl ?_
                refine l_r (r_cmp rfl rfl (b := false) (congrArg some (bne_eq_false_iff_eq.2 (by rw [hmn, hnl, hqs])))) rfl ?_
                refine l_r (r_pick_f rfl rfl) rfl ?_
                refine l_nil ?_
                refine s_else rfl ?_
                refine s_skip ?_
                refine s_seq ?_
                refine s_quiet (by kernel_rfl) (by kernel_rfl) ?_
                refine qq_r (fun w' hw' => r_move rfl) rfl ?_
                refine qq_r (fun w' hw' => r_move rfl) rfl ?_
                obtain ⟨e34x, e34h, e34b, e34o, e34cs, e34A, _, e34K, e34c⟩ := ha.get_ (i := part.toNat) (by omega)
                have e34K0 := e34K
                obtain ⟨Ae34_3, ce34_3, Ae34_4, ce34_4, Ae34_5, ce34_5, Ae34_6, ce34_6, Ae34_7, ce34_7, Ae34_8, ce34_8, Ae34_9, ce34_9, Ae34_10, ce34_10, Ae34_12, ce34_12, Ae34_14, ce34_14, rfl, he34_3, he34_4, he34_5, he34_6, he34_7, he34_8, he34_9, he34_10, he34_12, he34_14⟩ := e34K
                refine qq_r (fun w' hw' => r_indexA rfl e34A rfl (by omega) (by omega) el28) rfl ?_
                refine qq_r (fun w' hw' => r_loadN rfl ag48 (e34c.on (hs33.ext hw')) sz48) rfl ?_
                refine qq_r (fun w' hw' => r_move rfl) rfl ?_
                refine qq_r (fun w' hw' => r_move rfl) rfl ?_
                obtain ⟨e35x, e35h, e35b, e35o, e35cs, e35A, _, e35K, e35c⟩ := hb.get_ (i := part.toNat) (by omega)
                have e35K0 := e35K
                obtain ⟨Ae35_3, ce35_3, Ae35_4, ce35_4, Ae35_5, ce35_5, Ae35_6, ce35_6, Ae35_7, ce35_7, Ae35_8, ce35_8, Ae35_9, ce35_9, Ae35_10, ce35_10, Ae35_12, ce35_12, Ae35_14, ce35_14, rfl, he35_3, he35_4, he35_5, he35_6, he35_7, he35_8, he35_9, he35_10, he35_12, he35_14⟩ := e35K
                refine qq_r (fun w' hw' => r_indexA rfl e35A rfl (by omega) (by omega) el28) rfl ?_
                refine qq_r (fun w' hw' => r_loadN rfl ag48 (e35c.on (hs33.ext hw')) sz48) rfl ?_
                have hag := (hagree.move).same part.toNat (by rw [Int.toNat_of_nonneg hin.1]; exact .self)
                rw [e34h, e35h] at hag
                obtain rfl := Option.some.inj hag
                refine qq_call rfl rfl fk16 (fun w' hw' => calls_quiet (same_part w' (Kd.part.on e34K0 (hs33.ext hw')) (Kd.part.on e35K0 (hs33.ext hw')))) rfl ?_
                refine qq_r (fun w' hw' => r_assign rfl) rfl ?_
                refine qq_nil ?_
                intro w36 hx36
                have hs36 := hs33.ext hx36
                refine s_seq ?_
                refine s_region ?_
                refine l_r (r_move rfl) rfl ?_
                refine l_r (r_assign rfl) rfl ?_
                refine l_nil ?_
                refine s_ret ?_
                exact q_done (.inr rfl) (.tmp rfl .nil) ⟨rfl, hxb.trans hs36.toExt⟩

end Go.Proofs.Ytfhghnhgcdiknaa
