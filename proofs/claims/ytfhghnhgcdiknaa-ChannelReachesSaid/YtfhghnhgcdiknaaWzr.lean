/- Who reaches whom. -/
import Derived.Test.YtfhghnhgcdiknaaWzq
set_option linter.unusedVariables false
set_option linter.unusedSimpArgs false
namespace Go.Proofs.Ytfhghnhgcdiknaa
open Go.RowKit
theorem foldS_mem {σ τ : Type} {step : σ → τ → Option σ} : ∀ {l : List τ} {s s' : σ}, foldS step s l = some s' → ∀ x, x ∈ l → ∃ s1 s2, step s1 x = some s2
  | [], _, _, _, x, hx => by cases hx
  | y :: l, s, s', h, x, hx => by
    simp only [foldS] at h
    cases hy : step s y with
    | none => rw [hy] at h; cases h
    | some s1 =>
      rw [hy] at h
      rcases List.mem_cons.1 hx with rfl | hx
      · exact ⟨s, s1, hy⟩
      · exact foldS_mem h x hx
theorem thereB_in {cf : TConfig} {q : Bool} {p a : Int} (h : thereB cf (q, p, a) = true) : inR cf p := by
  rw [thereB, Bool.and_eq_true] at h
  have := inr_iff.1 h.1
  exact ⟨this.1, by have := this.2; simp only at this; omega⟩
theorem may_chan {cf : TConfig} (h : mayB cf = true) : cf.Parts.length ≤ 4 ∧ ∀ x, x ∈ cf.Channels → inR cf x.From ∧ inR cf x.To := by
  simp only [mayB, Bool.and_eq_true] at h
  obtain ⟨_, _, _, _, ⟨hp, _⟩, _, hc⟩ := h
  refine ⟨by have := of_decide_eq_true hp; omega, fun x hx => ?_⟩
  simp only [channelsB, Bool.and_eq_true] at hc
  obtain ⟨s', hs'⟩ := Option.isSome_iff_exists.1 hc.2
  obtain ⟨s1, s2, hst⟩ := foldS_mem hs' x hx
  rw [chanStep] at hst
  split at hst
  · rename_i hb
    simp only [chanB, Bool.and_eq_true] at hb
    exact ⟨thereB_in hb.1, thereB_in hb.2.1⟩
  · cases hst
theorem rv_len {cf : TConfig} {part : Int} (h : inR cf part) : (reachV cf part).length = cf.Parts.length := by rw [reachV_in h, reachL_len]
theorem rch_trans {cf : TConfig} {a b d : Int} (h1 : Rch cf d b) (h2 : Rch cf b a) : Rch cf d a := by
  induction h2 with
  | self => exact h1
  | from_ hx _ hi ih => exact .from_ hx ih hi
  | to_ hx hq _ hi ih => exact .to_ hx hq ih hi
theorem rv_iff {cf : TConfig} {p q : Int} {b : Bool} (h : (reachV cf p)[q.toNat]? = some b) (hq : 0 ≤ q) : b = true ↔ Rch cf p q := by
  have := (reachV_get h).2.2
  rwa [Int.toNat_of_nonneg hq] at this

set_option maxRecDepth 100000 in
set_option maxHeartbeats 4000000 in
theorem channelReaches_any {cf : TConfig} {pl : List Value} {a b d : Int} (w : World) {ok : Nat → Prop} (hKl : Kd.config.K w ok cf pl) :
    Calls Try.prog 8 #[.agg pl.toArray, .int .i64 a, .int .i64 b, .int .i64 d] w (fun e w' => e = .returned (.bool true) ∧ Ext w w') := by
  refine q_call (n := 148) (args := [.agg pl.toArray, .int .i64 a, .int .i64 b, .int .i64 d]) Try.func8 rfl rfl rfl ?_
  have hs0 := St.refl 0 w
  have hKl0 := hKl
  obtain ⟨Al_2, cl_2, Al_3, cl_3, Al_4, cl_4, Al_5, cl_5, rfl, hl_2, hl_3, hl_4, hl_5⟩ := hKl
  have hle2 := hl_2.len
  have hle3 := hl_3.len
  have hle4 := hl_4.len
  have hle5 := hl_5.len
  refine s_seq ?_
  refine s_region ?_
  refine l_box rfl rfl rfl hs0 ?_
  intro w1 b4 hb4 hx1 hs1
  refine l_r (r_assign rfl) rfl ?_
  refine l_nil ?_
  refine s_seq ?_
  refine s_region ?_
  refine l_call rfl rfl fk9 rfl (awake_ok w1) ?_
  rintro _ w2 ⟨rfl, hx2⟩
  have hs2 := hs1.ext hx2
  refine ⟨_, rfl, ?_⟩
  refine l_r (r_assign rfl) rfl ?_
  refine l_nil ?_
  refine s_seq ?_
  refine s_region ?_
  refine l_r (r_field rfl fo27_3) rfl ?_
  refine l_r (r_load1p rfl hs2 Repl.here ag23 rfl) rfl ?_
  refine l_r (r_len rfl el23) rfl ?_
  refine l_r (r_assign rfl) rfl ?_
  refine l_nil ?_
  refine s_seq ?_
  refine s_seq ?_
  refine s_region ?_
  refine l_r (r_move rfl) rfl ?_
  refine l_r (r_not rfl) rfl ?_
  refine l_r (r_move rfl) rfl ?_
  refine l_on (dj := 22) rfl rfl rfl ?_
  refine l_r (r_loadNp rfl hs2 Repl.here ag27 sz27) rfl ?_
  refine l_on (dj := 22) rfl rfl rfl ?_
  refine l_call rfl rfl fk17 rfl (may_ok w2 (Kd.config.on hKl0 hs2)) ?_
  rintro _ w3 ⟨rfl, hc3⟩
  have hs3 := hs2.call0 hc3
  refine ⟨_, rfl, ?_⟩
  refine l_on (dj := 22) rfl rfl rfl ?_
  refine l_r (r_not rfl) rfl ?_
  refine l_r (r_pick_f rfl rfl) rfl ?_
  refine l_r (r_move rfl) rfl ?_
  refine l_part (dj := 27) rfl (fun hc4 => ?_) (fun hc4 => ?_)
  ·
    have hc4n := Bool.not_eq_true' _ |>.mp hc4
    refine l_off (dj := 27) (b := true) rfl rfl rfl rfl rfl ?_
    refine l_off (dj := 27) (b := true) rfl rfl rfl rfl rfl ?_
    refine l_r (r_pick_t rfl rfl) rfl ?_
    refine l_r (r_move rfl) rfl ?_
    refine l_off (dj := 31) (b := true) rfl rfl rfl rfl rfl ?_
    refine l_off (dj := 31) (b := true) rfl rfl rfl rfl rfl ?_
    refine l_off (dj := 31) (b := true) rfl rfl rfl rfl rfl ?_
    refine l_r (r_pick_t rfl rfl) rfl ?_
    refine l_r (r_move rfl) rfl ?_
    refine l_off (dj := 36) (b := true) rfl rfl rfl rfl rfl ?_
    refine l_off (dj := 36) (b := true) rfl rfl rfl rfl rfl ?_
    refine l_r (r_pick_t rfl rfl) rfl ?_
    refine l_r (r_move rfl) rfl ?_
    refine l_off (dj := 40) (b := true) rfl rfl rfl rfl rfl ?_
    refine l_off (dj := 40) (b := true) rfl rfl rfl rfl rfl ?_
    refine l_off (dj := 40) (b := true) rfl rfl rfl rfl rfl ?_
    refine l_r (r_pick_t rfl rfl) rfl ?_
    refine l_r (r_move rfl) rfl ?_
    refine l_off (dj := 45) (b := true) rfl rfl rfl rfl rfl ?_
    refine l_off (dj := 45) (b := true) rfl rfl rfl rfl rfl ?_
    refine l_r (r_pick_t rfl rfl) rfl ?_
    refine l_r (r_move rfl) rfl ?_
    refine l_off (dj := 49) (b := true) rfl rfl rfl rfl rfl ?_
    refine l_off (dj := 49) (b := true) rfl rfl rfl rfl rfl ?_
    refine l_off (dj := 49) (b := true) rfl rfl rfl rfl rfl ?_
    refine l_r (r_pick_t rfl rfl) rfl ?_
    refine l_nil ?_
    refine s_then rfl ?_
    refine s_seq ?_
    refine s_region ?_
    refine l_r (r_move rfl) rfl ?_
    refine l_r (r_assign rfl) rfl ?_
    refine l_nil ?_
    refine s_ret ?_
    exact q_done (.inr rfl) (.tmp rfl .nil) ⟨rfl, hs3.toExt⟩
  ·
    have hc4n := Bool.not_eq_false' _ |>.mp hc4
    refine l_on (dj := 27) rfl rfl rfl ?_
    refine l_r (r_move rfl) rfl ?_
    refine l_on (dj := 27) rfl rfl rfl ?_
    refine l_r (r_cmp rfl rfl rfl) rfl ?_
    refine l_r (r_pick_f rfl rfl) rfl ?_
    refine l_r (r_move rfl) rfl ?_
    refine l_part (dj := 31) rfl (fun hc5 => ?_) (fun hc5 => ?_)
    ·
      have hc5p := of_decide_eq_true hc5
      refine l_off (dj := 31) (b := true) rfl rfl rfl rfl rfl ?_
      refine l_off (dj := 31) (b := true) rfl rfl rfl rfl rfl ?_
      refine l_off (dj := 31) (b := true) rfl rfl rfl rfl rfl ?_
      refine l_r (r_pick_t rfl rfl) rfl ?_
      refine l_r (r_move rfl) rfl ?_
      refine l_off (dj := 36) (b := true) rfl rfl rfl rfl rfl ?_
      refine l_off (dj := 36) (b := true) rfl rfl rfl rfl rfl ?_
      refine l_r (r_pick_t rfl rfl) rfl ?_
      refine l_r (r_move rfl) rfl ?_
      refine l_off (dj := 40) (b := true) rfl rfl rfl rfl rfl ?_
      refine l_off (dj := 40) (b := true) rfl rfl rfl rfl rfl ?_
      refine l_off (dj := 40) (b := true) rfl rfl rfl rfl rfl ?_
      refine l_r (r_pick_t rfl rfl) rfl ?_
      refine l_r (r_move rfl) rfl ?_
      refine l_off (dj := 45) (b := true) rfl rfl rfl rfl rfl ?_
      refine l_off (dj := 45) (b := true) rfl rfl rfl rfl rfl ?_
      refine l_r (r_pick_t rfl rfl) rfl ?_
      refine l_r (r_move rfl) rfl ?_
      refine l_off (dj := 49) (b := true) rfl rfl rfl rfl rfl ?_
      refine l_off (dj := 49) (b := true) rfl rfl rfl rfl rfl ?_
      refine l_off (dj := 49) (b := true) rfl rfl rfl rfl rfl ?_
      refine l_r (r_pick_t rfl rfl) rfl ?_
      refine l_nil ?_
      refine s_then rfl ?_
      refine s_seq ?_
      refine s_region ?_
      refine l_r (r_move rfl) rfl ?_
      refine l_r (r_assign rfl) rfl ?_
      refine l_nil ?_
      refine s_ret ?_
      exact q_done (.inr rfl) (.tmp rfl .nil) ⟨rfl, hs3.toExt⟩
    ·
      have hc5p := of_decide_eq_false hc5
      refine l_on (dj := 31) rfl rfl rfl ?_
      refine l_r (r_move rfl) rfl ?_
      refine l_on (dj := 31) rfl rfl rfl ?_
      refine l_r (r_move rfl) rfl ?_
      refine l_on (dj := 31) rfl rfl rfl ?_
      refine l_r (r_cmp rfl rfl rfl) rfl ?_
      refine l_r (r_pick_f rfl rfl) rfl ?_
      refine l_r (r_move rfl) rfl ?_
      refine l_part (dj := 36) rfl (fun hc6 => ?_) (fun hc6 => ?_)
      ·
        have hc6p := of_decide_eq_true hc6
        refine l_off (dj := 36) (b := true) rfl rfl rfl rfl rfl ?_
        refine l_off (dj := 36) (b := true) rfl rfl rfl rfl rfl ?_
        refine l_r (r_pick_t rfl rfl) rfl ?_
        refine l_r (r_move rfl) rfl ?_
        refine l_off (dj := 40) (b := true) rfl rfl rfl rfl rfl ?_
        refine l_off (dj := 40) (b := true) rfl rfl rfl rfl rfl ?_
        refine l_off (dj := 40) (b := true) rfl rfl rfl rfl rfl ?_
        refine l_r (r_pick_t rfl rfl) rfl ?_
        refine l_r (r_move rfl) rfl ?_
        refine l_off (dj := 45) (b := true) rfl rfl rfl rfl rfl ?_
        refine l_off (dj := 45) (b := true) rfl rfl rfl rfl rfl ?_
        refine l_r (r_pick_t rfl rfl) rfl ?_
        refine l_r (r_move rfl) rfl ?_
        refine l_off (dj := 49) (b := true) rfl rfl rfl rfl rfl ?_
        refine l_off (dj := 49) (b := true) rfl rfl rfl rfl rfl ?_
        refine l_off (dj := 49) (b := true) rfl rfl rfl rfl rfl ?_
        refine l_r (r_pick_t rfl rfl) rfl ?_
        refine l_nil ?_
        refine s_then rfl ?_
        refine s_seq ?_
        refine s_region ?_
        refine l_r (r_move rfl) rfl ?_
        refine l_r (r_assign rfl) rfl ?_
        refine l_nil ?_
        refine s_ret ?_
        exact q_done (.inr rfl) (.tmp rfl .nil) ⟨rfl, hs3.toExt⟩
      ·
        have hc6p := of_decide_eq_false hc6
        refine l_on (dj := 36) rfl rfl rfl ?_
        refine l_r (r_move rfl) rfl ?_
        refine l_on (dj := 36) rfl rfl rfl ?_
        refine l_r (r_cmp rfl rfl rfl) rfl ?_
        refine l_r (r_pick_f rfl rfl) rfl ?_
        refine l_r (r_move rfl) rfl ?_
        refine l_part (dj := 40) rfl (fun hc7 => ?_) (fun hc7 => ?_)
        ·
          have hc7p := of_decide_eq_true hc7
          refine l_off (dj := 40) (b := true) rfl rfl rfl rfl rfl ?_
          refine l_off (dj := 40) (b := true) rfl rfl rfl rfl rfl ?_
          refine l_off (dj := 40) (b := true) rfl rfl rfl rfl rfl ?_
          refine l_r (r_pick_t rfl rfl) rfl ?_
          refine l_r (r_move rfl) rfl ?_
          refine l_off (dj := 45) (b := true) rfl rfl rfl rfl rfl ?_
          refine l_off (dj := 45) (b := true) rfl rfl rfl rfl rfl ?_
          refine l_r (r_pick_t rfl rfl) rfl ?_
          refine l_r (r_move rfl) rfl ?_
          refine l_off (dj := 49) (b := true) rfl rfl rfl rfl rfl ?_
          refine l_off (dj := 49) (b := true) rfl rfl rfl rfl rfl ?_
          refine l_off (dj := 49) (b := true) rfl rfl rfl rfl rfl ?_
          refine l_r (r_pick_t rfl rfl) rfl ?_
          refine l_nil ?_
          refine s_then rfl ?_
          refine s_seq ?_
          refine s_region ?_
          refine l_r (r_move rfl) rfl ?_
          refine l_r (r_assign rfl) rfl ?_
          refine l_nil ?_
          refine s_ret ?_
          exact q_done (.inr rfl) (.tmp rfl .nil) ⟨rfl, hs3.toExt⟩
        ·
          have hc7p := of_decide_eq_false hc7
          refine l_on (dj := 40) rfl rfl rfl ?_
          refine l_r (r_move rfl) rfl ?_
          refine l_on (dj := 40) rfl rfl rfl ?_
          refine l_r (r_move rfl) rfl ?_
          refine l_on (dj := 40) rfl rfl rfl ?_
          refine l_r (r_cmp rfl rfl rfl) rfl ?_
          refine l_r (r_pick_f rfl rfl) rfl ?_
          refine l_r (r_move rfl) rfl ?_
          refine l_part (dj := 45) rfl (fun hc8 => ?_) (fun hc8 => ?_)
          ·
            have hc8p := of_decide_eq_true hc8
            refine l_off (dj := 45) (b := true) rfl rfl rfl rfl rfl ?_
            refine l_off (dj := 45) (b := true) rfl rfl rfl rfl rfl ?_
            refine l_r (r_pick_t rfl rfl) rfl ?_
            refine l_r (r_move rfl) rfl ?_
            refine l_off (dj := 49) (b := true) rfl rfl rfl rfl rfl ?_
            refine l_off (dj := 49) (b := true) rfl rfl rfl rfl rfl ?_
            refine l_off (dj := 49) (b := true) rfl rfl rfl rfl rfl ?_
            refine l_r (r_pick_t rfl rfl) rfl ?_
            refine l_nil ?_
            refine s_then rfl ?_
            refine s_seq ?_
            refine s_region ?_
            refine l_r (r_move rfl) rfl ?_
            refine l_r (r_assign rfl) rfl ?_
            refine l_nil ?_
            refine s_ret ?_
            exact q_done (.inr rfl) (.tmp rfl .nil) ⟨rfl, hs3.toExt⟩
          ·
            have hc8p := of_decide_eq_false hc8
            refine l_on (dj := 45) rfl rfl rfl ?_
            refine l_r (r_move rfl) rfl ?_
            refine l_on (dj := 45) rfl rfl rfl ?_
            refine l_r (r_cmp rfl rfl rfl) rfl ?_
            refine l_r (r_pick_f rfl rfl) rfl ?_
            refine l_r (r_move rfl) rfl ?_
            refine l_part (dj := 49) rfl (fun hc9 => ?_) (fun hc9 => ?_)
            ·
              have hc9p := of_decide_eq_true hc9
              refine l_off (dj := 49) (b := true) rfl rfl rfl rfl rfl ?_
              refine l_off (dj := 49) (b := true) rfl rfl rfl rfl rfl ?_
              refine l_off (dj := 49) (b := true) rfl rfl rfl rfl rfl ?_
              refine l_r (r_pick_t rfl rfl) rfl ?_
              refine l_nil ?_
              refine s_then rfl ?_
              refine s_seq ?_
              refine s_region ?_
              refine l_r (r_move rfl) rfl ?_
              refine l_r (r_assign rfl) rfl ?_
              refine l_nil ?_
              refine s_ret ?_
              exact q_done (.inr rfl) (.tmp rfl .nil) ⟨rfl, hs3.toExt⟩
            ·
              have hc9p := of_decide_eq_false hc9
              refine l_on (dj := 49) rfl rfl rfl ?_
              refine l_r (r_move rfl) rfl ?_
              refine l_on (dj := 49) rfl rfl rfl ?_
              refine l_r (r_move rfl) rfl ?_
              refine l_on (dj := 49) rfl rfl rfl ?_
              refine l_r (r_cmp rfl rfl rfl) rfl ?_
              refine l_r (r_pick_f rfl rfl) rfl ?_
              refine l_nil ?_
              refine s_part (dj := 53) rfl (fun hc10 => ?_) (fun hc10 => ?_)
              ·
                have hc10p := of_decide_eq_true hc10
                refine s_then rfl ?_
                refine s_seq ?_
                refine s_region ?_
                refine l_r (r_move rfl) rfl ?_
                refine l_r (r_assign rfl) rfl ?_
                refine l_nil ?_
                refine s_ret ?_
                exact q_done (.inr rfl) (.tmp rfl .nil) ⟨rfl, hs3.toExt⟩
              ·
                have hc10p := of_decide_eq_false hc10
                refine s_else rfl ?_
                refine s_skip ?_
                refine s_seq ?_
                obtain ⟨hp4, hch⟩ := may_chan hc4n
                have hKm := hKl0
                have hp2 : cf.Parts.length ≤ 2000000 := by omega
                refine s_region ?_
                refine l_r (r_loadNp rfl hs3 Repl.here ag27 sz27) rfl ?_
                refine l_r (r_move rfl) rfl ?_
                have hcall := reach_val (part := a) w3 (Kd.config.on hKm hs3) hp2
                refine l_call rfl rfl fk14 rfl hcall ?_
                rintro _ w11 ⟨Ax, cx, rfl, hx11, hx⟩
                have hs11 := hs3.ext hx11
                refine ⟨_, rfl, ?_⟩
                have hcb4 : Cells w11 b4 0 [.int .i64 cf.Frame, .int .i64 cf.Switch, .slice Al_2 cf.Lines.length cl_2, .slice Al_3 cf.Parts.length cl_3, .slice Al_4 cf.Windows.length cl_4, .slice Al_5 cf.Channels.length cl_5] := heap_all (hs11.get (r := .pt b4 _ _) List.mem_cons_self)
                have hl_2 := (hl_2.onk hs11).all_ (by decide)
                have hl_3 := (hl_3.onk hs11).all_ (by decide)
                have hl_4 := (hl_4.onk hs11).all_ (by decide)
                have hl_5 := (hl_5.onk hs11).all_ (by decide)
                have hKm := Kd.config.on hKm hs11
                have hxb := hs11.toExt
                have hs12 := St.refl w11.heap.size w11
                have hlenx := rv_len (cf := cf) (part := a) ⟨by omega, by omega⟩
                refine l_r (r_assign rfl) rfl ?_
                refine l_nil ?_
                refine s_seq ?_
                refine s_region ?_
                refine l_r (r_loadN rfl ag27 (hcb4.on hs12) sz27) rfl ?_
                refine l_r (r_move rfl) rfl ?_
                have hcall := reach_val (part := b) w11 (Kd.config.on hKm hs12) hp2
                refine l_call rfl rfl fk14 rfl hcall ?_
                rintro _ w13 ⟨Ay, cy, rfl, hx13, hy⟩
                have hs13 := hs12.ext hx13
                refine ⟨_, rfl, ?_⟩
                have hl_2 := (hl_2.onk hs13).all_ (by decide)
                have hl_3 := (hl_3.onk hs13).all_ (by decide)
                have hl_4 := (hl_4.onk hs13).all_ (by decide)
                have hl_5 := (hl_5.onk hs13).all_ (by decide)
                have hcb4 := hcb4.on hs13
                have hx := (hx.onk hs13).all_ (by decide)
                have hKm := Kd.config.on hKm hs13
                have hxb := hxb.trans hs13.toExt
                have hs14 := St.refl w13.heap.size w13
                have hleny := rv_len (cf := cf) (part := b) ⟨by omega, by omega⟩
                refine l_r (r_assign rfl) rfl ?_
                refine l_nil ?_
                refine s_seq ?_
                refine s_region ?_
                refine l_r (r_loadN rfl ag27 (hcb4.on hs14) sz27) rfl ?_
                refine l_r (r_move rfl) rfl ?_
                have hcall := reach_val (part := d) w13 (Kd.config.on hKm hs14) hp2
                refine l_call rfl rfl fk14 rfl hcall ?_
                rintro _ w15 ⟨Az, cz, rfl, hx15, hz⟩
                have hs15 := hs14.ext hx15
                refine ⟨_, rfl, ?_⟩
                have hl_2 := (hl_2.onk hs15).all_ (by decide)
                have hl_3 := (hl_3.onk hs15).all_ (by decide)
                have hl_4 := (hl_4.onk hs15).all_ (by decide)
                have hl_5 := (hl_5.onk hs15).all_ (by decide)
                have hcb4 := hcb4.on hs15
                have hx := (hx.onk hs15).all_ (by decide)
                have hy := (hy.onk hs15).all_ (by decide)
                have hKm := Kd.config.on hKm hs15
                have hxb := hxb.trans hs15.toExt
                have hs16 := St.refl w15.heap.size w15
                have hlenz := rv_len (cf := cf) (part := d) ⟨by omega, by omega⟩
                refine l_r (r_assign rfl) rfl ?_
                refine l_nil ?_
                refine s_seq ?_
                refine s_seq ?_
                refine s_region ?_
                refine l_r (r_move rfl) rfl ?_
                refine l_r (r_len rfl el35) rfl ?_
                refine l_r (r_move rfl) rfl ?_
                refine l_r (r_cmp rfl rfl (b := false) (congrArg some (bne_eq_false_iff_eq.2 (by rw [hlenx])))) rfl ?_
                refine l_r (r_move rfl) rfl ?_
                refine l_on (dj := 68) rfl rfl rfl ?_
                refine l_r (r_move rfl) rfl ?_
                refine l_on (dj := 68) rfl rfl rfl ?_
                refine l_r (r_len rfl el35) rfl ?_
                refine l_on (dj := 68) rfl rfl rfl ?_
                refine l_r (r_move rfl) rfl ?_
                refine l_on (dj := 68) rfl rfl rfl ?_
                refine l_r (r_cmp rfl rfl (b := false) (congrArg some (bne_eq_false_iff_eq.2 (by rw [hleny])))) rfl ?_
                refine l_r (r_pick_f rfl rfl) rfl ?_
                refine l_r (r_move rfl) rfl ?_
                refine l_on (dj := 74) rfl rfl rfl ?_
                refine l_r (r_move rfl) rfl ?_
                refine l_on (dj := 74) rfl rfl rfl ?_
                refine l_r (r_len rfl el35) rfl ?_
                refine l_on (dj := 74) rfl rfl rfl ?_
                refine l_r (r_move rfl) rfl ?_
                refine l_on (dj := 74) rfl rfl rfl ?_
                refine l_r (r_cmp rfl rfl (b := false) (congrArg some (bne_eq_false_iff_eq.2 (by rw [hlenz])))) rfl ?_
                refine l_r (r_pick_f rfl rfl) rfl ?_
                refine l_r (r_move rfl) rfl ?_
                refine l_on (dj := 80) rfl rfl rfl ?_
                refine l_r (r_move rfl) rfl ?_
                refine l_on (dj := 80) rfl rfl rfl ?_
                refine l_r (r_move rfl) rfl ?_
                refine l_on (dj := 80) rfl rfl rfl ?_
                obtain ⟨e17x, e17h, e17b, e17o, e17cs, e17A, _, e17K, e17c⟩ := hx.get_ (i := a.toNat) (by omega)
                obtain rfl : e17cs = [.bool e17x] := e17K
                refine l_r (r_indexA rfl e17A rfl (by omega) (by omega) el35) rfl ?_
                refine l_on (dj := 80) rfl rfl rfl ?_
                refine l_r (r_load1 rfl ag4 ((e17c.on hs16).get (j := 0) rfl)) rfl ?_
                refine l_on (dj := 80) rfl rfl rfl ?_
                obtain rfl : e17x = true := (rv_iff e17h (by omega)).2 (Rch.self)
                refine l_r (r_not rfl) rfl ?_
                refine l_r (r_pick_f rfl rfl) rfl ?_
                refine l_r (r_move rfl) rfl ?_
                refine l_on (dj := 87) rfl rfl rfl ?_
                refine l_r (r_move rfl) rfl ?_
                refine l_on (dj := 87) rfl rfl rfl ?_
                refine l_r (r_move rfl) rfl ?_
                refine l_on (dj := 87) rfl rfl rfl ?_
                obtain ⟨e19x, e19h, e19b, e19o, e19cs, e19A, _, e19K, e19c⟩ := hy.get_ (i := a.toNat) (by omega)
                obtain rfl : e19cs = [.bool e19x] := e19K
                refine l_r (r_indexA rfl e19A rfl (by omega) (by omega) el35) rfl ?_
                refine l_on (dj := 87) rfl rfl rfl ?_
                refine l_r (r_load1 rfl ag4 ((e19c.on hs16).get (j := 0) rfl)) rfl ?_
                refine l_on (dj := 87) rfl rfl rfl ?_
                refine l_r (r_move rfl) rfl ?_
                refine l_part (dj := 92) rfl (fun hc20 => ?_) (fun hc20 => ?_)
                ·
                  refine l_on (dj := 92) rfl rfl rfl ?_
                  refine l_r (r_move rfl) rfl ?_
                  refine l_on (dj := 92) rfl rfl rfl ?_
                  refine l_r (r_move rfl) rfl ?_
                  refine l_on (dj := 92) rfl rfl rfl ?_
                  obtain ⟨e21x, e21h, e21b, e21o, e21cs, e21A, _, e21K, e21c⟩ := hz.get_ (i := b.toNat) (by omega)
                  obtain rfl : e21cs = [.bool e21x] := e21K
                  refine l_r (r_indexA rfl e21A rfl (by omega) (by omega) el35) rfl ?_
                  refine l_on (dj := 92) rfl rfl rfl ?_
                  refine l_r (r_load1 rfl ag4 ((e21c.on hs16).get (j := 0) rfl)) rfl ?_
                  refine l_on (dj := 87) rfl rfl rfl ?_
                  refine l_r (r_pick_t rfl rfl) rfl ?_
                  refine l_on (dj := 87) rfl rfl rfl ?_
                  refine l_r (r_move rfl) rfl ?_
                  refine l_part (dj := 98) rfl (fun hc22 => ?_) (fun hc22 => ?_)
                  ·
                    refine l_on (dj := 98) rfl rfl rfl ?_
                    refine l_r (r_move rfl) rfl ?_
                    refine l_on (dj := 98) rfl rfl rfl ?_
                    refine l_r (r_move rfl) rfl ?_
                    refine l_on (dj := 98) rfl rfl rfl ?_
                    obtain ⟨e23x, e23h, e23b, e23o, e23cs, e23A, _, e23K, e23c⟩ := hz.get_ (i := a.toNat) (by omega)
                    obtain rfl : e23cs = [.bool e23x] := e23K
                    refine l_r (r_indexA rfl e23A rfl (by omega) (by omega) el35) rfl ?_
                    refine l_on (dj := 98) rfl rfl rfl ?_
                    refine l_r (r_load1 rfl ag4 ((e23c.on hs16).get (j := 0) rfl)) rfl ?_
                    refine l_on (dj := 98) rfl rfl rfl ?_
                    obtain rfl : e23x = true := (rv_iff e23h (by omega)).2 (rch_trans ((rv_iff e21h (by omega)).1 hc22) ((rv_iff e19h (by omega)).1 hc20))
                    refine l_r (r_not rfl) rfl ?_
                    refine l_on (dj := 87) rfl rfl rfl ?_
                    refine l_r (r_pick_t rfl rfl) rfl ?_
                    refine l_r (r_pick_f rfl rfl) rfl ?_
                    refine l_nil ?_
                    refine s_else rfl ?_
                    refine s_skip ?_
                    refine s_seq ?_
                    refine s_seq ?_
                    refine s_region ?_
                    refine l_r (r_assign rfl) rfl ?_
                    refine l_nil ?_
                    refine s_block ?_
                    refine s_loop (fun m L wl => ∃ (k : Nat), L = [(14, .int .i64 ((k : Nat) : Int)), (2, .int .i64 b), (4, .pointer (some ⟨b4, 0 + 0, none⟩)), (12, .slice Ay ((reachV cf b)).length cy)] ∧ m = cf.Channels.length - k ∧ k ≤ cf.Channels.length ∧ St w15.heap.size w15 wl []) _ [(14, .int .i64 ((0 : Nat) : Int)), (2, .int .i64 b), (4, .pointer (some ⟨b4, 0 + 0, none⟩)), (12, .slice Ay ((reachV cf b)).length cy)] (.cons rfl (.cons rfl (.cons rfl (.cons rfl .nil)))) ⟨0, rfl, rfl, Nat.zero_le _, hs16⟩ ?_
                    rintro _ _ w25 ⟨k, rfl, rfl, hkk, hs25⟩
                    refine s_seq ?_
                    refine s_seq ?_
                    refine s_region ?_
                    refine l_r (r_move rfl) rfl ?_
                    refine l_r (r_field rfl fo27_5) rfl ?_
                    refine l_r (r_load1 rfl ag25 ((hcb4.on hs25).get (j := 5) rfl)) rfl ?_
                    refine l_r (r_len rfl el25) rfl ?_
                    refine l_r (r_cmp rfl rfl rfl) rfl ?_
                    refine l_nil ?_
                    refine s_part (dj := 110) rfl (fun hc26 => ?_) (fun hc26 => ?_)
                    ·
                      have hc26p := of_decide_eq_true hc26
                      refine s_then rfl ?_
                      refine s_skip ?_
                      refine s_seq ?_
                      refine s_block ?_
                      refine s_seq ?_
                      refine s_region ?_
                      refine l_r (r_field rfl fo27_5) rfl ?_
                      refine l_r (r_load1 rfl ag25 ((hcb4.on hs25).get (j := 5) rfl)) rfl ?_
                      refine l_r (r_move rfl) rfl ?_
                      obtain ⟨e27x, e27h, e27b, e27o, e27cs, e27A, _, e27K, e27c⟩ := hl_5.get_ (i := k) (by omega)
                      obtain rfl : e27cs = [.bool e27x.Queuing, .int .i64 e27x.From, .int .i64 e27x.A, .int .i64 e27x.To, .int .i64 e27x.B] := e27K
                      refine l_r (r_indexA rfl e27A rfl (by omega) (by omega) el25) rfl ?_
                      refine l_r (r_loadN rfl ag32 (e27c.on hs25) sz32) rfl ?_
                      obtain ⟨⟨hf0, hf1⟩, ht0, ht1⟩ := hch _ (List.mem_of_getElem? e27h)
                      refine l_alloc zz32 rfl hs25 ?_
                      intro w28 b15 hb15 hx28 hs28
                      refine l_storeAll rfl rfl sz32 (one_all rfl) (Nat.le_refl _) hs28 Repl.here rfl ?_
                      intro w29 hz29 hk29 hs29
                      refine l_nil ?_
                      refine s_seq ?_
                      refine s_region ?_
                      refine l_r (r_field rfl fo32_3) rfl ?_
                      refine l_r (r_load1p rfl hs29 Repl.here ag3 rfl) rfl ?_
                      refine l_r (r_move rfl) rfl ?_
                      refine l_r (r_cmp rfl rfl rfl) rfl ?_
                      refine l_r (r_move rfl) rfl ?_
                      refine l_part (dj := 122) rfl (fun hc30 => ?_) (fun hc30 => ?_)
                      ·
                        have hc30p := beq_iff_eq.1 hc30
                        refine l_on (dj := 122) rfl rfl rfl ?_
                        refine l_r (r_move rfl) rfl ?_
                        refine l_on (dj := 122) rfl rfl rfl ?_
                        refine l_r (r_field rfl fo32_1) rfl ?_
                        refine l_on (dj := 122) rfl rfl rfl ?_
                        refine l_r (r_load1p rfl hs29 Repl.here ag3 rfl) rfl ?_
                        refine l_on (dj := 122) rfl rfl rfl ?_
                        obtain ⟨e31x, e31h, e31b, e31o, e31cs, e31A, _, e31K, e31c⟩ := hy.get_ (i := e27x.From.toNat) (by omega)
                        obtain rfl : e31cs = [.bool e31x] := e31K
                        refine l_r (r_indexA rfl e31A rfl (by omega) (by omega) el35) rfl ?_
                        refine l_on (dj := 122) rfl rfl rfl ?_
                        refine l_r (r_load1 rfl ag4 ((e31c.on hs29).get (j := 0) rfl)) rfl ?_
                        refine l_on (dj := 122) rfl rfl rfl ?_
                        obtain rfl : e31x = true := (rv_iff e31h (by omega)).2 (Rch.from_ (List.mem_of_getElem? e27h) (by rw [hc30p]; exact Rch.self) ⟨hf0, hf1⟩)
                        refine l_r (r_not rfl) rfl ?_
                        refine l_r (r_pick_t rfl rfl) rfl ?_
                        refine l_r (r_move rfl) rfl ?_
                        refine l_on (dj := 130) rfl rfl rfl ?_
                        refine l_r (r_field rfl fo32_0) rfl ?_
                        refine l_on (dj := 130) rfl rfl rfl ?_
                        refine l_r (r_load1p rfl hs29 Repl.here ag4 rfl) rfl ?_
                        refine l_on (dj := 130) rfl rfl rfl ?_
                        refine l_r (r_move rfl) rfl ?_
                        refine l_part (dj := 133) rfl (fun hc33 => ?_) (fun hc33 => ?_)
                        ·
                          refine l_on (dj := 133) rfl rfl rfl ?_
                          refine l_r (r_field rfl fo32_1) rfl ?_
                          refine l_on (dj := 133) rfl rfl rfl ?_
                          refine l_r (r_load1p rfl hs29 Repl.here ag3 rfl) rfl ?_
                          refine l_on (dj := 133) rfl rfl rfl ?_
                          refine l_r (r_move rfl) rfl ?_
                          refine l_on (dj := 133) rfl rfl rfl ?_
                          refine l_r (r_cmp rfl rfl rfl) rfl ?_
                          refine l_on (dj := 130) rfl rfl rfl ?_
                          refine l_r (r_pick_t rfl rfl) rfl ?_
                          refine l_on (dj := 130) rfl rfl rfl ?_
                          refine l_r (r_move rfl) rfl ?_
                          refine l_part (dj := 139) rfl (fun hc34 => ?_) (fun hc34 => ?_)
                          ·
                            have hc34p := beq_iff_eq.1 hc34
                            refine l_on (dj := 139) rfl rfl rfl ?_
                            refine l_r (r_move rfl) rfl ?_
                            refine l_on (dj := 139) rfl rfl rfl ?_
                            refine l_r (r_field rfl fo32_3) rfl ?_
                            refine l_on (dj := 139) rfl rfl rfl ?_
                            refine l_r (r_load1p rfl hs29 Repl.here ag3 rfl) rfl ?_
                            refine l_on (dj := 139) rfl rfl rfl ?_
                            obtain ⟨e35x, e35h, e35b, e35o, e35cs, e35A, _, e35K, e35c⟩ := hy.get_ (i := e27x.To.toNat) (by omega)
                            obtain rfl : e35cs = [.bool e35x] := e35K
                            refine l_r (r_indexA rfl e35A rfl (by omega) (by omega) el35) rfl ?_
                            refine l_on (dj := 139) rfl rfl rfl ?_
                            refine l_r (r_load1 rfl ag4 ((e35c.on hs29).get (j := 0) rfl)) rfl ?_
                            refine l_on (dj := 139) rfl rfl rfl ?_
                            obtain rfl : e35x = true := (rv_iff e35h (by omega)).2 (Rch.to_ (List.mem_of_getElem? e27h) hc33 (by rw [hc34p]; exact Rch.self) ⟨ht0, ht1⟩)
                            refine l_r (r_not rfl) rfl ?_
                            refine l_on (dj := 130) rfl rfl rfl ?_
                            refine l_r (r_pick_t rfl rfl) rfl ?_
                            refine l_r (r_pick_f rfl rfl) rfl ?_
                            refine l_nil ?_
                            refine s_else rfl ?_
                            refine s_skip ?_
                            refine s_mark ?_
                            refine s_region ?_
                            refine l_r (r_move rfl) rfl ?_
                            refine l_r (r_inc rfl (by omega)) rfl ?_
                            refine l_r (r_assign rfl) rfl ?_
                            refine l_nil ?_
                            refine s_again ?_
                            exact ⟨_, [(14, .int .i64 (((k + 1) : Nat) : Int)), (2, .int .i64 b), (4, .pointer (some ⟨b4, 0 + 0, none⟩)), (12, .slice Ay ((reachV cf b)).length cy)], by omega, (.cons rfl (.cons rfl (.cons rfl (.cons rfl .nil)))), ⟨(k + 1), rfl, rfl, by omega, hs29.tail⟩⟩
                          ·
                            have hc34p := beq_eq_false_iff_ne.1 hc34
                            refine l_off (dj := 139) (b := false) rfl rfl rfl rfl rfl ?_
                            refine l_off (dj := 139) (b := false) rfl rfl rfl rfl rfl ?_
                            refine l_off (dj := 139) (b := false) rfl rfl rfl rfl rfl ?_
                            refine l_off (dj := 139) (b := false) rfl rfl rfl rfl rfl ?_
                            refine l_off (dj := 139) (b := false) rfl rfl rfl rfl rfl ?_
                            refine l_off (dj := 139) (b := false) rfl rfl rfl rfl rfl ?_
                            refine l_on (dj := 130) rfl rfl rfl ?_
                            refine l_r (r_pick_f rfl rfl) rfl ?_
                            refine l_r (r_pick_f rfl rfl) rfl ?_
                            refine l_nil ?_
                            refine s_else rfl ?_
                            refine s_skip ?_
                            refine s_mark ?_
                            refine s_region ?_
                            refine l_r (r_move rfl) rfl ?_
                            refine l_r (r_inc rfl (by omega)) rfl ?_
                            refine l_r (r_assign rfl) rfl ?_
                            refine l_nil ?_
                            refine s_again ?_
                            exact ⟨_, [(14, .int .i64 (((k + 1) : Nat) : Int)), (2, .int .i64 b), (4, .pointer (some ⟨b4, 0 + 0, none⟩)), (12, .slice Ay ((reachV cf b)).length cy)], by omega, (.cons rfl (.cons rfl (.cons rfl (.cons rfl .nil)))), ⟨(k + 1), rfl, rfl, by omega, hs29.tail⟩⟩
                        ·
                          refine l_off (dj := 133) (b := false) rfl rfl rfl rfl rfl ?_
                          refine l_off (dj := 133) (b := false) rfl rfl rfl rfl rfl ?_
                          refine l_off (dj := 133) (b := false) rfl rfl rfl rfl rfl ?_
                          refine l_off (dj := 133) (b := false) rfl rfl rfl rfl rfl ?_
                          refine l_on (dj := 130) rfl rfl rfl ?_
                          refine l_r (r_pick_f rfl rfl) rfl ?_
                          refine l_on (dj := 130) rfl rfl rfl ?_
                          refine l_r (r_move rfl) rfl ?_
                          refine l_off (dj := 139) (b := false) rfl rfl rfl rfl rfl ?_
                          refine l_off (dj := 139) (b := false) rfl rfl rfl rfl rfl ?_
                          refine l_off (dj := 139) (b := false) rfl rfl rfl rfl rfl ?_
                          refine l_off (dj := 139) (b := false) rfl rfl rfl rfl rfl ?_
                          refine l_off (dj := 139) (b := false) rfl rfl rfl rfl rfl ?_
                          refine l_off (dj := 139) (b := false) rfl rfl rfl rfl rfl ?_
                          refine l_on (dj := 130) rfl rfl rfl ?_
                          refine l_r (r_pick_f rfl rfl) rfl ?_
                          refine l_r (r_pick_f rfl rfl) rfl ?_
                          refine l_nil ?_
                          refine s_else rfl ?_
                          refine s_skip ?_
                          refine s_mark ?_
                          refine s_region ?_
                          refine l_r (r_move rfl) rfl ?_
                          refine l_r (r_inc rfl (by omega)) rfl ?_
                          refine l_r (r_assign rfl) rfl ?_
                          refine l_nil ?_
                          refine s_again ?_
                          exact ⟨_, [(14, .int .i64 (((k + 1) : Nat) : Int)), (2, .int .i64 b), (4, .pointer (some ⟨b4, 0 + 0, none⟩)), (12, .slice Ay ((reachV cf b)).length cy)], by omega, (.cons rfl (.cons rfl (.cons rfl (.cons rfl .nil)))), ⟨(k + 1), rfl, rfl, by omega, hs29.tail⟩⟩
                      ·
                        have hc30p := beq_eq_false_iff_ne.1 hc30
                        refine l_off (dj := 122) (b := false) rfl rfl rfl rfl rfl ?_
                        refine l_off (dj := 122) (b := false) rfl rfl rfl rfl rfl ?_
                        refine l_off (dj := 122) (b := false) rfl rfl rfl rfl rfl ?_
                        refine l_off (dj := 122) (b := false) rfl rfl rfl rfl rfl ?_
                        refine l_off (dj := 122) (b := false) rfl rfl rfl rfl rfl ?_
                        refine l_off (dj := 122) (b := false) rfl rfl rfl rfl rfl ?_
                        refine l_r (r_pick_f rfl rfl) rfl ?_
                        refine l_r (r_move rfl) rfl ?_
                        refine l_on (dj := 130) rfl rfl rfl ?_
                        refine l_r (r_field rfl fo32_0) rfl ?_
                        refine l_on (dj := 130) rfl rfl rfl ?_
                        refine l_r (r_load1p rfl hs29 Repl.here ag4 rfl) rfl ?_
                        refine l_on (dj := 130) rfl rfl rfl ?_
                        refine l_r (r_move rfl) rfl ?_
                        refine l_part (dj := 133) rfl (fun hc37 => ?_) (fun hc37 => ?_)
                        ·
                          refine l_on (dj := 133) rfl rfl rfl ?_
                          refine l_r (r_field rfl fo32_1) rfl ?_
                          refine l_on (dj := 133) rfl rfl rfl ?_
                          refine l_r (r_load1p rfl hs29 Repl.here ag3 rfl) rfl ?_
                          refine l_on (dj := 133) rfl rfl rfl ?_
                          refine l_r (r_move rfl) rfl ?_
                          refine l_on (dj := 133) rfl rfl rfl ?_
                          refine l_r (r_cmp rfl rfl rfl) rfl ?_
                          refine l_on (dj := 130) rfl rfl rfl ?_
                          refine l_r (r_pick_t rfl rfl) rfl ?_
                          refine l_on (dj := 130) rfl rfl rfl ?_
                          refine l_r (r_move rfl) rfl ?_
                          refine l_part (dj := 139) rfl (fun hc38 => ?_) (fun hc38 => ?_)
                          ·
                            have hc38p := beq_iff_eq.1 hc38
                            refine l_on (dj := 139) rfl rfl rfl ?_
                            refine l_r (r_move rfl) rfl ?_
                            refine l_on (dj := 139) rfl rfl rfl ?_
                            refine l_r (r_field rfl fo32_3) rfl ?_
                            refine l_on (dj := 139) rfl rfl rfl ?_
                            refine l_r (r_load1p rfl hs29 Repl.here ag3 rfl) rfl ?_
                            refine l_on (dj := 139) rfl rfl rfl ?_
                            obtain ⟨e39x, e39h, e39b, e39o, e39cs, e39A, _, e39K, e39c⟩ := hy.get_ (i := e27x.To.toNat) (by omega)
                            obtain rfl : e39cs = [.bool e39x] := e39K
                            refine l_r (r_indexA rfl e39A rfl (by omega) (by omega) el35) rfl ?_
                            refine l_on (dj := 139) rfl rfl rfl ?_
                            refine l_r (r_load1 rfl ag4 ((e39c.on hs29).get (j := 0) rfl)) rfl ?_
                            refine l_on (dj := 139) rfl rfl rfl ?_
                            obtain rfl : e39x = true := (rv_iff e39h (by omega)).2 (Rch.to_ (List.mem_of_getElem? e27h) hc37 (by rw [hc38p]; exact Rch.self) ⟨ht0, ht1⟩)
                            refine l_r (r_not rfl) rfl ?_
                            refine l_on (dj := 130) rfl rfl rfl ?_
                            refine l_r (r_pick_t rfl rfl) rfl ?_
                            refine l_r (r_pick_f rfl rfl) rfl ?_
                            refine l_nil ?_
                            refine s_else rfl ?_
                            refine s_skip ?_
                            refine s_mark ?_
                            refine s_region ?_
                            refine l_r (r_move rfl) rfl ?_
                            refine l_r (r_inc rfl (by omega)) rfl ?_
                            refine l_r (r_assign rfl) rfl ?_
                            refine l_nil ?_
                            refine s_again ?_
                            exact ⟨_, [(14, .int .i64 (((k + 1) : Nat) : Int)), (2, .int .i64 b), (4, .pointer (some ⟨b4, 0 + 0, none⟩)), (12, .slice Ay ((reachV cf b)).length cy)], by omega, (.cons rfl (.cons rfl (.cons rfl (.cons rfl .nil)))), ⟨(k + 1), rfl, rfl, by omega, hs29.tail⟩⟩
                          ·
                            have hc38p := beq_eq_false_iff_ne.1 hc38
                            refine l_off (dj := 139) (b := false) rfl rfl rfl rfl rfl ?_
                            refine l_off (dj := 139) (b := false) rfl rfl rfl rfl rfl ?_
                            refine l_off (dj := 139) (b := false) rfl rfl rfl rfl rfl ?_
                            refine l_off (dj := 139) (b := false) rfl rfl rfl rfl rfl ?_
                            refine l_off (dj := 139) (b := false) rfl rfl rfl rfl rfl ?_
                            refine l_off (dj := 139) (b := false) rfl rfl rfl rfl rfl ?_
                            refine l_on (dj := 130) rfl rfl rfl ?_
                            refine l_r (r_pick_f rfl rfl) rfl ?_
                            refine l_r (r_pick_f rfl rfl) rfl ?_
                            refine l_nil ?_
                            refine s_else rfl ?_
                            refine s_skip ?_
                            refine s_mark ?_
                            refine s_region ?_
                            refine l_r (r_move rfl) rfl ?_
                            refine l_r (r_inc rfl (by omega)) rfl ?_
                            refine l_r (r_assign rfl) rfl ?_
                            refine l_nil ?_
                            refine s_again ?_
                            exact ⟨_, [(14, .int .i64 (((k + 1) : Nat) : Int)), (2, .int .i64 b), (4, .pointer (some ⟨b4, 0 + 0, none⟩)), (12, .slice Ay ((reachV cf b)).length cy)], by omega, (.cons rfl (.cons rfl (.cons rfl (.cons rfl .nil)))), ⟨(k + 1), rfl, rfl, by omega, hs29.tail⟩⟩
                        ·
                          refine l_off (dj := 133) (b := false) rfl rfl rfl rfl rfl ?_
                          refine l_off (dj := 133) (b := false) rfl rfl rfl rfl rfl ?_
                          refine l_off (dj := 133) (b := false) rfl rfl rfl rfl rfl ?_
                          refine l_off (dj := 133) (b := false) rfl rfl rfl rfl rfl ?_
                          refine l_on (dj := 130) rfl rfl rfl ?_
                          refine l_r (r_pick_f rfl rfl) rfl ?_
                          refine l_on (dj := 130) rfl rfl rfl ?_
                          refine l_r (r_move rfl) rfl ?_
                          refine l_off (dj := 139) (b := false) rfl rfl rfl rfl rfl ?_
                          refine l_off (dj := 139) (b := false) rfl rfl rfl rfl rfl ?_
                          refine l_off (dj := 139) (b := false) rfl rfl rfl rfl rfl ?_
                          refine l_off (dj := 139) (b := false) rfl rfl rfl rfl rfl ?_
                          refine l_off (dj := 139) (b := false) rfl rfl rfl rfl rfl ?_
                          refine l_off (dj := 139) (b := false) rfl rfl rfl rfl rfl ?_
                          refine l_on (dj := 130) rfl rfl rfl ?_
                          refine l_r (r_pick_f rfl rfl) rfl ?_
                          refine l_r (r_pick_f rfl rfl) rfl ?_
                          refine l_nil ?_
                          refine s_else rfl ?_
                          refine s_skip ?_
                          refine s_mark ?_
                          refine s_region ?_
                          refine l_r (r_move rfl) rfl ?_
                          refine l_r (r_inc rfl (by omega)) rfl ?_
                          refine l_r (r_assign rfl) rfl ?_
                          refine l_nil ?_
                          refine s_again ?_
                          exact ⟨_, [(14, .int .i64 (((k + 1) : Nat) : Int)), (2, .int .i64 b), (4, .pointer (some ⟨b4, 0 + 0, none⟩)), (12, .slice Ay ((reachV cf b)).length cy)], by omega, (.cons rfl (.cons rfl (.cons rfl (.cons rfl .nil)))), ⟨(k + 1), rfl, rfl, by omega, hs29.tail⟩⟩
                    ·
                      have hc26p := of_decide_eq_false hc26
                      refine s_else rfl ?_
                      refine s_exit rfl ?_
                      refine s_seq ?_
                      refine s_region ?_
                      refine l_r (r_assign rfl) rfl ?_
                      refine l_nil ?_
                      refine s_ret ?_
                      exact q_done (.inr rfl) (.tmp rfl .nil) ⟨rfl, hxb.trans hs25.toExt⟩
                  ·
                    refine l_off (dj := 98) (b := false) rfl rfl rfl rfl rfl ?_
                    refine l_off (dj := 98) (b := false) rfl rfl rfl rfl rfl ?_
                    refine l_off (dj := 98) (b := false) rfl rfl rfl rfl rfl ?_
                    refine l_off (dj := 98) (b := false) rfl rfl rfl rfl rfl ?_
                    refine l_off (dj := 98) (b := false) rfl rfl rfl rfl rfl ?_
                    refine l_on (dj := 87) rfl rfl rfl ?_
                    refine l_r (r_pick_f rfl rfl) rfl ?_
                    refine l_r (r_pick_f rfl rfl) rfl ?_
                    refine l_nil ?_
                    refine s_else rfl ?_
                    refine s_skip ?_
                    refine s_seq ?_
                    refine s_seq ?_
                    refine s_region ?_
                    refine l_r (r_assign rfl) rfl ?_
                    refine l_nil ?_
                    refine s_block ?_
                    refine s_loop (fun m L wl => ∃ (k : Nat), L = [(14, .int .i64 ((k : Nat) : Int)), (2, .int .i64 b), (4, .pointer (some ⟨b4, 0 + 0, none⟩)), (12, .slice Ay ((reachV cf b)).length cy)] ∧ m = cf.Channels.length - k ∧ k ≤ cf.Channels.length ∧ St w15.heap.size w15 wl []) _ [(14, .int .i64 ((0 : Nat) : Int)), (2, .int .i64 b), (4, .pointer (some ⟨b4, 0 + 0, none⟩)), (12, .slice Ay ((reachV cf b)).length cy)] (.cons rfl (.cons rfl (.cons rfl (.cons rfl .nil)))) ⟨0, rfl, rfl, Nat.zero_le _, hs16⟩ ?_
                    rintro _ _ w41 ⟨k, rfl, rfl, hkk, hs41⟩
                    refine s_seq ?_
                    refine s_seq ?_
                    refine s_region ?_
                    refine l_r (r_move rfl) rfl ?_
                    refine l_r (r_field rfl fo27_5) rfl ?_
                    refine l_r (r_load1 rfl ag25 ((hcb4.on hs41).get (j := 5) rfl)) rfl ?_
                    refine l_r (r_len rfl el25) rfl ?_
                    refine l_r (r_cmp rfl rfl rfl) rfl ?_
                    refine l_nil ?_
                    refine s_part (dj := 110) rfl (fun hc42 => ?_) (fun hc42 => ?_)
                    ·
                      have hc42p := of_decide_eq_true hc42
                      refine s_then rfl ?_
                      refine s_skip ?_
                      refine s_seq ?_
                      refine s_block ?_
                      refine s_seq ?_
                      refine s_region ?_
                      refine l_r (r_field rfl fo27_5) rfl ?_
                      refine l_r (r_load1 rfl ag25 ((hcb4.on hs41).get (j := 5) rfl)) rfl ?_
                      refine l_r (r_move rfl) rfl ?_
                      obtain ⟨e43x, e43h, e43b, e43o, e43cs, e43A, _, e43K, e43c⟩ := hl_5.get_ (i := k) (by omega)
                      obtain rfl : e43cs = [.bool e43x.Queuing, .int .i64 e43x.From, .int .i64 e43x.A, .int .i64 e43x.To, .int .i64 e43x.B] := e43K
                      refine l_r (r_indexA rfl e43A rfl (by omega) (by omega) el25) rfl ?_
                      refine l_r (r_loadN rfl ag32 (e43c.on hs41) sz32) rfl ?_
                      obtain ⟨⟨hf0, hf1⟩, ht0, ht1⟩ := hch _ (List.mem_of_getElem? e43h)
                      refine l_alloc zz32 rfl hs41 ?_
                      intro w44 b15 hb15 hx44 hs44
                      refine l_storeAll rfl rfl sz32 (one_all rfl) (Nat.le_refl _) hs44 Repl.here rfl ?_
                      intro w45 hz45 hk45 hs45
                      refine l_nil ?_
                      refine s_seq ?_
                      refine s_region ?_
                      refine l_r (r_field rfl fo32_3) rfl ?_
                      refine l_r (r_load1p rfl hs45 Repl.here ag3 rfl) rfl ?_
                      refine l_r (r_move rfl) rfl ?_
                      refine l_r (r_cmp rfl rfl rfl) rfl ?_
                      refine l_r (r_move rfl) rfl ?_
                      refine l_part (dj := 122) rfl (fun hc46 => ?_) (fun hc46 => ?_)
                      ·
                        have hc46p := beq_iff_eq.1 hc46
                        refine l_on (dj := 122) rfl rfl rfl ?_
                        refine l_r (r_move rfl) rfl ?_
                        refine l_on (dj := 122) rfl rfl rfl ?_
                        refine l_r (r_field rfl fo32_1) rfl ?_
                        refine l_on (dj := 122) rfl rfl rfl ?_
                        refine l_r (r_load1p rfl hs45 Repl.here ag3 rfl) rfl ?_
                        refine l_on (dj := 122) rfl rfl rfl ?_
                        obtain ⟨e47x, e47h, e47b, e47o, e47cs, e47A, _, e47K, e47c⟩ := hy.get_ (i := e43x.From.toNat) (by omega)
                        obtain rfl : e47cs = [.bool e47x] := e47K
                        refine l_r (r_indexA rfl e47A rfl (by omega) (by omega) el35) rfl ?_
                        refine l_on (dj := 122) rfl rfl rfl ?_
                        refine l_r (r_load1 rfl ag4 ((e47c.on hs45).get (j := 0) rfl)) rfl ?_
                        refine l_on (dj := 122) rfl rfl rfl ?_
                        obtain rfl : e47x = true := (rv_iff e47h (by omega)).2 (Rch.from_ (List.mem_of_getElem? e43h) (by rw [hc46p]; exact Rch.self) ⟨hf0, hf1⟩)
                        refine l_r (r_not rfl) rfl ?_
                        refine l_r (r_pick_t rfl rfl) rfl ?_
                        refine l_r (r_move rfl) rfl ?_
                        refine l_on (dj := 130) rfl rfl rfl ?_
                        refine l_r (r_field rfl fo32_0) rfl ?_
                        refine l_on (dj := 130) rfl rfl rfl ?_
                        refine l_r (r_load1p rfl hs45 Repl.here ag4 rfl) rfl ?_
                        refine l_on (dj := 130) rfl rfl rfl ?_
                        refine l_r (r_move rfl) rfl ?_
                        refine l_part (dj := 133) rfl (fun hc49 => ?_) (fun hc49 => ?_)
                        ·
                          refine l_on (dj := 133) rfl rfl rfl ?_
                          refine l_r (r_field rfl fo32_1) rfl ?_
                          refine l_on (dj := 133) rfl rfl rfl ?_
                          refine l_r (r_load1p rfl hs45 Repl.here ag3 rfl) rfl ?_
                          refine l_on (dj := 133) rfl rfl rfl ?_
                          refine l_r (r_move rfl) rfl ?_
                          refine l_on (dj := 133) rfl rfl rfl ?_
                          refine l_r (r_cmp rfl rfl rfl) rfl ?_
                          refine l_on (dj := 130) rfl rfl rfl ?_
                          refine l_r (r_pick_t rfl rfl) rfl ?_
                          refine l_on (dj := 130) rfl rfl rfl ?_
                          refine l_r (r_move rfl) rfl ?_
                          refine l_part (dj := 139) rfl (fun hc50 => ?_) (fun hc50 => ?_)
                          ·
                            have hc50p := beq_iff_eq.1 hc50
                            refine l_on (dj := 139) rfl rfl rfl ?_
                            refine l_r (r_move rfl) rfl ?_
                            refine l_on (dj := 139) rfl rfl rfl ?_
                            refine l_r (r_field rfl fo32_3) rfl ?_
                            refine l_on (dj := 139) rfl rfl rfl ?_
                            refine l_r (r_load1p rfl hs45 Repl.here ag3 rfl) rfl ?_
                            refine l_on (dj := 139) rfl rfl rfl ?_
                            obtain ⟨e51x, e51h, e51b, e51o, e51cs, e51A, _, e51K, e51c⟩ := hy.get_ (i := e43x.To.toNat) (by omega)
                            obtain rfl : e51cs = [.bool e51x] := e51K
                            refine l_r (r_indexA rfl e51A rfl (by omega) (by omega) el35) rfl ?_
                            refine l_on (dj := 139) rfl rfl rfl ?_
                            refine l_r (r_load1 rfl ag4 ((e51c.on hs45).get (j := 0) rfl)) rfl ?_
                            refine l_on (dj := 139) rfl rfl rfl ?_
                            obtain rfl : e51x = true := (rv_iff e51h (by omega)).2 (Rch.to_ (List.mem_of_getElem? e43h) hc49 (by rw [hc50p]; exact Rch.self) ⟨ht0, ht1⟩)
                            refine l_r (r_not rfl) rfl ?_
                            refine l_on (dj := 130) rfl rfl rfl ?_
                            refine l_r (r_pick_t rfl rfl) rfl ?_
                            refine l_r (r_pick_f rfl rfl) rfl ?_
                            refine l_nil ?_
                            refine s_else rfl ?_
                            refine s_skip ?_
                            refine s_mark ?_
                            refine s_region ?_
                            refine l_r (r_move rfl) rfl ?_
                            refine l_r (r_inc rfl (by omega)) rfl ?_
                            refine l_r (r_assign rfl) rfl ?_
                            refine l_nil ?_
                            refine s_again ?_
                            exact ⟨_, [(14, .int .i64 (((k + 1) : Nat) : Int)), (2, .int .i64 b), (4, .pointer (some ⟨b4, 0 + 0, none⟩)), (12, .slice Ay ((reachV cf b)).length cy)], by omega, (.cons rfl (.cons rfl (.cons rfl (.cons rfl .nil)))), ⟨(k + 1), rfl, rfl, by omega, hs45.tail⟩⟩
                          ·
                            have hc50p := beq_eq_false_iff_ne.1 hc50
                            refine l_off (dj := 139) (b := false) rfl rfl rfl rfl rfl ?_
                            refine l_off (dj := 139) (b := false) rfl rfl rfl rfl rfl ?_
                            refine l_off (dj := 139) (b := false) rfl rfl rfl rfl rfl ?_
                            refine l_off (dj := 139) (b := false) rfl rfl rfl rfl rfl ?_
                            refine l_off (dj := 139) (b := false) rfl rfl rfl rfl rfl ?_
                            refine l_off (dj := 139) (b := false) rfl rfl rfl rfl rfl ?_
                            refine l_on (dj := 130) rfl rfl rfl ?_
                            refine l_r (r_pick_f rfl rfl) rfl ?_
                            refine l_r (r_pick_f rfl rfl) rfl ?_
                            refine l_nil ?_
                            refine s_else rfl ?_
                            refine s_skip ?_
                            refine s_mark ?_
                            refine s_region ?_
                            refine l_r (r_move rfl) rfl ?_
                            refine l_r (r_inc rfl (by omega)) rfl ?_
                            refine l_r (r_assign rfl) rfl ?_
                            refine l_nil ?_
                            refine s_again ?_
                            exact ⟨_, [(14, .int .i64 (((k + 1) : Nat) : Int)), (2, .int .i64 b), (4, .pointer (some ⟨b4, 0 + 0, none⟩)), (12, .slice Ay ((reachV cf b)).length cy)], by omega, (.cons rfl (.cons rfl (.cons rfl (.cons rfl .nil)))), ⟨(k + 1), rfl, rfl, by omega, hs45.tail⟩⟩
                        ·
                          refine l_off (dj := 133) (b := false) rfl rfl rfl rfl rfl ?_
                          refine l_off (dj := 133) (b := false) rfl rfl rfl rfl rfl ?_
                          refine l_off (dj := 133) (b := false) rfl rfl rfl rfl rfl ?_
                          refine l_off (dj := 133) (b := false) rfl rfl rfl rfl rfl ?_
                          refine l_on (dj := 130) rfl rfl rfl ?_
                          refine l_r (r_pick_f rfl rfl) rfl ?_
                          refine l_on (dj := 130) rfl rfl rfl ?_
                          refine l_r (r_move rfl) rfl ?_
                          refine l_off (dj := 139) (b := false) rfl rfl rfl rfl rfl ?_
                          refine l_off (dj := 139) (b := false) rfl rfl rfl rfl rfl ?_
                          refine l_off (dj := 139) (b := false) rfl rfl rfl rfl rfl ?_
                          refine l_off (dj := 139) (b := false) rfl rfl rfl rfl rfl ?_
                          refine l_off (dj := 139) (b := false) rfl rfl rfl rfl rfl ?_
                          refine l_off (dj := 139) (b := false) rfl rfl rfl rfl rfl ?_
                          refine l_on (dj := 130) rfl rfl rfl ?_
                          refine l_r (r_pick_f rfl rfl) rfl ?_
                          refine l_r (r_pick_f rfl rfl) rfl ?_
                          refine l_nil ?_
                          refine s_else rfl ?_
                          refine s_skip ?_
                          refine s_mark ?_
                          refine s_region ?_
                          refine l_r (r_move rfl) rfl ?_
                          refine l_r (r_inc rfl (by omega)) rfl ?_
                          refine l_r (r_assign rfl) rfl ?_
                          refine l_nil ?_
                          refine s_again ?_
                          exact ⟨_, [(14, .int .i64 (((k + 1) : Nat) : Int)), (2, .int .i64 b), (4, .pointer (some ⟨b4, 0 + 0, none⟩)), (12, .slice Ay ((reachV cf b)).length cy)], by omega, (.cons rfl (.cons rfl (.cons rfl (.cons rfl .nil)))), ⟨(k + 1), rfl, rfl, by omega, hs45.tail⟩⟩
                      ·
                        have hc46p := beq_eq_false_iff_ne.1 hc46
                        refine l_off (dj := 122) (b := false) rfl rfl rfl rfl rfl ?_
                        refine l_off (dj := 122) (b := false) rfl rfl rfl rfl rfl ?_
                        refine l_off (dj := 122) (b := false) rfl rfl rfl rfl rfl ?_
                        refine l_off (dj := 122) (b := false) rfl rfl rfl rfl rfl ?_
                        refine l_off (dj := 122) (b := false) rfl rfl rfl rfl rfl ?_
                        refine l_off (dj := 122) (b := false) rfl rfl rfl rfl rfl ?_
                        refine l_r (r_pick_f rfl rfl) rfl ?_
                        refine l_r (r_move rfl) rfl ?_
                        refine l_on (dj := 130) rfl rfl rfl ?_
                        refine l_r (r_field rfl fo32_0) rfl ?_
                        refine l_on (dj := 130) rfl rfl rfl ?_
                        refine l_r (r_load1p rfl hs45 Repl.here ag4 rfl) rfl ?_
                        refine l_on (dj := 130) rfl rfl rfl ?_
                        refine l_r (r_move rfl) rfl ?_
                        refine l_part (dj := 133) rfl (fun hc53 => ?_) (fun hc53 => ?_)
                        ·
                          refine l_on (dj := 133) rfl rfl rfl ?_
                          refine l_r (r_field rfl fo32_1) rfl ?_
                          refine l_on (dj := 133) rfl rfl rfl ?_
                          refine l_r (r_load1p rfl hs45 Repl.here ag3 rfl) rfl ?_
                          refine l_on (dj := 133) rfl rfl rfl ?_
                          refine l_r (r_move rfl) rfl ?_
                          refine l_on (dj := 133) rfl rfl rfl ?_
                          refine l_r (r_cmp rfl rfl rfl) rfl ?_
                          refine l_on (dj := 130) rfl rfl rfl ?_
                          refine l_r (r_pick_t rfl rfl) rfl ?_
                          refine l_on (dj := 130) rfl rfl rfl ?_
                          refine l_r (r_move rfl) rfl ?_
                          refine l_part (dj := 139) rfl (fun hc54 => ?_) (fun hc54 => ?_)
                          ·
                            have hc54p := beq_iff_eq.1 hc54
                            refine l_on (dj := 139) rfl rfl rfl ?_
                            refine l_r (r_move rfl) rfl ?_
                            refine l_on (dj := 139) rfl rfl rfl ?_
                            refine l_r (r_field rfl fo32_3) rfl ?_
                            refine l_on (dj := 139) rfl rfl rfl ?_
                            refine l_r (r_load1p rfl hs45 Repl.here ag3 rfl) rfl ?_
                            refine l_on (dj := 139) rfl rfl rfl ?_
                            obtain ⟨e55x, e55h, e55b, e55o, e55cs, e55A, _, e55K, e55c⟩ := hy.get_ (i := e43x.To.toNat) (by omega)
                            obtain rfl : e55cs = [.bool e55x] := e55K
                            refine l_r (r_indexA rfl e55A rfl (by omega) (by omega) el35) rfl ?_
                            refine l_on (dj := 139) rfl rfl rfl ?_
                            refine l_r (r_load1 rfl ag4 ((e55c.on hs45).get (j := 0) rfl)) rfl ?_
                            refine l_on (dj := 139) rfl rfl rfl ?_
                            obtain rfl : e55x = true := (rv_iff e55h (by omega)).2 (Rch.to_ (List.mem_of_getElem? e43h) hc53 (by rw [hc54p]; exact Rch.self) ⟨ht0, ht1⟩)
                            refine l_r (r_not rfl) rfl ?_
                            refine l_on (dj := 130) rfl rfl rfl ?_
                            refine l_r (r_pick_t rfl rfl) rfl ?_
                            refine l_r (r_pick_f rfl rfl) rfl ?_
                            refine l_nil ?_
                            refine s_else rfl ?_
                            refine s_skip ?_
                            refine s_mark ?_
                            refine s_region ?_
                            refine l_r (r_move rfl) rfl ?_
                            refine l_r (r_inc rfl (by omega)) rfl ?_
                            refine l_r (r_assign rfl) rfl ?_
                            refine l_nil ?_
                            refine s_again ?_
                            exact ⟨_, [(14, .int .i64 (((k + 1) : Nat) : Int)), (2, .int .i64 b), (4, .pointer (some ⟨b4, 0 + 0, none⟩)), (12, .slice Ay ((reachV cf b)).length cy)], by omega, (.cons rfl (.cons rfl (.cons rfl (.cons rfl .nil)))), ⟨(k + 1), rfl, rfl, by omega, hs45.tail⟩⟩
                          ·
                            have hc54p := beq_eq_false_iff_ne.1 hc54
                            refine l_off (dj := 139) (b := false) rfl rfl rfl rfl rfl ?_
                            refine l_off (dj := 139) (b := false) rfl rfl rfl rfl rfl ?_
                            refine l_off (dj := 139) (b := false) rfl rfl rfl rfl rfl ?_
                            refine l_off (dj := 139) (b := false) rfl rfl rfl rfl rfl ?_
                            refine l_off (dj := 139) (b := false) rfl rfl rfl rfl rfl ?_
                            refine l_off (dj := 139) (b := false) rfl rfl rfl rfl rfl ?_
                            refine l_on (dj := 130) rfl rfl rfl ?_
                            refine l_r (r_pick_f rfl rfl) rfl ?_
                            refine l_r (r_pick_f rfl rfl) rfl ?_
                            refine l_nil ?_
                            refine s_else rfl ?_
                            refine s_skip ?_
                            refine s_mark ?_
                            refine s_region ?_
                            refine l_r (r_move rfl) rfl ?_
                            refine l_r (r_inc rfl (by omega)) rfl ?_
                            refine l_r (r_assign rfl) rfl ?_
                            refine l_nil ?_
                            refine s_again ?_
                            exact ⟨_, [(14, .int .i64 (((k + 1) : Nat) : Int)), (2, .int .i64 b), (4, .pointer (some ⟨b4, 0 + 0, none⟩)), (12, .slice Ay ((reachV cf b)).length cy)], by omega, (.cons rfl (.cons rfl (.cons rfl (.cons rfl .nil)))), ⟨(k + 1), rfl, rfl, by omega, hs45.tail⟩⟩
                        ·
                          refine l_off (dj := 133) (b := false) rfl rfl rfl rfl rfl ?_
                          refine l_off (dj := 133) (b := false) rfl rfl rfl rfl rfl ?_
                          refine l_off (dj := 133) (b := false) rfl rfl rfl rfl rfl ?_
                          refine l_off (dj := 133) (b := false) rfl rfl rfl rfl rfl ?_
                          refine l_on (dj := 130) rfl rfl rfl ?_
                          refine l_r (r_pick_f rfl rfl) rfl ?_
                          refine l_on (dj := 130) rfl rfl rfl ?_
                          refine l_r (r_move rfl) rfl ?_
                          refine l_off (dj := 139) (b := false) rfl rfl rfl rfl rfl ?_
                          refine l_off (dj := 139) (b := false) rfl rfl rfl rfl rfl ?_
                          refine l_off (dj := 139) (b := false) rfl rfl rfl rfl rfl ?_
                          refine l_off (dj := 139) (b := false) rfl rfl rfl rfl rfl ?_
                          refine l_off (dj := 139) (b := false) rfl rfl rfl rfl rfl ?_
                          refine l_off (dj := 139) (b := false) rfl rfl rfl rfl rfl ?_
                          refine l_on (dj := 130) rfl rfl rfl ?_
                          refine l_r (r_pick_f rfl rfl) rfl ?_
                          refine l_r (r_pick_f rfl rfl) rfl ?_
                          refine l_nil ?_
                          refine s_else rfl ?_
                          refine s_skip ?_
                          refine s_mark ?_
                          refine s_region ?_
                          refine l_r (r_move rfl) rfl ?_
                          refine l_r (r_inc rfl (by omega)) rfl ?_
                          refine l_r (r_assign rfl) rfl ?_
                          refine l_nil ?_
                          refine s_again ?_
                          exact ⟨_, [(14, .int .i64 (((k + 1) : Nat) : Int)), (2, .int .i64 b), (4, .pointer (some ⟨b4, 0 + 0, none⟩)), (12, .slice Ay ((reachV cf b)).length cy)], by omega, (.cons rfl (.cons rfl (.cons rfl (.cons rfl .nil)))), ⟨(k + 1), rfl, rfl, by omega, hs45.tail⟩⟩
                    ·
                      have hc42p := of_decide_eq_false hc42
                      refine s_else rfl ?_
                      refine s_exit rfl ?_
                      refine s_seq ?_
                      refine s_region ?_
                      refine l_r (r_assign rfl) rfl ?_
                      refine l_nil ?_
                      refine s_ret ?_
                      exact q_done (.inr rfl) (.tmp rfl .nil) ⟨rfl, hxb.trans hs41.toExt⟩
                ·
                  refine l_off (dj := 92) (b := false) rfl rfl rfl rfl rfl ?_
                  refine l_off (dj := 92) (b := false) rfl rfl rfl rfl rfl ?_
                  refine l_off (dj := 92) (b := false) rfl rfl rfl rfl rfl ?_
                  refine l_off (dj := 92) (b := false) rfl rfl rfl rfl rfl ?_
                  refine l_on (dj := 87) rfl rfl rfl ?_
                  refine l_r (r_pick_f rfl rfl) rfl ?_
                  refine l_on (dj := 87) rfl rfl rfl ?_
                  refine l_r (r_move rfl) rfl ?_
                  refine l_off (dj := 98) (b := false) rfl rfl rfl rfl rfl ?_
                  refine l_off (dj := 98) (b := false) rfl rfl rfl rfl rfl ?_
                  refine l_off (dj := 98) (b := false) rfl rfl rfl rfl rfl ?_
                  refine l_off (dj := 98) (b := false) rfl rfl rfl rfl rfl ?_
                  refine l_off (dj := 98) (b := false) rfl rfl rfl rfl rfl ?_
                  refine l_on (dj := 87) rfl rfl rfl ?_
                  refine l_r (r_pick_f rfl rfl) rfl ?_
                  refine l_r (r_pick_f rfl rfl) rfl ?_
                  refine l_nil ?_
                  refine s_else rfl ?_
                  refine s_skip ?_
                  refine s_seq ?_
                  refine s_seq ?_
                  refine s_region ?_
                  refine l_r (r_assign rfl) rfl ?_
                  refine l_nil ?_
                  refine s_block ?_
                  refine s_loop (fun m L wl => ∃ (k : Nat), L = [(14, .int .i64 ((k : Nat) : Int)), (2, .int .i64 b), (4, .pointer (some ⟨b4, 0 + 0, none⟩)), (12, .slice Ay ((reachV cf b)).length cy)] ∧ m = cf.Channels.length - k ∧ k ≤ cf.Channels.length ∧ St w15.heap.size w15 wl []) _ [(14, .int .i64 ((0 : Nat) : Int)), (2, .int .i64 b), (4, .pointer (some ⟨b4, 0 + 0, none⟩)), (12, .slice Ay ((reachV cf b)).length cy)] (.cons rfl (.cons rfl (.cons rfl (.cons rfl .nil)))) ⟨0, rfl, rfl, Nat.zero_le _, hs16⟩ ?_
                  rintro _ _ w57 ⟨k, rfl, rfl, hkk, hs57⟩
                  refine s_seq ?_
                  refine s_seq ?_
                  refine s_region ?_
                  refine l_r (r_move rfl) rfl ?_
                  refine l_r (r_field rfl fo27_5) rfl ?_
                  refine l_r (r_load1 rfl ag25 ((hcb4.on hs57).get (j := 5) rfl)) rfl ?_
                  refine l_r (r_len rfl el25) rfl ?_
                  refine l_r (r_cmp rfl rfl rfl) rfl ?_
                  refine l_nil ?_
                  refine s_part (dj := 110) rfl (fun hc58 => ?_) (fun hc58 => ?_)
                  ·
                    have hc58p := of_decide_eq_true hc58
                    refine s_then rfl ?_
                    refine s_skip ?_
                    refine s_seq ?_
                    refine s_block ?_
                    refine s_seq ?_
                    refine s_region ?_
                    refine l_r (r_field rfl fo27_5) rfl ?_
                    refine l_r (r_load1 rfl ag25 ((hcb4.on hs57).get (j := 5) rfl)) rfl ?_
                    refine l_r (r_move rfl) rfl ?_
                    obtain ⟨e59x, e59h, e59b, e59o, e59cs, e59A, _, e59K, e59c⟩ := hl_5.get_ (i := k) (by omega)
                    obtain rfl : e59cs = [.bool e59x.Queuing, .int .i64 e59x.From, .int .i64 e59x.A, .int .i64 e59x.To, .int .i64 e59x.B] := e59K
                    refine l_r (r_indexA rfl e59A rfl (by omega) (by omega) el25) rfl ?_
                    refine l_r (r_loadN rfl ag32 (e59c.on hs57) sz32) rfl ?_
                    obtain ⟨⟨hf0, hf1⟩, ht0, ht1⟩ := hch _ (List.mem_of_getElem? e59h)
                    refine l_alloc zz32 rfl hs57 ?_
                    intro w60 b15 hb15 hx60 hs60
                    refine l_storeAll rfl rfl sz32 (one_all rfl) (Nat.le_refl _) hs60 Repl.here rfl ?_
                    intro w61 hz61 hk61 hs61
                    refine l_nil ?_
                    refine s_seq ?_
                    refine s_region ?_
                    refine l_r (r_field rfl fo32_3) rfl ?_
                    refine l_r (r_load1p rfl hs61 Repl.here ag3 rfl) rfl ?_
                    refine l_r (r_move rfl) rfl ?_
                    refine l_r (r_cmp rfl rfl rfl) rfl ?_
                    refine l_r (r_move rfl) rfl ?_
                    refine l_part (dj := 122) rfl (fun hc62 => ?_) (fun hc62 => ?_)
                    ·
                      have hc62p := beq_iff_eq.1 hc62
                      refine l_on (dj := 122) rfl rfl rfl ?_
                      refine l_r (r_move rfl) rfl ?_
                      refine l_on (dj := 122) rfl rfl rfl ?_
                      refine l_r (r_field rfl fo32_1) rfl ?_
                      refine l_on (dj := 122) rfl rfl rfl ?_
                      refine l_r (r_load1p rfl hs61 Repl.here ag3 rfl) rfl ?_
                      refine l_on (dj := 122) rfl rfl rfl ?_
                      obtain ⟨e63x, e63h, e63b, e63o, e63cs, e63A, _, e63K, e63c⟩ := hy.get_ (i := e59x.From.toNat) (by omega)
                      obtain rfl : e63cs = [.bool e63x] := e63K
                      refine l_r (r_indexA rfl e63A rfl (by omega) (by omega) el35) rfl ?_
                      refine l_on (dj := 122) rfl rfl rfl ?_
                      refine l_r (r_load1 rfl ag4 ((e63c.on hs61).get (j := 0) rfl)) rfl ?_
                      refine l_on (dj := 122) rfl rfl rfl ?_
                      obtain rfl : e63x = true := (rv_iff e63h (by omega)).2 (Rch.from_ (List.mem_of_getElem? e59h) (by rw [hc62p]; exact Rch.self) ⟨hf0, hf1⟩)
                      refine l_r (r_not rfl) rfl ?_
                      refine l_r (r_pick_t rfl rfl) rfl ?_
                      refine l_r (r_move rfl) rfl ?_
                      refine l_on (dj := 130) rfl rfl rfl ?_
                      refine l_r (r_field rfl fo32_0) rfl ?_
                      refine l_on (dj := 130) rfl rfl rfl ?_
                      refine l_r (r_load1p rfl hs61 Repl.here ag4 rfl) rfl ?_
                      refine l_on (dj := 130) rfl rfl rfl ?_
                      refine l_r (r_move rfl) rfl ?_
                      refine l_part (dj := 133) rfl (fun hc65 => ?_) (fun hc65 => ?_)
                      ·
                        refine l_on (dj := 133) rfl rfl rfl ?_
                        refine l_r (r_field rfl fo32_1) rfl ?_
                        refine l_on (dj := 133) rfl rfl rfl ?_
                        refine l_r (r_load1p rfl hs61 Repl.here ag3 rfl) rfl ?_
                        refine l_on (dj := 133) rfl rfl rfl ?_
                        refine l_r (r_move rfl) rfl ?_
                        refine l_on (dj := 133) rfl rfl rfl ?_
                        refine l_r (r_cmp rfl rfl rfl) rfl ?_
                        refine l_on (dj := 130) rfl rfl rfl ?_
                        refine l_r (r_pick_t rfl rfl) rfl ?_
                        refine l_on (dj := 130) rfl rfl rfl ?_
                        refine l_r (r_move rfl) rfl ?_
                        refine l_part (dj := 139) rfl (fun hc66 => ?_) (fun hc66 => ?_)
                        ·
                          have hc66p := beq_iff_eq.1 hc66
                          refine l_on (dj := 139) rfl rfl rfl ?_
                          refine l_r (r_move rfl) rfl ?_
                          refine l_on (dj := 139) rfl rfl rfl ?_
                          refine l_r (r_field rfl fo32_3) rfl ?_
                          refine l_on (dj := 139) rfl rfl rfl ?_
                          refine l_r (r_load1p rfl hs61 Repl.here ag3 rfl) rfl ?_
                          refine l_on (dj := 139) rfl rfl rfl ?_
                          obtain ⟨e67x, e67h, e67b, e67o, e67cs, e67A, _, e67K, e67c⟩ := hy.get_ (i := e59x.To.toNat) (by omega)
                          obtain rfl : e67cs = [.bool e67x] := e67K
                          refine l_r (r_indexA rfl e67A rfl (by omega) (by omega) el35) rfl ?_
                          refine l_on (dj := 139) rfl rfl rfl ?_
                          refine l_r (r_load1 rfl ag4 ((e67c.on hs61).get (j := 0) rfl)) rfl ?_
                          refine l_on (dj := 139) rfl rfl rfl ?_
                          obtain rfl : e67x = true := (rv_iff e67h (by omega)).2 (Rch.to_ (List.mem_of_getElem? e59h) hc65 (by rw [hc66p]; exact Rch.self) ⟨ht0, ht1⟩)
                          refine l_r (r_not rfl) rfl ?_
                          refine l_on (dj := 130) rfl rfl rfl ?_
                          refine l_r (r_pick_t rfl rfl) rfl ?_
                          refine l_r (r_pick_f rfl rfl) rfl ?_
                          refine l_nil ?_
                          refine s_else rfl ?_
                          refine s_skip ?_
                          refine s_mark ?_
                          refine s_region ?_
                          refine l_r (r_move rfl) rfl ?_
                          refine l_r (r_inc rfl (by omega)) rfl ?_
                          refine l_r (r_assign rfl) rfl ?_
                          refine l_nil ?_
                          refine s_again ?_
                          exact ⟨_, [(14, .int .i64 (((k + 1) : Nat) : Int)), (2, .int .i64 b), (4, .pointer (some ⟨b4, 0 + 0, none⟩)), (12, .slice Ay ((reachV cf b)).length cy)], by omega, (.cons rfl (.cons rfl (.cons rfl (.cons rfl .nil)))), ⟨(k + 1), rfl, rfl, by omega, hs61.tail⟩⟩
                        ·
                          have hc66p := beq_eq_false_iff_ne.1 hc66
                          refine l_off (dj := 139) (b := false) rfl rfl rfl rfl rfl ?_
                          refine l_off (dj := 139) (b := false) rfl rfl rfl rfl rfl ?_
                          refine l_off (dj := 139) (b := false) rfl rfl rfl rfl rfl ?_
                          refine l_off (dj := 139) (b := false) rfl rfl rfl rfl rfl ?_
                          refine l_off (dj := 139) (b := false) rfl rfl rfl rfl rfl ?_
                          refine l_off (dj := 139) (b := false) rfl rfl rfl rfl rfl ?_
                          refine l_on (dj := 130) rfl rfl rfl ?_
                          refine l_r (r_pick_f rfl rfl) rfl ?_
                          refine l_r (r_pick_f rfl rfl) rfl ?_
                          refine l_nil ?_
                          refine s_else rfl ?_
                          refine s_skip ?_
                          refine s_mark ?_
                          refine s_region ?_
                          refine l_r (r_move rfl) rfl ?_
                          refine l_r (r_inc rfl (by omega)) rfl ?_
                          refine l_r (r_assign rfl) rfl ?_
                          refine l_nil ?_
                          refine s_again ?_
                          exact ⟨_, [(14, .int .i64 (((k + 1) : Nat) : Int)), (2, .int .i64 b), (4, .pointer (some ⟨b4, 0 + 0, none⟩)), (12, .slice Ay ((reachV cf b)).length cy)], by omega, (.cons rfl (.cons rfl (.cons rfl (.cons rfl .nil)))), ⟨(k + 1), rfl, rfl, by omega, hs61.tail⟩⟩
                      ·
                        refine l_off (dj := 133) (b := false) rfl rfl rfl rfl rfl ?_
                        refine l_off (dj := 133) (b := false) rfl rfl rfl rfl rfl ?_
                        refine l_off (dj := 133) (b := false) rfl rfl rfl rfl rfl ?_
                        refine l_off (dj := 133) (b := false) rfl rfl rfl rfl rfl ?_
                        refine l_on (dj := 130) rfl rfl rfl ?_
                        refine l_r (r_pick_f rfl rfl) rfl ?_
                        refine l_on (dj := 130) rfl rfl rfl ?_
                        refine l_r (r_move rfl) rfl ?_
                        refine l_off (dj := 139) (b := false) rfl rfl rfl rfl rfl ?_
                        refine l_off (dj := 139) (b := false) rfl rfl rfl rfl rfl ?_
                        refine l_off (dj := 139) (b := false) rfl rfl rfl rfl rfl ?_
                        refine l_off (dj := 139) (b := false) rfl rfl rfl rfl rfl ?_
                        refine l_off (dj := 139) (b := false) rfl rfl rfl rfl rfl ?_
                        refine l_off (dj := 139) (b := false) rfl rfl rfl rfl rfl ?_
                        refine l_on (dj := 130) rfl rfl rfl ?_
                        refine l_r (r_pick_f rfl rfl) rfl ?_
                        refine l_r (r_pick_f rfl rfl) rfl ?_
                        refine l_nil ?_
                        refine s_else rfl ?_
                        refine s_skip ?_
                        refine s_mark ?_
                        refine s_region ?_
                        refine l_r (r_move rfl) rfl ?_
                        refine l_r (r_inc rfl (by omega)) rfl ?_
                        refine l_r (r_assign rfl) rfl ?_
                        refine l_nil ?_
                        refine s_again ?_
                        exact ⟨_, [(14, .int .i64 (((k + 1) : Nat) : Int)), (2, .int .i64 b), (4, .pointer (some ⟨b4, 0 + 0, none⟩)), (12, .slice Ay ((reachV cf b)).length cy)], by omega, (.cons rfl (.cons rfl (.cons rfl (.cons rfl .nil)))), ⟨(k + 1), rfl, rfl, by omega, hs61.tail⟩⟩
                    ·
                      have hc62p := beq_eq_false_iff_ne.1 hc62
                      refine l_off (dj := 122) (b := false) rfl rfl rfl rfl rfl ?_
                      refine l_off (dj := 122) (b := false) rfl rfl rfl rfl rfl ?_
                      refine l_off (dj := 122) (b := false) rfl rfl rfl rfl rfl ?_
                      refine l_off (dj := 122) (b := false) rfl rfl rfl rfl rfl ?_
                      refine l_off (dj := 122) (b := false) rfl rfl rfl rfl rfl ?_
                      refine l_off (dj := 122) (b := false) rfl rfl rfl rfl rfl ?_
                      refine l_r (r_pick_f rfl rfl) rfl ?_
                      refine l_r (r_move rfl) rfl ?_
                      refine l_on (dj := 130) rfl rfl rfl ?_
                      refine l_r (r_field rfl fo32_0) rfl ?_
                      refine l_on (dj := 130) rfl rfl rfl ?_
                      refine l_r (r_load1p rfl hs61 Repl.here ag4 rfl) rfl ?_
                      refine l_on (dj := 130) rfl rfl rfl ?_
                      refine l_r (r_move rfl) rfl ?_
                      refine l_part (dj := 133) rfl (fun hc69 => ?_) (fun hc69 => ?_)
                      ·
                        refine l_on (dj := 133) rfl rfl rfl ?_
                        refine l_r (r_field rfl fo32_1) rfl ?_
                        refine l_on (dj := 133) rfl rfl rfl ?_
                        refine l_r (r_load1p rfl hs61 Repl.here ag3 rfl) rfl ?_
                        refine l_on (dj := 133) rfl rfl rfl ?_
                        refine l_r (r_move rfl) rfl ?_
                        refine l_on (dj := 133) rfl rfl rfl ?_
                        refine l_r (r_cmp rfl rfl rfl) rfl ?_
                        refine l_on (dj := 130) rfl rfl rfl ?_
                        refine l_r (r_pick_t rfl rfl) rfl ?_
                        refine l_on (dj := 130) rfl rfl rfl ?_
                        refine l_r (r_move rfl) rfl ?_
                        refine l_part (dj := 139) rfl (fun hc70 => ?_) (fun hc70 => ?_)
                        ·
                          have hc70p := beq_iff_eq.1 hc70
                          refine l_on (dj := 139) rfl rfl rfl ?_
                          refine l_r (r_move rfl) rfl ?_
                          refine l_on (dj := 139) rfl rfl rfl ?_
                          refine l_r (r_field rfl fo32_3) rfl ?_
                          refine l_on (dj := 139) rfl rfl rfl ?_
                          refine l_r (r_load1p rfl hs61 Repl.here ag3 rfl) rfl ?_
                          refine l_on (dj := 139) rfl rfl rfl ?_
                          obtain ⟨e71x, e71h, e71b, e71o, e71cs, e71A, _, e71K, e71c⟩ := hy.get_ (i := e59x.To.toNat) (by omega)
                          obtain rfl : e71cs = [.bool e71x] := e71K
                          refine l_r (r_indexA rfl e71A rfl (by omega) (by omega) el35) rfl ?_
                          refine l_on (dj := 139) rfl rfl rfl ?_
                          refine l_r (r_load1 rfl ag4 ((e71c.on hs61).get (j := 0) rfl)) rfl ?_
                          refine l_on (dj := 139) rfl rfl rfl ?_
                          obtain rfl : e71x = true := (rv_iff e71h (by omega)).2 (Rch.to_ (List.mem_of_getElem? e59h) hc69 (by rw [hc70p]; exact Rch.self) ⟨ht0, ht1⟩)
                          refine l_r (r_not rfl) rfl ?_
                          refine l_on (dj := 130) rfl rfl rfl ?_
                          refine l_r (r_pick_t rfl rfl) rfl ?_
                          refine l_r (r_pick_f rfl rfl) rfl ?_
                          refine l_nil ?_
                          refine s_else rfl ?_
                          refine s_skip ?_
                          refine s_mark ?_
                          refine s_region ?_
                          refine l_r (r_move rfl) rfl ?_
                          refine l_r (r_inc rfl (by omega)) rfl ?_
                          refine l_r (r_assign rfl) rfl ?_
                          refine l_nil ?_
                          refine s_again ?_
                          exact ⟨_, [(14, .int .i64 (((k + 1) : Nat) : Int)), (2, .int .i64 b), (4, .pointer (some ⟨b4, 0 + 0, none⟩)), (12, .slice Ay ((reachV cf b)).length cy)], by omega, (.cons rfl (.cons rfl (.cons rfl (.cons rfl .nil)))), ⟨(k + 1), rfl, rfl, by omega, hs61.tail⟩⟩
                        ·
                          have hc70p := beq_eq_false_iff_ne.1 hc70
                          refine l_off (dj := 139) (b := false) rfl rfl rfl rfl rfl ?_
                          refine l_off (dj := 139) (b := false) rfl rfl rfl rfl rfl ?_
                          refine l_off (dj := 139) (b := false) rfl rfl rfl rfl rfl ?_
                          refine l_off (dj := 139) (b := false) rfl rfl rfl rfl rfl ?_
                          refine l_off (dj := 139) (b := false) rfl rfl rfl rfl rfl ?_
                          refine l_off (dj := 139) (b := false) rfl rfl rfl rfl rfl ?_
                          refine l_on (dj := 130) rfl rfl rfl ?_
                          refine l_r (r_pick_f rfl rfl) rfl ?_
                          refine l_r (r_pick_f rfl rfl) rfl ?_
                          refine l_nil ?_
                          refine s_else rfl ?_
                          refine s_skip ?_
                          refine s_mark ?_
                          refine s_region ?_
                          refine l_r (r_move rfl) rfl ?_
                          refine l_r (r_inc rfl (by omega)) rfl ?_
                          refine l_r (r_assign rfl) rfl ?_
                          refine l_nil ?_
                          refine s_again ?_
                          exact ⟨_, [(14, .int .i64 (((k + 1) : Nat) : Int)), (2, .int .i64 b), (4, .pointer (some ⟨b4, 0 + 0, none⟩)), (12, .slice Ay ((reachV cf b)).length cy)], by omega, (.cons rfl (.cons rfl (.cons rfl (.cons rfl .nil)))), ⟨(k + 1), rfl, rfl, by omega, hs61.tail⟩⟩
                      ·
                        refine l_off (dj := 133) (b := false) rfl rfl rfl rfl rfl ?_
                        refine l_off (dj := 133) (b := false) rfl rfl rfl rfl rfl ?_
                        refine l_off (dj := 133) (b := false) rfl rfl rfl rfl rfl ?_
                        refine l_off (dj := 133) (b := false) rfl rfl rfl rfl rfl ?_
                        refine l_on (dj := 130) rfl rfl rfl ?_
                        refine l_r (r_pick_f rfl rfl) rfl ?_
                        refine l_on (dj := 130) rfl rfl rfl ?_
                        refine l_r (r_move rfl) rfl ?_
                        refine l_off (dj := 139) (b := false) rfl rfl rfl rfl rfl ?_
                        refine l_off (dj := 139) (b := false) rfl rfl rfl rfl rfl ?_
                        refine l_off (dj := 139) (b := false) rfl rfl rfl rfl rfl ?_
                        refine l_off (dj := 139) (b := false) rfl rfl rfl rfl rfl ?_
                        refine l_off (dj := 139) (b := false) rfl rfl rfl rfl rfl ?_
                        refine l_off (dj := 139) (b := false) rfl rfl rfl rfl rfl ?_
                        refine l_on (dj := 130) rfl rfl rfl ?_
                        refine l_r (r_pick_f rfl rfl) rfl ?_
                        refine l_r (r_pick_f rfl rfl) rfl ?_
                        refine l_nil ?_
                        refine s_else rfl ?_
                        refine s_skip ?_
                        refine s_mark ?_
                        refine s_region ?_
                        refine l_r (r_move rfl) rfl ?_
                        refine l_r (r_inc rfl (by omega)) rfl ?_
                        refine l_r (r_assign rfl) rfl ?_
                        refine l_nil ?_
                        refine s_again ?_
                        exact ⟨_, [(14, .int .i64 (((k + 1) : Nat) : Int)), (2, .int .i64 b), (4, .pointer (some ⟨b4, 0 + 0, none⟩)), (12, .slice Ay ((reachV cf b)).length cy)], by omega, (.cons rfl (.cons rfl (.cons rfl (.cons rfl .nil)))), ⟨(k + 1), rfl, rfl, by omega, hs61.tail⟩⟩
                  ·
                    have hc58p := of_decide_eq_false hc58
                    refine s_else rfl ?_
                    refine s_exit rfl ?_
                    refine s_seq ?_
                    refine s_region ?_
                    refine l_r (r_assign rfl) rfl ?_
                    refine l_nil ?_
                    refine s_ret ?_
                    exact q_done (.inr rfl) (.tmp rfl .nil) ⟨rfl, hxb.trans hs57.toExt⟩

end Go.Proofs.Ytfhghnhgcdiknaa
