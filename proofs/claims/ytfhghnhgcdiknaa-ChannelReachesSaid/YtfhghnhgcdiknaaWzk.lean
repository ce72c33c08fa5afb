/- Whether regions may be. -/
import Derived.Test.YtfhghnhgcdiknaaWzj
set_option linter.unusedVariables false
set_option linter.unusedSimpArgs false
namespace Go.Proofs.Ytfhghnhgcdiknaa
open Go.RowKit
def regBad (words : Int) (r : TRegion) : Bool := decide (r.From < 0) || (decide (r.Len < 1) || (decide (r.Len > words) || decide (r.From > words - r.Len)))
def meetsB (r s : TRegion) : Bool := decide (s.From < r.From + r.Len) && decide (r.From < s.From + s.Len)
def memAt (xs : List TRegion) (words : Int) (k : Nat) : Bool := match xs[k]? with
  | some r => !regBad words r && !((xs.take k).any (meetsB r))
  | none => true
def memOk (xs : List TRegion) (words : Int) : Bool := !(decide (words < 1) || (decide (words > 64) || decide ((xs.length : Int) > 4))) && (List.range xs.length).all (memAt xs words)
theorem regBad_false {words : Int} {r : TRegion} (h : regBad words r = false) : 0 ≤ r.From ∧ 1 ≤ r.Len ∧ r.Len ≤ words ∧ r.From ≤ words - r.Len := by
  simp [regBad] at h
  omega
theorem mem_fail {xs : List TRegion} {words : Int} {k : Nat} {r : TRegion} (hk : xs[k]? = some r) (h : memAt xs words k = false) : memOk xs words = false := by
  have hk' := (List.getElem?_eq_some_iff.1 hk).1
  have : (List.range xs.length).all (memAt xs words) = false := List.all_eq_false.2 ⟨k, List.mem_range.2 hk', by rw [h]; decide⟩
  rw [memOk, this, Bool.and_false]
theorem mem_end {xs : List TRegion} {words : Int} (h1 : ¬ words < 1) (h2 : ¬ words > 64) (h3 : ¬ (xs.length : Int) > 4) (h : ∀ j, j < xs.length → memAt xs words j = true) : memOk xs words = true := by
  have : (List.range xs.length).all (memAt xs words) = true := List.all_eq_true.2 (fun j hj => h j (List.mem_range.1 hj))
  rw [memOk, this, decide_eq_false h1, decide_eq_false h2, decide_eq_false h3]
  rfl
theorem mem_dom {xs : List TRegion} {words : Int} {k : Nat} (h : ∀ j, j < k → memAt xs words j = true) : ∀ x, x ∈ xs.take k → regBad words x = false := by
  intro x hx
  obtain ⟨j, hj⟩ := List.mem_iff_getElem?.1 hx
  rw [List.getElem?_take] at hj
  split at hj
  · rename_i hjk
    have := h j hjk
    rw [memAt, hj] at this
    simp at this
    exact this.1
  · cases hj
theorem Sl.take {α : Type} {d : Kd α} {w : World} {ok : Nat → Prop} {A : Option Addr} {c : Nat} {xs : List α} (h : Sl d w ok A c xs) (k : Nat) : Sl d w ok A c (xs.take k) :=
  ⟨by rw [List.length_take]; exact Nat.le_trans (Nat.min_le_right _ _) h.1, h.2.1, fun j x hj => h.2.2 j x (by
    rw [List.getElem?_take] at hj
    split at hj
    · exact hj
    · cases hj)⟩
theorem foldS_any {τ : Type} {p : τ → Bool} : ∀ {l : List τ} {s : Unit}, foldS (fun (_ : Unit) x => if p x then none else some ()) s l = if l.any p then none else some ()
  | [], _ => rfl
  | x :: l, s => by
    by_cases hp : p x = true
    · simp [foldS, hp]
    · simp [foldS, hp, foldS_any (l := l)]

set_option maxRecDepth 100000 in
theorem me_ok {w0 w : World} {H : List Res} {ok : Nat → Prop} {words : Int} {r x : TRegion} {b6 : Nat} {cs : List Value} (hw : ¬ words > 64) (hr : regBad words r = false) (hd : regBad words x = false) (hK : Kd.region.K w0 ok x cs) (hs0 : St 0 w0 w (.pt b6 [.int .i64 r.From, .int .i64 r.Len, .bool r.Write] 156 :: H)) :
    Calls Try.prog 83 #[mkA cs, .pointer (some ⟨b6, 0, none⟩)] w (fun e w' => e = .returned (.bool (meetsB r x)) ∧ St 0 w0 w' (.pt b6 [.int .i64 r.From, .int .i64 r.Len, .bool r.Write] 156 :: H)) := by
  refine q_call (n := 22) (args := [mkA cs, .pointer (some ⟨b6, 0, none⟩)]) Try.func83 rfl rfl rfl ?_
  have hs0 := hs0
  obtain rfl : cs = [.int .i64 x.From, .int .i64 x.Len, .bool x.Write] := hK
  have hr1 := regBad_false hr
  have hd1 := regBad_false hd
  refine s_seq ?_
  refine s_region ?_
  refine l_box rfl rfl rfl hs0 ?_
  intro w1 b2 hb2 hx1 hs1
  refine l_r (r_assign rfl) rfl ?_
  refine l_nil ?_
  refine s_seq ?_
  refine s_region ?_
  refine l_r (r_field rfl fo156_0) rfl ?_
  refine l_r (r_load1p rfl hs1 Repl.here ag3 rfl) rfl ?_
  refine l_r (r_field rfl fo156_0) rfl ?_
  refine l_r (r_load1p rfl hs1 (Repl.there Repl.here) ag3 rfl) rfl ?_
  refine l_r (r_field rfl fo156_1) rfl ?_
  refine l_r (r_load1p rfl hs1 (Repl.there Repl.here) ag3 rfl) rfl ?_
  refine l_r (r_addI rfl rfl (by omega)) rfl ?_
  refine l_r (r_cmp rfl rfl rfl) rfl ?_
  refine l_r (r_move rfl) rfl ?_
  refine l_part (dj := 12) rfl (fun hc2 => ?_) (fun hc2 => ?_)
  ·
    have hc2p := of_decide_eq_true hc2
    refine l_on (dj := 12) rfl rfl rfl ?_
    refine l_r (r_field rfl fo156_0) rfl ?_
    refine l_on (dj := 12) rfl rfl rfl ?_
    refine l_r (r_load1p rfl hs1 (Repl.there Repl.here) ag3 rfl) rfl ?_
    refine l_on (dj := 12) rfl rfl rfl ?_
    refine l_r (r_field rfl fo156_0) rfl ?_
    refine l_on (dj := 12) rfl rfl rfl ?_
    refine l_r (r_load1p rfl hs1 Repl.here ag3 rfl) rfl ?_
    refine l_on (dj := 12) rfl rfl rfl ?_
    refine l_r (r_field rfl fo156_1) rfl ?_
    refine l_on (dj := 12) rfl rfl rfl ?_
    refine l_r (r_load1p rfl hs1 Repl.here ag3 rfl) rfl ?_
    refine l_on (dj := 12) rfl rfl rfl ?_
    refine l_r (r_addI rfl rfl (by omega)) rfl ?_
    refine l_on (dj := 12) rfl rfl rfl ?_
    refine l_r (r_cmp rfl rfl rfl) rfl ?_
    refine l_r (r_pick_t rfl rfl) rfl ?_
    refine l_r (r_assign rfl) rfl ?_
    refine l_nil ?_
    refine s_ret ?_
    exact q_done (.inr rfl) (.tmp rfl .nil) ⟨congrArg Ending.returned (congrArg Value.bool (by simp [meetsB, hc2p])), hs1.tail⟩
  ·
    have hc2p := of_decide_eq_false hc2
    refine l_off (dj := 12) (b := false) rfl rfl rfl rfl rfl ?_
    refine l_off (dj := 12) (b := false) rfl rfl rfl rfl rfl ?_
    refine l_off (dj := 12) (b := false) rfl rfl rfl rfl rfl ?_
    refine l_off (dj := 12) (b := false) rfl rfl rfl rfl rfl ?_
    refine l_off (dj := 12) (b := false) rfl rfl rfl rfl rfl ?_
    refine l_off (dj := 12) (b := false) rfl rfl rfl rfl rfl ?_
    refine l_off (dj := 12) (b := false) rfl rfl rfl rfl rfl ?_
    refine l_off (dj := 12) (b := false) rfl rfl rfl rfl rfl ?_
    refine l_r (r_pick_f rfl rfl) rfl ?_
    refine l_r (r_assign rfl) rfl ?_
    refine l_nil ?_
    refine s_ret ?_
    exact q_done (.inr rfl) (.tmp rfl .nil) ⟨congrArg Ending.returned (congrArg Value.bool (by simp [meetsB, hc2p])), hs1.tail⟩

theorem me_fn {w0 : World} {ok : Nat → Prop} {words : Int} {r : TRegion} {b6 : Nat} (hw : ¬ words > 64) (hr : regBad words r = false) :
    FnOk Try.prog 83 [.pointer (some ⟨b6, 0, none⟩)] Kd.region mkA true false w0 ok (fun _ => True) (fun s => regBad words s = false) (fun _ : Unit => [.pt b6 [.int .i64 r.From, .int .i64 r.Len, .bool r.Write] 156]) (fun _ s => if meetsB r s then none else some ()) :=
  fun w H s x cs _ hd hK hs => (me_ok (H := H) hw hr hd hK hs).mono (fun e w' ⟨he, hc⟩ => by
    cases hp : meetsB r x with
    | true => exact .inr ⟨by rw [he, hp], by simp [hp], hc.tail⟩
    | false => exact .inl ⟨(), by rw [he, hp], by simp [hp], trivial, hc⟩)

set_option maxRecDepth 100000 in
theorem mem_ok {xs : List TRegion} {A : Option Addr} {c : Nat} (w : World) {ok : Nat → Prop} (hx : Sl Kd.region w ok A c xs) (words : Int) :
    Calls Try.prog 57 #[.slice A xs.length c, .int .i64 words] w (fun e w' => e = .returned (.bool (memOk xs words)) ∧ St 0 w w' []) := by
  refine q_call (n := 56) (args := [.slice A xs.length c, .int .i64 words]) Try.func57 rfl rfl rfl ?_
  have hs0 := St.refl 0 w
  have hxl := hx.1
  have hxm := hx.2.1
  refine s_seq ?_
  refine s_region ?_
  refine l_r (r_assign rfl) rfl ?_
  refine l_nil ?_
  refine s_seq ?_
  refine s_seq ?_
  refine s_region ?_
  refine l_r (r_move rfl) rfl ?_
  refine l_r (r_cmp rfl rfl rfl) rfl ?_
  refine l_r (r_move rfl) rfl ?_
  refine l_part (dj := 10) rfl (fun hc1 => ?_) (fun hc1 => ?_)
  ·
    have hc1p := of_decide_eq_true hc1
    refine l_off (dj := 10) (b := true) rfl rfl rfl rfl rfl ?_
    refine l_off (dj := 10) (b := true) rfl rfl rfl rfl rfl ?_
    refine l_r (r_pick_t rfl rfl) rfl ?_
    refine l_r (r_move rfl) rfl ?_
    refine l_off (dj := 14) (b := true) rfl rfl rfl rfl rfl ?_
    refine l_off (dj := 14) (b := true) rfl rfl rfl rfl rfl ?_
    refine l_off (dj := 14) (b := true) rfl rfl rfl rfl rfl ?_
    refine l_r (r_pick_t rfl rfl) rfl ?_
    refine l_nil ?_
    refine s_then rfl ?_
    refine s_seq ?_
    refine s_region ?_
    refine l_r (r_assign rfl) rfl ?_
    refine l_nil ?_
    refine s_ret ?_
    exact q_done (.inr rfl) (.tmp rfl .nil) ⟨congrArg Ending.returned (congrArg Value.bool (by simp [memOk, hc1p])), hs0⟩
  ·
    have hc1p := of_decide_eq_false hc1
    refine l_on (dj := 10) rfl rfl rfl ?_
    refine l_r (r_move rfl) rfl ?_
    refine l_on (dj := 10) rfl rfl rfl ?_
    refine l_r (r_cmp rfl rfl rfl) rfl ?_
    refine l_r (r_pick_f rfl rfl) rfl ?_
    refine l_r (r_move rfl) rfl ?_
    refine l_part (dj := 14) rfl (fun hc2 => ?_) (fun hc2 => ?_)
    ·
      have hc2p := of_decide_eq_true hc2
      refine l_off (dj := 14) (b := true) rfl rfl rfl rfl rfl ?_
      refine l_off (dj := 14) (b := true) rfl rfl rfl rfl rfl ?_
      refine l_off (dj := 14) (b := true) rfl rfl rfl rfl rfl ?_
      refine l_r (r_pick_t rfl rfl) rfl ?_
      refine l_nil ?_
      refine s_then rfl ?_
      refine s_seq ?_
      refine s_region ?_
      refine l_r (r_assign rfl) rfl ?_
      refine l_nil ?_
      refine s_ret ?_
      exact q_done (.inr rfl) (.tmp rfl .nil) ⟨congrArg Ending.returned (congrArg Value.bool (by simp [memOk, hc1p, hc2p])), hs0⟩
    ·
      have hc2p := of_decide_eq_false hc2
      refine l_on (dj := 14) rfl rfl rfl ?_
      refine l_r (r_move rfl) rfl ?_
      refine l_on (dj := 14) rfl rfl rfl ?_
      refine l_r (r_len rfl el70) rfl ?_
      refine l_on (dj := 14) rfl rfl rfl ?_
      refine l_r (r_cmp rfl rfl rfl) rfl ?_
      refine l_r (r_pick_f rfl rfl) rfl ?_
      refine l_nil ?_
      refine s_part (dj := 18) rfl (fun hc3 => ?_) (fun hc3 => ?_)
      ·
        have hc3p := of_decide_eq_true hc3
        refine s_then rfl ?_
        refine s_seq ?_
        refine s_region ?_
        refine l_r (r_assign rfl) rfl ?_
        refine l_nil ?_
        refine s_ret ?_
        exact q_done (.inr rfl) (.tmp rfl .nil) ⟨congrArg Ending.returned (congrArg Value.bool (by simp [memOk, hc1p, hc2p, hc3p])), hs0⟩
      ·
        have hc3p := of_decide_eq_false hc3
        refine s_else rfl ?_
        refine s_skip ?_
        refine s_seq ?_
        refine s_seq ?_
        refine s_region ?_
        refine l_r (r_move rfl) rfl ?_
        refine l_r (r_len rfl el70) rfl ?_
        refine l_r (r_move rfl) rfl ?_
        refine l_nil ?_
        refine s_block ?_
        refine s_loop (fun m L wl => ∃ (k : Nat), L = [(21, .int .i64 ((k : Nat) : Int)), (0, .slice A xs.length c), (1, .int .i64 words), (19, .slice A xs.length c), (20, .int .i64 ((xs.length : Int)))] ∧ m = xs.length - k ∧ k ≤ xs.length ∧ (∀ j, j < k → memAt xs words j = true) ∧ St 0 w wl []) _ [(21, .int .i64 ((0 : Nat) : Int)), (0, .slice A xs.length c), (1, .int .i64 words), (19, .slice A xs.length c), (20, .int .i64 ((xs.length : Int)))] (.cons rfl (.cons rfl (.cons rfl (.cons rfl (.cons rfl .nil))))) ⟨0, rfl, rfl, Nat.zero_le _, fun j hj => absurd hj (Nat.not_lt_zero _), hs0⟩ ?_
        rintro _ _ w4 ⟨k, rfl, rfl, hkk, hat, hs4⟩
        refine s_seq ?_
        refine s_region ?_
        refine l_r (r_cmp rfl rfl rfl) rfl ?_
        refine l_nil ?_
        refine s_seq ?_
        refine s_part (dj := 22) rfl (fun hlt => ?_) (fun hlt => ?_)
        ·
          have hltp := of_decide_eq_true hlt
          refine s_then rfl ?_
          refine s_skip ?_
          refine s_seq ?_
          refine s_block ?_
          refine s_seq ?_
          refine s_region ?_
          refine l_r (r_move rfl) rfl ?_
          obtain ⟨e6x, e6h, e6b, e6o, e6cs, e6A, _, e6K, e6c⟩ := hx.get_ (i := k) (by omega)
          obtain rfl : e6cs = [.int .i64 e6x.From, .int .i64 e6x.Len, .bool e6x.Write] := e6K
          refine l_r (r_indexA rfl e6A rfl (by omega) (by omega) el70) rfl ?_
          refine l_r (r_loadN rfl ag156 (e6c.on hs4) sz156) rfl ?_
          refine l_alloc zz156 rfl hs4 ?_
          intro w7 b6 hb6 hx7 hs7
          refine l_r (r_assign rfl) rfl ?_
          refine l_storeAll rfl rfl sz156 (one_all rfl) (Nat.zero_le _) hs7 Repl.here rfl ?_
          intro w8 hz8 hk8 hs8
          refine l_nil ?_
          refine s_seq ?_
          refine s_seq ?_
          refine s_region ?_
          refine l_r (r_field rfl fo156_0) rfl ?_
          refine l_r (r_load1p rfl hs8 Repl.here ag3 rfl) rfl ?_
          refine l_r (r_cmp rfl rfl rfl) rfl ?_
          refine l_r (r_move rfl) rfl ?_
          refine l_part (dj := 29) rfl (fun hc9 => ?_) (fun hc9 => ?_)
          ·
            have hc9p := of_decide_eq_true hc9
            refine l_off (dj := 29) (b := true) rfl rfl rfl rfl rfl ?_
            refine l_off (dj := 29) (b := true) rfl rfl rfl rfl rfl ?_
            refine l_off (dj := 29) (b := true) rfl rfl rfl rfl rfl ?_
            refine l_r (r_pick_t rfl rfl) rfl ?_
            refine l_r (r_move rfl) rfl ?_
            refine l_off (dj := 34) (b := true) rfl rfl rfl rfl rfl ?_
            refine l_off (dj := 34) (b := true) rfl rfl rfl rfl rfl ?_
            refine l_off (dj := 34) (b := true) rfl rfl rfl rfl rfl ?_
            refine l_off (dj := 34) (b := true) rfl rfl rfl rfl rfl ?_
            refine l_r (r_pick_t rfl rfl) rfl ?_
            refine l_r (r_move rfl) rfl ?_
            refine l_off (dj := 40) (b := true) rfl rfl rfl rfl rfl ?_
            refine l_off (dj := 40) (b := true) rfl rfl rfl rfl rfl ?_
            refine l_off (dj := 40) (b := true) rfl rfl rfl rfl rfl ?_
            refine l_off (dj := 40) (b := true) rfl rfl rfl rfl rfl ?_
            refine l_off (dj := 40) (b := true) rfl rfl rfl rfl rfl ?_
            refine l_off (dj := 40) (b := true) rfl rfl rfl rfl rfl ?_
            refine l_off (dj := 40) (b := true) rfl rfl rfl rfl rfl ?_
            refine l_r (r_pick_t rfl rfl) rfl ?_
            refine l_nil ?_
            refine s_then rfl ?_
            refine s_seq ?_
            refine s_region ?_
            refine l_r (r_assign rfl) rfl ?_
            refine l_nil ?_
            refine s_ret ?_
            exact q_done (.inr rfl) (.tmp rfl .nil) ⟨congrArg Ending.returned (congrArg Value.bool ((mem_fail e6h (by simp only [memAt, e6h]; simp [regBad, hc1p, hc2p, hc3p, hltp, hc9p])).symm)), hs8.tail⟩
          ·
            have hc9p := of_decide_eq_false hc9
            refine l_on (dj := 29) rfl rfl rfl ?_
            refine l_r (r_field rfl fo156_1) rfl ?_
            refine l_on (dj := 29) rfl rfl rfl ?_
            refine l_r (r_load1p rfl hs8 Repl.here ag3 rfl) rfl ?_
            refine l_on (dj := 29) rfl rfl rfl ?_
            refine l_r (r_cmp rfl rfl rfl) rfl ?_
            refine l_r (r_pick_f rfl rfl) rfl ?_
            refine l_r (r_move rfl) rfl ?_
            refine l_part (dj := 34) rfl (fun hc10 => ?_) (fun hc10 => ?_)
            ·
              have hc10p := of_decide_eq_true hc10
              refine l_off (dj := 34) (b := true) rfl rfl rfl rfl rfl ?_
              refine l_off (dj := 34) (b := true) rfl rfl rfl rfl rfl ?_
              refine l_off (dj := 34) (b := true) rfl rfl rfl rfl rfl ?_
              refine l_off (dj := 34) (b := true) rfl rfl rfl rfl rfl ?_
              refine l_r (r_pick_t rfl rfl) rfl ?_
              refine l_r (r_move rfl) rfl ?_
              refine l_off (dj := 40) (b := true) rfl rfl rfl rfl rfl ?_
              refine l_off (dj := 40) (b := true) rfl rfl rfl rfl rfl ?_
              refine l_off (dj := 40) (b := true) rfl rfl rfl rfl rfl ?_
              refine l_off (dj := 40) (b := true) rfl rfl rfl rfl rfl ?_
              refine l_off (dj := 40) (b := true) rfl rfl rfl rfl rfl ?_
              refine l_off (dj := 40) (b := true) rfl rfl rfl rfl rfl ?_
              refine l_off (dj := 40) (b := true) rfl rfl rfl rfl rfl ?_
              refine l_r (r_pick_t rfl rfl) rfl ?_
              refine l_nil ?_
              refine s_then rfl ?_
              refine s_seq ?_
              refine s_region ?_
              refine l_r (r_assign rfl) rfl ?_
              refine l_nil ?_
              refine s_ret ?_
              exact q_done (.inr rfl) (.tmp rfl .nil) ⟨congrArg Ending.returned (congrArg Value.bool ((mem_fail e6h (by simp only [memAt, e6h]; simp [regBad, hc1p, hc2p, hc3p, hltp, hc9p, hc10p])).symm)), hs8.tail⟩
            ·
              have hc10p := of_decide_eq_false hc10
              refine l_on (dj := 34) rfl rfl rfl ?_
              refine l_r (r_field rfl fo156_1) rfl ?_
              refine l_on (dj := 34) rfl rfl rfl ?_
              refine l_r (r_load1p rfl hs8 Repl.here ag3 rfl) rfl ?_
              refine l_on (dj := 34) rfl rfl rfl ?_
              refine l_r (r_move rfl) rfl ?_
              refine l_on (dj := 34) rfl rfl rfl ?_
              refine l_r (r_cmp rfl rfl rfl) rfl ?_
              refine l_r (r_pick_f rfl rfl) rfl ?_
              refine l_r (r_move rfl) rfl ?_
              refine l_part (dj := 40) rfl (fun hc11 => ?_) (fun hc11 => ?_)
              ·
                have hc11p := of_decide_eq_true hc11
                refine l_off (dj := 40) (b := true) rfl rfl rfl rfl rfl ?_
                refine l_off (dj := 40) (b := true) rfl rfl rfl rfl rfl ?_
                refine l_off (dj := 40) (b := true) rfl rfl rfl rfl rfl ?_
                refine l_off (dj := 40) (b := true) rfl rfl rfl rfl rfl ?_
                refine l_off (dj := 40) (b := true) rfl rfl rfl rfl rfl ?_
                refine l_off (dj := 40) (b := true) rfl rfl rfl rfl rfl ?_
                refine l_off (dj := 40) (b := true) rfl rfl rfl rfl rfl ?_
                refine l_r (r_pick_t rfl rfl) rfl ?_
                refine l_nil ?_
                refine s_then rfl ?_
                refine s_seq ?_
                refine s_region ?_
                refine l_r (r_assign rfl) rfl ?_
                refine l_nil ?_
                refine s_ret ?_
                exact q_done (.inr rfl) (.tmp rfl .nil) ⟨congrArg Ending.returned (congrArg Value.bool ((mem_fail e6h (by simp only [memAt, e6h]; simp [regBad, hc1p, hc2p, hc3p, hltp, hc9p, hc10p, hc11p])).symm)), hs8.tail⟩
              ·
                have hc11p := of_decide_eq_false hc11
                refine l_on (dj := 40) rfl rfl rfl ?_
                refine l_r (r_field rfl fo156_0) rfl ?_
                refine l_on (dj := 40) rfl rfl rfl ?_
                refine l_r (r_load1p rfl hs8 Repl.here ag3 rfl) rfl ?_
                refine l_on (dj := 40) rfl rfl rfl ?_
                refine l_r (r_move rfl) rfl ?_
                refine l_on (dj := 40) rfl rfl rfl ?_
                refine l_r (r_field rfl fo156_1) rfl ?_
                refine l_on (dj := 40) rfl rfl rfl ?_
                refine l_r (r_load1p rfl hs8 Repl.here ag3 rfl) rfl ?_
                refine l_on (dj := 40) rfl rfl rfl ?_
                refine l_r (r_subI rfl rfl (by omega)) rfl ?_
                refine l_on (dj := 40) rfl rfl rfl ?_
                refine l_r (r_cmp rfl rfl rfl) rfl ?_
                refine l_r (r_pick_f rfl rfl) rfl ?_
                refine l_nil ?_
                refine s_part (dj := 48) rfl (fun hc12 => ?_) (fun hc12 => ?_)
                ·
                  have hc12p := of_decide_eq_true hc12
                  refine s_then rfl ?_
                  refine s_seq ?_
                  refine s_region ?_
                  refine l_r (r_assign rfl) rfl ?_
                  refine l_nil ?_
                  refine s_ret ?_
                  exact q_done (.inr rfl) (.tmp rfl .nil) ⟨congrArg Ending.returned (congrArg Value.bool ((mem_fail e6h (by simp only [memAt, e6h]; simp [regBad, hc1p, hc2p, hc3p, hltp, hc9p, hc10p, hc11p, hc12p])).symm)), hs8.tail⟩
                ·
                  have hc12p := of_decide_eq_false hc12
                  refine s_else rfl ?_
                  refine s_skip ?_
                  refine s_seq ?_
                  refine s_region ?_
                  refine l_r (r_makefunc rfl rfl) rfl ?_
                  refine l_r (r_assign rfl) rfl ?_
                  refine l_nil ?_
                  refine s_seq ?_
                  refine s_region ?_
                  refine l_r (r_move rfl) rfl ?_
                  refine l_r (r_move rfl) rfl ?_
                  have hcut : cutA A c 0 3 = A := cutA_zero (fun p hp => ⟨e6b, e6o, by rw [e6A] at hp; exact (Option.some.inj hp).symm⟩)
                  refine l_r (r_slice (vl := none) (vh := some _) (vm := none) (l' := 0) (h' := k) (m' := c) rfl el70 rfl rfl rfl rfl rfl rfl (Nat.zero_le _) (by omega) (Nat.le_refl _) hx.1) rfl ?_
                  rw [hcut]
                  refine l_r (r_move rfl) rfl ?_
                  have hgood : regBad words e6x = false := by simp [regBad]; omega
                  have hcall := co84 (σ := Unit) (Inv := fun _ => [.pt b6 [.int .i64 e6x.From, .int .i64 e6x.Len, .bool e6x.Write] 156]) (H := []) (s0 := ()) hs8 (hx.take k) fk83 trivial (mem_dom hat) (me_fn (by omega) hgood)
                  rw [List.length_take, Nat.min_eq_left (by omega)] at hcall
                  refine l_call rfl rfl fk84 rfl hcall ?_
                  rintro _ w13 (⟨s1, rfl, hfs, _, hs13⟩ | ⟨rfl, hfs, hs13⟩)
                  ·
                    refine ⟨_, rfl, ?_⟩
                    refine l_nil ?_
                    refine s_else rfl ?_
                    refine s_skip ?_
                    refine s_mark ?_
                    refine s_region ?_
                    refine l_r (r_inc rfl (by omega)) rfl ?_
                    refine l_r (r_move rfl) rfl ?_
                    refine l_nil ?_
                    refine s_again ?_
                    exact ⟨_, [(21, .int .i64 (((k + 1) : Nat) : Int)), (0, .slice A xs.length c), (1, .int .i64 words), (19, .slice A xs.length c), (20, .int .i64 ((xs.length : Int)))], by omega, (.cons rfl (.cons rfl (.cons rfl (.cons rfl (.cons rfl .nil))))), ⟨(k + 1), rfl, rfl, by omega, fun j hj => by
                        rcases Nat.lt_succ_iff_lt_or_eq.1 hj with hj | rfl
                        · exact hat j hj
                        · have hany : (xs.take j).any (meetsB e6x) = false := by rw [foldS_any] at hfs; split at hfs; cases hfs; simp_all
                          simp only [memAt, e6h]; rw [hgood, hany]; rfl, hs13.tail⟩⟩
                  ·
                    refine ⟨_, rfl, ?_⟩
                    refine l_nil ?_
                    refine s_then rfl ?_
                    refine s_seq ?_
                    refine s_region ?_
                    refine l_r (r_assign rfl) rfl ?_
                    refine l_nil ?_
                    refine s_ret ?_
                    have hany : (xs.take k).any (meetsB e6x) = true := by rw [foldS_any] at hfs; split at hfs; assumption; cases hfs
                    exact q_done (.inr rfl) (.tmp rfl .nil) ⟨congrArg Ending.returned (congrArg Value.bool ((mem_fail e6h (by simp only [memAt, e6h]; rw [hany]; simp)).symm)), hs13⟩
        ·
          have hltp := of_decide_eq_false hlt
          refine s_else rfl ?_
          refine s_exit rfl ?_
          refine s_seq ?_
          skip
          refine s_region ?_
          refine l_r (r_assign rfl) rfl ?_
          refine l_nil ?_
          refine s_ret ?_
          exact q_done (.inr rfl) (.tmp rfl .nil) ⟨congrArg Ending.returned (congrArg Value.bool ((mem_end (by omega) (by omega) (by omega) (fun j hj => hat j (by omega))).symm)), hs4⟩

end Go.Proofs.Ytfhghnhgcdiknaa
