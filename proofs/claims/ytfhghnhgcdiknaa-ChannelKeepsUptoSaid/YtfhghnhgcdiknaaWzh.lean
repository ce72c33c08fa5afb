/- Moving brings nothing new and loses nothing. -/
import Derived.Test.YtfhghnhgcdiknaaWzf
set_option linter.unusedVariables false
namespace Go.Proofs.Ytfhghnhgcdiknaa
open Go.RowKit
theorem small_move {cf : TConfig} {ps : List TPart} (hsm : ∀ p, p ∈ ps → PartSmall p) (hq : QB (moveL cf ps) 100000000) : ∀ p, p ∈ moveL cf ps → PartSmall p := by
  intro p hp
  obtain ⟨j, hj⟩ := List.mem_iff_getElem?.1 hp
  have hl : j < ps.length := by rw [← moveL_len cf ps]; exact (List.getElem?_eq_some_iff.1 hj).1
  obtain ⟨hst, hs, hl2⟩ := moveL_rest (List.getElem?_eq_getElem hl) hj
  obtain ⟨h3, h4, h5, h6, h7, h8, h9, h10, h12, h14, k5, k6, k7, k8, k10⟩ := hsm _ (List.getElem_mem hl)
  have e3 : p.Memory = ps[j].Memory := by
    have h := congrArg TPart.Memory hst
    exact h
  have e4 : p.Procs = ps[j].Procs := by
    have h := congrArg TPart.Procs hst
    exact h
  have e5 : p.Boards = ps[j].Boards := by
    have h := congrArg TPart.Boards hst
    exact h
  have e6 : p.Buffers = ps[j].Buffers := by
    have h := congrArg TPart.Buffers hst
    exact h
  have e7 : p.Semas = ps[j].Semas := by
    have h := congrArg TPart.Semas hst
    exact h
  have e8 : p.Events = ps[j].Events := by
    have h := congrArg TPart.Events hst
    exact h
  have e12 : p.Latch = ps[j].Latch := by
    have h := congrArg TPart.Latch hst
    exact h
  have e14 : p.Given = ps[j].Given := by
    have h := congrArg TPart.Given hst
    exact h
  exact ⟨by rw [e3]; exact h3, by rw [e4]; exact h4, by rw [e5]; exact h5, by rw [e6]; exact h6, by rw [e7]; exact h7, by rw [e8]; exact h8, by rw [hs]; exact h9, by rw [hl2]; exact h10, by rw [e12]; exact h12, by rw [e14]; exact h14, by rw [e5]; exact k5, by rw [e6]; exact k6, by rw [e7]; exact k7, by rw [e8]; exact k8, fun x hx => hq p hp x hx⟩
section
variable {α : Type} {dk : Kd α} {P : Program} {n : Nat} {K : Slots → World → Prop} {L : Slots} {G : Nat} {w0 w wb : World} {H Hb : List Res} {all : Array Oper} {l : List Oper} {dst ty : Nat} {pos : String} {af : Array Edge} {ok : Nat → Prop}
/-- append(v, ys...), v a row of one's own, ys told at an earlier world. -/
theorem l_appendS {Gb : Nat} (hb : St Gb wb w Hb) {s x : Operand} {t e bytes c m : Nat} {z v : Value} {A : Option Addr} {ys : List α} {cs : List Value} (ht : P.underlying t = some (.slice e)) (hi : (P.info? e).map (fun i => (i.zero, i.size, i.bytes)) = some (some z, dk.sz, bytes)) (hzs : z.cells.size = dk.sz) (hsz : Nat.blt 0 dk.sz = true)
    (hv : ev L s = some v) (hx : ev L x = some (.slice A ys.length c)) (h : Sl dk wb ok A c ys) (hG : G ≤ w0.heap.size) (hs : St G w0 w (.row 0 e dk.sz v m cs :: H)) (hbytes : (m + ys.length) * bytes ≤ 140737488355328) (hby : Nat.blt 0 bytes = true) (hd : Nat.blt dst n = true)
    (k : ∀ v' news w1, Reps dk wb ok ys news → St G w0 w1 (.row 0 e dk.sz v' (m + ys.length) (cs ++ news) :: H) → Wl P n all l K ((dst, v') :: L) w1) :
    Wl P n all (⟨some dst, .call { callee := .builtin .append, args := #[s, x], argTypes := #[t, t] }, ty, pos, af, none⟩ :: l) K L w := by
  cases A with
  | none =>
    have hys := h.none_nil
    subst hys
    have hown := hs.get (r := .row 0 e dk.sz v m cs) List.mem_cons_self
    refine l_append0 (base := 0) ht hi hv hx hown hd ?_
    have := k v [] w (Reps.nil dk wb ok)
    rw [List.append_nil] at this
    exact this hs
  | some p =>
    obtain ⟨news, hR, hl, hn, h1⟩ := h.news
    exact l_append (base := 0) (H' := fun v' => .row 0 e dk.sz v' (m + ys.length) (cs ++ news) :: H) ht hi hzs hsz hv hx hl (fun i u hu => cell_on (hn i u hu) hb) h1 hbytes hby hG (Nat.zero_le _) hs (fun v' => .here) hd (fun v' w1 _ _ hs1 => k v' news w1 hR hs1)
end
theorem reps_append {α : Type} {d : Kd α} {w : World} {ok : Nat → Prop} {xs : List α} {cs : List Value} (h : Reps d w ok xs cs) : ∀ {ys : List α} {ds : List Value}, Reps d w ok ys ds → Reps d w ok (xs ++ ys) (cs ++ ds) := by
  intro ys ds h2
  refine ⟨by rw [List.length_append, List.length_append, h.1, h2.1, Nat.add_mul], fun j y hj => ?_⟩
  by_cases hlt : j < xs.length
  · rw [List.getElem?_append_left hlt] at hj
    have h1 := h.2 j y hj
    have hfit : j * d.sz + d.sz ≤ cs.length := by rw [h.1, ← Nat.succ_mul]; exact Nat.mul_le_mul_right _ hlt
    rw [List.drop_append_of_le_length (by omega), List.take_append_of_le_length (by rw [List.length_drop]; omega)]
    exact h1
  · rw [List.getElem?_append_right (by omega)] at hj
    have h1 := h2.2 _ y hj
    have e : j * d.sz = cs.length + (j - xs.length) * d.sz := by rw [h.1, ← Nat.add_mul]; congr 1; omega
    rw [e, ← List.drop_drop, List.drop_left]
    exact h1

set_option maxRecDepth 100000 in
set_option maxHeartbeats 8000000 in
theorem channelKeeps_any {cf : TConfig} {pl : List Value} {ps : List TPart} {A : Option Addr} {c : Nat} (w : World) {ok ok2 : Nat → Prop} (hKl : Kd.config.K w ok cf pl) (hx : Sl Kd.part w ok2 A c ps) (hsm : ∀ p, p ∈ ps → PartSmall p) :
    Calls Try.prog 5 #[.agg pl.toArray, .slice A ps.length c] w (fun e w' => e = .returned (.bool true) ∧ Ext w w') := by
 refine q_call (n := 319) (args := [.agg pl.toArray, .slice A ps.length c]) Try.func5 rfl rfl rfl ?_
 have hs0 := St.refl 0 w
 have hKl0 := hKl
 obtain ⟨Al_2, cl_2, Al_3, cl_3, Al_4, cl_4, Al_5, cl_5, rfl, hl_2, hl_3, hl_4, hl_5⟩ := hKl
 have hle2 := hl_2.len
 have hle3 := hl_3.len
 have hle4 := hl_4.len
 have hle5 := hl_5.len
 have hlx := hx.len
 refine s_seq ?_
 refine s_region ?_
 refine l_box rfl rfl rfl hs0 ?_
 intro w1 b2 hb2 hx1 hs1
 refine l_r (r_assign rfl) rfl ?_
 refine l_nil ?_
 refine s_seq ?_
 refine s_region ?_
 refine l_call rfl rfl fk9 rfl (awake_ok w1) ?_
 rintro _ w2 ⟨rfl, hx2⟩
 have hs2 := hs1.ext hx2
 refine ⟨_, rfl, ?_⟩
 refine l_r (r_assign rfl) rfl ?_
 refine l_nil ?_
 refine s_seq ?_
 refine s_region ?_
 refine l_r (r_loadNp rfl hs2 Repl.here ag27 sz27) rfl ?_
 refine l_r (r_move rfl) rfl ?_
 refine l_call rfl rfl fk10 rfl (few_any w2 (Kd.config.on hKl0 hs2) (hx.onk hs2) hsm) ?_
 rintro _ w3 ⟨bb3, rfl, hb3, hc3⟩
 have hs3 := hs2.call0 hc3
 refine ⟨_, rfl, ?_⟩
 refine l_r (r_assign rfl) rfl ?_
 refine l_nil ?_
 refine s_seq ?_
 refine s_seq ?_
 refine s_region ?_
 refine l_r (r_move rfl) rfl ?_
 refine l_r (r_not rfl) rfl ?_
 refine l_r (r_move rfl) rfl ?_
 refine l_on (dj := 24) rfl rfl rfl ?_
 refine l_r (r_move rfl) rfl ?_
 refine l_on (dj := 24) rfl rfl rfl ?_
 refine l_r (r_not rfl) rfl ?_
 refine l_r (r_pick_f rfl rfl) rfl ?_
 refine l_r (r_move rfl) rfl ?_
 refine l_part (dj := 28) rfl (fun hc4 => ?_) (fun hc4 => ?_)
 ·
  have hc4n := Bool.not_eq_true' _ |>.mp hc4
  refine l_off (dj := 28) (b := true) rfl rfl rfl rfl rfl ?_
  refine l_off (dj := 28) (b := true) rfl rfl rfl rfl rfl ?_
  refine l_off (dj := 28) (b := true) rfl rfl rfl rfl rfl ?_
  refine l_off (dj := 28) (b := true) rfl rfl rfl rfl rfl ?_
  refine l_off (dj := 28) (b := true) rfl rfl rfl rfl rfl ?_
  refine l_off (dj := 28) (b := true) rfl rfl rfl rfl rfl ?_
  refine l_r (r_pick_t rfl rfl) rfl ?_
  refine l_nil ?_
  refine s_then rfl ?_
  refine s_seq ?_
  refine s_region ?_
  refine l_r (r_move rfl) rfl ?_
  refine l_r (r_assign rfl) rfl ?_
  refine l_nil ?_
  refine s_ret ?_
  exact q_done (.inr rfl) (.tmp rfl .nil) ⟨rfl, hs3.toExt⟩
 ·
  have hc4n := Bool.not_eq_false' _ |>.mp hc4
  refine l_on (dj := 28) rfl rfl rfl ?_
  refine l_r (r_move rfl) rfl ?_
  refine l_on (dj := 28) rfl rfl rfl ?_
  refine l_r (r_len rfl el28) rfl ?_
  refine l_on (dj := 28) rfl rfl rfl ?_
  refine l_r (r_field rfl fo27_3) rfl ?_
  refine l_on (dj := 28) rfl rfl rfl ?_
  refine l_r (r_load1p rfl hs3 Repl.here ag23 rfl) rfl ?_
  refine l_on (dj := 28) rfl rfl rfl ?_
  refine l_r (r_len rfl el23) rfl ?_
  refine l_on (dj := 28) rfl rfl rfl ?_
  refine l_r (r_cmp rfl rfl rfl) rfl ?_
  refine l_r (r_pick_f rfl rfl) rfl ?_
  refine l_nil ?_
  refine s_part (dj := 35) rfl (fun hc5 => ?_) (fun hc5 => ?_)
  ·
   have hc5p := bne_iff_ne.1 hc5
   refine s_then rfl ?_
   refine s_seq ?_
   refine s_region ?_
   refine l_r (r_move rfl) rfl ?_
   refine l_r (r_assign rfl) rfl ?_
   refine l_nil ?_
   refine s_ret ?_
   exact q_done (.inr rfl) (.tmp rfl .nil) ⟨rfl, hs3.toExt⟩
  ·
   have hc5p := bne_eq_false_iff_eq.1 hc5
   refine s_else rfl ?_
   refine s_skip ?_
   refine s_seq ?_
   refine s_seq ?_
   obtain ⟨hfc, hn8, hq20⟩ := hb3 hc4n
   have hml := moveL_len cf ps
   have hpow : 20 * 2 ^ cf.Channels.length ≤ 100000000 := Nat.le_trans (Nat.mul_le_mul_left _ (Nat.pow_le_pow_right (by decide) hfc.2.2.2.1)) (by decide)
   refine s_region ?_
   refine l_r (r_assign rfl) rfl ?_
   refine l_nil ?_
   refine s_block ?_
   refine s_loop (fun m L wl => ∃ (k : Nat), L = [(7, .int .i64 ((k : Nat) : Int)), (1, .slice A ps.length c), (2, .pointer (some ⟨b2, 0, none⟩))] ∧ m = cf.Channels.length - k ∧ k ≤ cf.Channels.length ∧ (∀ j x, j < k → cf.Channels[j]? = some x → Fine ps x) ∧ (∀ i j x y, i < j → j < k → cf.Channels[i]? = some x → cf.Channels[j]? = some y → ¬ Clash y x) ∧ St 0 w wl [.pt b2 [.int .i64 cf.Frame, .int .i64 cf.Switch, .slice Al_2 cf.Lines.length cl_2, .slice Al_3 cf.Parts.length cl_3, .slice Al_4 cf.Windows.length cl_4, .slice Al_5 cf.Channels.length cl_5] 27]) _ [(7, .int .i64 ((0 : Nat) : Int)), (1, .slice A ps.length c), (2, .pointer (some ⟨b2, 0, none⟩))] (.cons rfl (.cons rfl (.cons rfl .nil))) ⟨0, rfl, rfl, Nat.zero_le _, fun j x hj => (by omega), fun i j x y hij hj => (by omega), hs3⟩ ?_
   rintro _ _ w6 ⟨k, rfl, rfl, hkk, hF, hC, hs6⟩
   refine s_seq ?_
   refine s_seq ?_
   refine s_region ?_
   refine l_r (r_move rfl) rfl ?_
   refine l_r (r_field rfl fo27_5) rfl ?_
   refine l_r (r_load1p rfl hs6 Repl.here ag25 rfl) rfl ?_
   refine l_r (r_len rfl el25) rfl ?_
   refine l_r (r_cmp rfl rfl rfl) rfl ?_
   refine l_nil ?_
   refine s_part (dj := 41) rfl (fun hc7 => ?_) (fun hc7 => ?_)
   ·
    have hc7p := of_decide_eq_true hc7
    refine s_then rfl ?_
    refine s_skip ?_
    refine s_seq ?_
    refine s_block ?_
    refine s_seq ?_
    refine s_region ?_
    refine l_r (r_field rfl fo27_5) rfl ?_
    refine l_r (r_load1p rfl hs6 Repl.here ag25 rfl) rfl ?_
    refine l_r (r_move rfl) rfl ?_
    obtain ⟨e8x, e8h, e8b, e8o, e8cs, e8A, _, e8K, e8c⟩ := hl_5.get_ (i := k) (by omega)
    obtain rfl : e8cs = [.bool e8x.Queuing, .int .i64 e8x.From, .int .i64 e8x.A, .int .i64 e8x.To, .int .i64 e8x.B] := e8K
    refine l_r (r_indexA rfl e8A rfl (by omega) (by omega) el25) rfl ?_
    refine l_r (r_loadN rfl ag32 (e8c.on hs6) sz32) rfl ?_
    refine l_alloc zz32 rfl hs6 ?_
    intro w9 b8 hb8 hx9 hs9
    refine l_storeAll rfl rfl sz32 (one_all rfl) (Nat.zero_le _) hs9 Repl.here rfl ?_
    intro w10 hz10 hk10 hs10
    refine l_nil ?_
    refine s_seq ?_
    refine s_seq ?_
    refine s_quiet (by kernel_rfl) (by kernel_rfl) ?_
    refine qq_r (fun w' hw' => r_field rfl fo32_1) rfl ?_
    refine qq_r (fun w' hw' => r_load1p rfl (hs10.ext hw') Repl.here ag3 rfl) rfl ?_
    refine qq_r (fun w' hw' => r_field rfl fo32_3) rfl ?_
    refine qq_r (fun w' hw' => r_load1p rfl (hs10.ext hw') Repl.here ag3 rfl) rfl ?_
    refine qq_r (fun w' hw' => r_cmp rfl rfl rfl) rfl ?_
    refine qq_r (fun w' hw' => r_move rfl) rfl ?_
    refine qq_part (dj := 54) rfl (fun hc11 => ?_) (fun hc11 => ?_)
    ·
     have hc11p := beq_iff_eq.1 hc11
     refine qq_off (dj := 54) (b := true) rfl rfl rfl rfl rfl ?_
     refine qq_off (dj := 54) (b := true) rfl rfl rfl rfl rfl ?_
     refine qq_off (dj := 54) (b := true) rfl rfl rfl rfl rfl ?_
     refine qq_r (fun w' hw' => r_pick_t rfl rfl) rfl ?_
     refine qq_r (fun w' hw' => r_move rfl) rfl ?_
     refine qq_off (dj := 59) (b := true) rfl rfl rfl rfl rfl ?_
     refine qq_off (dj := 59) (b := true) rfl rfl rfl rfl rfl ?_
     refine qq_off (dj := 59) (b := true) rfl rfl rfl rfl rfl ?_
     refine qq_r (fun w' hw' => r_pick_t rfl rfl) rfl ?_
     refine qq_r (fun w' hw' => r_move rfl) rfl ?_
     refine qq_off (dj := 64) (b := true) rfl rfl rfl rfl rfl ?_
     refine qq_off (dj := 64) (b := true) rfl rfl rfl rfl rfl ?_
     refine qq_off (dj := 64) (b := true) rfl rfl rfl rfl rfl ?_
     refine qq_off (dj := 64) (b := true) rfl rfl rfl rfl rfl ?_
     refine qq_off (dj := 64) (b := true) rfl rfl rfl rfl rfl ?_
     refine qq_r (fun w' hw' => r_pick_t rfl rfl) rfl ?_
     refine qq_r (fun w' hw' => r_move rfl) rfl ?_
     refine qq_off (dj := 71) (b := true) rfl rfl rfl rfl rfl ?_
     refine qq_off (dj := 71) (b := true) rfl rfl rfl rfl rfl ?_
     refine qq_off (dj := 71) (b := true) rfl rfl rfl rfl rfl ?_
     refine qq_off (dj := 71) (b := true) rfl rfl rfl rfl rfl ?_
     refine qq_off (dj := 71) (b := true) rfl rfl rfl rfl rfl ?_
     refine qq_r (fun w' hw' => r_pick_t rfl rfl) rfl ?_
     refine qq_r (fun w' hw' => r_move rfl) rfl ?_
     refine qq_off (dj := 78) (b := true) rfl rfl rfl rfl rfl ?_
     refine qq_off (dj := 78) (b := true) rfl rfl rfl rfl rfl ?_
     refine qq_off (dj := 78) (b := true) rfl rfl rfl rfl rfl ?_
     refine qq_r (fun w' hw' => r_pick_t rfl rfl) rfl ?_
     refine qq_r (fun w' hw' => r_move rfl) rfl ?_
     refine qq_off (dj := 83) (b := true) rfl rfl rfl rfl rfl ?_
     refine qq_off (dj := 83) (b := true) rfl rfl rfl rfl rfl ?_
     refine qq_off (dj := 83) (b := true) rfl rfl rfl rfl rfl ?_
     refine qq_r (fun w' hw' => r_pick_t rfl rfl) rfl ?_
     refine qq_r (fun w' hw' => r_move rfl) rfl ?_
     refine qq_off (dj := 88) (b := true) rfl rfl rfl rfl rfl ?_
     refine qq_off (dj := 88) (b := true) rfl rfl rfl rfl rfl ?_
     refine qq_off (dj := 88) (b := true) rfl rfl rfl rfl rfl ?_
     refine qq_offu (dj := 91) rfl rfl rfl rfl ?_
     refine qq_offu (dj := 91) rfl rfl rfl rfl ?_
     refine qq_offu (dj := 91) rfl rfl rfl rfl ?_
     refine qq_offu (dj := 91) rfl rfl rfl rfl ?_
     refine qq_offu (dj := 91) rfl rfl rfl rfl ?_
     refine qq_offu (dj := 91) rfl rfl rfl rfl ?_
     refine qq_offu (dj := 91) rfl rfl rfl rfl ?_
     refine qq_offu (dj := 91) rfl rfl rfl rfl ?_
     refine qq_offu (dj := 91) rfl rfl rfl rfl ?_
     refine qq_offu (dj := 91) rfl rfl rfl rfl ?_
     refine qq_offu (dj := 91) rfl rfl rfl rfl ?_
     refine qq_offu (dj := 102) rfl rfl rfl rfl ?_
     refine qq_offu (dj := 102) rfl rfl rfl rfl ?_
     refine qq_offu (dj := 102) rfl rfl rfl rfl ?_
     refine qq_offu (dj := 102) rfl rfl rfl rfl ?_
     refine qq_offu (dj := 102) rfl rfl rfl rfl ?_
     refine qq_offu (dj := 102) rfl rfl rfl rfl ?_
     refine qq_offu (dj := 102) rfl rfl rfl rfl ?_
     refine qq_offu (dj := 102) rfl rfl rfl rfl ?_
     refine qq_offu (dj := 102) rfl rfl rfl rfl ?_
     refine qq_offu (dj := 102) rfl rfl rfl rfl ?_
     refine qq_offu (dj := 91) rfl rfl rfl rfl ?_
     refine qq_off (dj := 88) (b := true) rfl rfl rfl rfl rfl ?_
     refine qq_r (fun w' hw' => r_pick_t rfl rfl) rfl ?_
     refine qq_nil ?_
     intro w12 hx12
     have hs12 := hs10.ext hx12
     refine s_then rfl ?_
     refine s_seq ?_
     refine s_region ?_
     refine l_r (r_assign rfl) rfl ?_
     refine l_nil ?_
     refine s_ret ?_
     exact q_done (.inr rfl) (.tmp rfl .nil) ⟨rfl, hs12.toExt⟩
    ·
     have hc11p := beq_eq_false_iff_ne.1 hc11
     refine qq_on (dj := 54) rfl rfl rfl ?_
     refine qq_r (fun w' hw' => r_field rfl fo32_1) rfl ?_
     refine qq_on (dj := 54) rfl rfl rfl ?_
     refine qq_r (fun w' hw' => r_load1p rfl (hs10.ext hw') Repl.here ag3 rfl) rfl ?_
     refine qq_on (dj := 54) rfl rfl rfl ?_
     refine qq_r (fun w' hw' => r_cmp rfl rfl rfl) rfl ?_
     refine qq_r (fun w' hw' => r_pick_f rfl rfl) rfl ?_
     refine qq_r (fun w' hw' => r_move rfl) rfl ?_
     refine qq_part (dj := 59) rfl (fun hc13 => ?_) (fun hc13 => ?_)
     ·
      have hc13p := of_decide_eq_true hc13
      refine qq_off (dj := 59) (b := true) rfl rfl rfl rfl rfl ?_
      refine qq_off (dj := 59) (b := true) rfl rfl rfl rfl rfl ?_
      refine qq_off (dj := 59) (b := true) rfl rfl rfl rfl rfl ?_
      refine qq_r (fun w' hw' => r_pick_t rfl rfl) rfl ?_
      refine qq_r (fun w' hw' => r_move rfl) rfl ?_
      refine qq_off (dj := 64) (b := true) rfl rfl rfl rfl rfl ?_
      refine qq_off (dj := 64) (b := true) rfl rfl rfl rfl rfl ?_
      refine qq_off (dj := 64) (b := true) rfl rfl rfl rfl rfl ?_
      refine qq_off (dj := 64) (b := true) rfl rfl rfl rfl rfl ?_
      refine qq_off (dj := 64) (b := true) rfl rfl rfl rfl rfl ?_
      refine qq_r (fun w' hw' => r_pick_t rfl rfl) rfl ?_
      refine qq_r (fun w' hw' => r_move rfl) rfl ?_
      refine qq_off (dj := 71) (b := true) rfl rfl rfl rfl rfl ?_
      refine qq_off (dj := 71) (b := true) rfl rfl rfl rfl rfl ?_
      refine qq_off (dj := 71) (b := true) rfl rfl rfl rfl rfl ?_
      refine qq_off (dj := 71) (b := true) rfl rfl rfl rfl rfl ?_
      refine qq_off (dj := 71) (b := true) rfl rfl rfl rfl rfl ?_
      refine qq_r (fun w' hw' => r_pick_t rfl rfl) rfl ?_
      refine qq_r (fun w' hw' => r_move rfl) rfl ?_
      refine qq_off (dj := 78) (b := true) rfl rfl rfl rfl rfl ?_
      refine qq_off (dj := 78) (b := true) rfl rfl rfl rfl rfl ?_
      refine qq_off (dj := 78) (b := true) rfl rfl rfl rfl rfl ?_
      refine qq_r (fun w' hw' => r_pick_t rfl rfl) rfl ?_
      refine qq_r (fun w' hw' => r_move rfl) rfl ?_
      refine qq_off (dj := 83) (b := true) rfl rfl rfl rfl rfl ?_
      refine qq_off (dj := 83) (b := true) rfl rfl rfl rfl rfl ?_
      refine qq_off (dj := 83) (b := true) rfl rfl rfl rfl rfl ?_
      refine qq_r (fun w' hw' => r_pick_t rfl rfl) rfl ?_
      refine qq_r (fun w' hw' => r_move rfl) rfl ?_
      refine qq_off (dj := 88) (b := true) rfl rfl rfl rfl rfl ?_
      refine qq_off (dj := 88) (b := true) rfl rfl rfl rfl rfl ?_
      refine qq_off (dj := 88) (b := true) rfl rfl rfl rfl rfl ?_
      refine qq_offu (dj := 91) rfl rfl rfl rfl ?_
      refine qq_offu (dj := 91) rfl rfl rfl rfl ?_
      refine qq_offu (dj := 91) rfl rfl rfl rfl ?_
      refine qq_offu (dj := 91) rfl rfl rfl rfl ?_
      refine qq_offu (dj := 91) rfl rfl rfl rfl ?_
      refine qq_offu (dj := 91) rfl rfl rfl rfl ?_
      refine qq_offu (dj := 91) rfl rfl rfl rfl ?_
      refine qq_offu (dj := 91) rfl rfl rfl rfl ?_
      refine qq_offu (dj := 91) rfl rfl rfl rfl ?_
      refine qq_offu (dj := 91) rfl rfl rfl rfl ?_
      refine qq_offu (dj := 91) rfl rfl rfl rfl ?_
      refine qq_offu (dj := 102) rfl rfl rfl rfl ?_
      refine qq_offu (dj := 102) rfl rfl rfl rfl ?_
      refine qq_offu (dj := 102) rfl rfl rfl rfl ?_
      refine qq_offu (dj := 102) rfl rfl rfl rfl ?_
      refine qq_offu (dj := 102) rfl rfl rfl rfl ?_
      refine qq_offu (dj := 102) rfl rfl rfl rfl ?_
      refine qq_offu (dj := 102) rfl rfl rfl rfl ?_
      refine qq_offu (dj := 102) rfl rfl rfl rfl ?_
      refine qq_offu (dj := 102) rfl rfl rfl rfl ?_
      refine qq_offu (dj := 102) rfl rfl rfl rfl ?_
      refine qq_offu (dj := 91) rfl rfl rfl rfl ?_
      refine qq_off (dj := 88) (b := true) rfl rfl rfl rfl rfl ?_
      refine qq_r (fun w' hw' => r_pick_t rfl rfl) rfl ?_
      refine qq_nil ?_
      intro w14 hx14
      have hs14 := hs10.ext hx14
      refine s_then rfl ?_
      refine s_seq ?_
      refine s_region ?_
      refine l_r (r_assign rfl) rfl ?_
      refine l_nil ?_
      refine s_ret ?_
      exact q_done (.inr rfl) (.tmp rfl .nil) ⟨rfl, hs14.toExt⟩
     ·
      have hc13p := of_decide_eq_false hc13
      refine qq_on (dj := 59) rfl rfl rfl ?_
      refine qq_r (fun w' hw' => r_field rfl fo32_3) rfl ?_
      refine qq_on (dj := 59) rfl rfl rfl ?_
      refine qq_r (fun w' hw' => r_load1p rfl (hs10.ext hw') Repl.here ag3 rfl) rfl ?_
      refine qq_on (dj := 59) rfl rfl rfl ?_
      refine qq_r (fun w' hw' => r_cmp rfl rfl rfl) rfl ?_
      refine qq_r (fun w' hw' => r_pick_f rfl rfl) rfl ?_
      refine qq_r (fun w' hw' => r_move rfl) rfl ?_
      refine qq_part (dj := 64) rfl (fun hc15 => ?_) (fun hc15 => ?_)
      ·
       have hc15p := of_decide_eq_true hc15
       refine qq_off (dj := 64) (b := true) rfl rfl rfl rfl rfl ?_
       refine qq_off (dj := 64) (b := true) rfl rfl rfl rfl rfl ?_
       refine qq_off (dj := 64) (b := true) rfl rfl rfl rfl rfl ?_
       refine qq_off (dj := 64) (b := true) rfl rfl rfl rfl rfl ?_
       refine qq_off (dj := 64) (b := true) rfl rfl rfl rfl rfl ?_
       refine qq_r (fun w' hw' => r_pick_t rfl rfl) rfl ?_
       refine qq_r (fun w' hw' => r_move rfl) rfl ?_
       refine qq_off (dj := 71) (b := true) rfl rfl rfl rfl rfl ?_
       refine qq_off (dj := 71) (b := true) rfl rfl rfl rfl rfl ?_
       refine qq_off (dj := 71) (b := true) rfl rfl rfl rfl rfl ?_
       refine qq_off (dj := 71) (b := true) rfl rfl rfl rfl rfl ?_
       refine qq_off (dj := 71) (b := true) rfl rfl rfl rfl rfl ?_
       refine qq_r (fun w' hw' => r_pick_t rfl rfl) rfl ?_
       refine qq_r (fun w' hw' => r_move rfl) rfl ?_
       refine qq_off (dj := 78) (b := true) rfl rfl rfl rfl rfl ?_
       refine qq_off (dj := 78) (b := true) rfl rfl rfl rfl rfl ?_
       refine qq_off (dj := 78) (b := true) rfl rfl rfl rfl rfl ?_
       refine qq_r (fun w' hw' => r_pick_t rfl rfl) rfl ?_
       refine qq_r (fun w' hw' => r_move rfl) rfl ?_
       refine qq_off (dj := 83) (b := true) rfl rfl rfl rfl rfl ?_
       refine qq_off (dj := 83) (b := true) rfl rfl rfl rfl rfl ?_
       refine qq_off (dj := 83) (b := true) rfl rfl rfl rfl rfl ?_
       refine qq_r (fun w' hw' => r_pick_t rfl rfl) rfl ?_
       refine qq_r (fun w' hw' => r_move rfl) rfl ?_
       refine qq_off (dj := 88) (b := true) rfl rfl rfl rfl rfl ?_
       refine qq_off (dj := 88) (b := true) rfl rfl rfl rfl rfl ?_
       refine qq_off (dj := 88) (b := true) rfl rfl rfl rfl rfl ?_
       refine qq_offu (dj := 91) rfl rfl rfl rfl ?_
       refine qq_offu (dj := 91) rfl rfl rfl rfl ?_
       refine qq_offu (dj := 91) rfl rfl rfl rfl ?_
       refine qq_offu (dj := 91) rfl rfl rfl rfl ?_
       refine qq_offu (dj := 91) rfl rfl rfl rfl ?_
       refine qq_offu (dj := 91) rfl rfl rfl rfl ?_
       refine qq_offu (dj := 91) rfl rfl rfl rfl ?_
       refine qq_offu (dj := 91) rfl rfl rfl rfl ?_
       refine qq_offu (dj := 91) rfl rfl rfl rfl ?_
       refine qq_offu (dj := 91) rfl rfl rfl rfl ?_
       refine qq_offu (dj := 91) rfl rfl rfl rfl ?_
       refine qq_offu (dj := 102) rfl rfl rfl rfl ?_
       refine qq_offu (dj := 102) rfl rfl rfl rfl ?_
       refine qq_offu (dj := 102) rfl rfl rfl rfl ?_
       refine qq_offu (dj := 102) rfl rfl rfl rfl ?_
       refine qq_offu (dj := 102) rfl rfl rfl rfl ?_
       refine qq_offu (dj := 102) rfl rfl rfl rfl ?_
       refine qq_offu (dj := 102) rfl rfl rfl rfl ?_
       refine qq_offu (dj := 102) rfl rfl rfl rfl ?_
       refine qq_offu (dj := 102) rfl rfl rfl rfl ?_
       refine qq_offu (dj := 102) rfl rfl rfl rfl ?_
       refine qq_offu (dj := 91) rfl rfl rfl rfl ?_
       refine qq_off (dj := 88) (b := true) rfl rfl rfl rfl rfl ?_
       refine qq_r (fun w' hw' => r_pick_t rfl rfl) rfl ?_
       refine qq_nil ?_
       intro w16 hx16
       have hs16 := hs10.ext hx16
       refine s_then rfl ?_
       refine s_seq ?_
       refine s_region ?_
       refine l_r (r_assign rfl) rfl ?_
       refine l_nil ?_
       refine s_ret ?_
       exact q_done (.inr rfl) (.tmp rfl .nil) ⟨rfl, hs16.toExt⟩
      ·
       have hc15p := of_decide_eq_false hc15
       refine qq_on (dj := 64) rfl rfl rfl ?_
       refine qq_r (fun w' hw' => r_field rfl fo32_1) rfl ?_
       refine qq_on (dj := 64) rfl rfl rfl ?_
       refine qq_r (fun w' hw' => r_load1p rfl (hs10.ext hw') Repl.here ag3 rfl) rfl ?_
       refine qq_on (dj := 64) rfl rfl rfl ?_
       refine qq_r (fun w' hw' => r_move rfl) rfl ?_
       refine qq_on (dj := 64) rfl rfl rfl ?_
       refine qq_r (fun w' hw' => r_len rfl el28) rfl ?_
       refine qq_on (dj := 64) rfl rfl rfl ?_
       refine qq_r (fun w' hw' => r_cmp rfl rfl rfl) rfl ?_
       refine qq_r (fun w' hw' => r_pick_f rfl rfl) rfl ?_
       refine qq_r (fun w' hw' => r_move rfl) rfl ?_
       refine qq_part (dj := 71) rfl (fun hc17 => ?_) (fun hc17 => ?_)
       ·
        have hc17p := of_decide_eq_true hc17
        refine qq_off (dj := 71) (b := true) rfl rfl rfl rfl rfl ?_
        refine qq_off (dj := 71) (b := true) rfl rfl rfl rfl rfl ?_
        refine qq_off (dj := 71) (b := true) rfl rfl rfl rfl rfl ?_
        refine qq_off (dj := 71) (b := true) rfl rfl rfl rfl rfl ?_
        refine qq_off (dj := 71) (b := true) rfl rfl rfl rfl rfl ?_
        refine qq_r (fun w' hw' => r_pick_t rfl rfl) rfl ?_
        refine qq_r (fun w' hw' => r_move rfl) rfl ?_
        refine qq_off (dj := 78) (b := true) rfl rfl rfl rfl rfl ?_
        refine qq_off (dj := 78) (b := true) rfl rfl rfl rfl rfl ?_
        refine qq_off (dj := 78) (b := true) rfl rfl rfl rfl rfl ?_
        refine qq_r (fun w' hw' => r_pick_t rfl rfl) rfl ?_
        refine qq_r (fun w' hw' => r_move rfl) rfl ?_
        refine qq_off (dj := 83) (b := true) rfl rfl rfl rfl rfl ?_
        refine qq_off (dj := 83) (b := true) rfl rfl rfl rfl rfl ?_
        refine qq_off (dj := 83) (b := true) rfl rfl rfl rfl rfl ?_
        refine qq_r (fun w' hw' => r_pick_t rfl rfl) rfl ?_
        refine qq_r (fun w' hw' => r_move rfl) rfl ?_
        refine qq_off (dj := 88) (b := true) rfl rfl rfl rfl rfl ?_
        refine qq_off (dj := 88) (b := true) rfl rfl rfl rfl rfl ?_
        refine qq_off (dj := 88) (b := true) rfl rfl rfl rfl rfl ?_
        refine qq_offu (dj := 91) rfl rfl rfl rfl ?_
        refine qq_offu (dj := 91) rfl rfl rfl rfl ?_
        refine qq_offu (dj := 91) rfl rfl rfl rfl ?_
        refine qq_offu (dj := 91) rfl rfl rfl rfl ?_
        refine qq_offu (dj := 91) rfl rfl rfl rfl ?_
        refine qq_offu (dj := 91) rfl rfl rfl rfl ?_
        refine qq_offu (dj := 91) rfl rfl rfl rfl ?_
        refine qq_offu (dj := 91) rfl rfl rfl rfl ?_
        refine qq_offu (dj := 91) rfl rfl rfl rfl ?_
        refine qq_offu (dj := 91) rfl rfl rfl rfl ?_
        refine qq_offu (dj := 91) rfl rfl rfl rfl ?_
        refine qq_offu (dj := 102) rfl rfl rfl rfl ?_
        refine qq_offu (dj := 102) rfl rfl rfl rfl ?_
        refine qq_offu (dj := 102) rfl rfl rfl rfl ?_
        refine qq_offu (dj := 102) rfl rfl rfl rfl ?_
        refine qq_offu (dj := 102) rfl rfl rfl rfl ?_
        refine qq_offu (dj := 102) rfl rfl rfl rfl ?_
        refine qq_offu (dj := 102) rfl rfl rfl rfl ?_
        refine qq_offu (dj := 102) rfl rfl rfl rfl ?_
        refine qq_offu (dj := 102) rfl rfl rfl rfl ?_
        refine qq_offu (dj := 102) rfl rfl rfl rfl ?_
        refine qq_offu (dj := 91) rfl rfl rfl rfl ?_
        refine qq_off (dj := 88) (b := true) rfl rfl rfl rfl rfl ?_
        refine qq_r (fun w' hw' => r_pick_t rfl rfl) rfl ?_
        refine qq_nil ?_
        intro w18 hx18
        have hs18 := hs10.ext hx18
        refine s_then rfl ?_
        refine s_seq ?_
        refine s_region ?_
        refine l_r (r_assign rfl) rfl ?_
        refine l_nil ?_
        refine s_ret ?_
        exact q_done (.inr rfl) (.tmp rfl .nil) ⟨rfl, hs18.toExt⟩
       ·
        have hc17p := of_decide_eq_false hc17
        refine qq_on (dj := 71) rfl rfl rfl ?_
        refine qq_r (fun w' hw' => r_field rfl fo32_3) rfl ?_
        refine qq_on (dj := 71) rfl rfl rfl ?_
        refine qq_r (fun w' hw' => r_load1p rfl (hs10.ext hw') Repl.here ag3 rfl) rfl ?_
        refine qq_on (dj := 71) rfl rfl rfl ?_
        refine qq_r (fun w' hw' => r_move rfl) rfl ?_
        refine qq_on (dj := 71) rfl rfl rfl ?_
        refine qq_r (fun w' hw' => r_len rfl el28) rfl ?_
        refine qq_on (dj := 71) rfl rfl rfl ?_
        refine qq_r (fun w' hw' => r_cmp rfl rfl rfl) rfl ?_
        refine qq_r (fun w' hw' => r_pick_f rfl rfl) rfl ?_
        refine qq_r (fun w' hw' => r_move rfl) rfl ?_
        refine qq_part (dj := 78) rfl (fun hc19 => ?_) (fun hc19 => ?_)
        ·
         have hc19p := of_decide_eq_true hc19
         refine qq_off (dj := 78) (b := true) rfl rfl rfl rfl rfl ?_
         refine qq_off (dj := 78) (b := true) rfl rfl rfl rfl rfl ?_
         refine qq_off (dj := 78) (b := true) rfl rfl rfl rfl rfl ?_
         refine qq_r (fun w' hw' => r_pick_t rfl rfl) rfl ?_
         refine qq_r (fun w' hw' => r_move rfl) rfl ?_
         refine qq_off (dj := 83) (b := true) rfl rfl rfl rfl rfl ?_
         refine qq_off (dj := 83) (b := true) rfl rfl rfl rfl rfl ?_
         refine qq_off (dj := 83) (b := true) rfl rfl rfl rfl rfl ?_
         refine qq_r (fun w' hw' => r_pick_t rfl rfl) rfl ?_
         refine qq_r (fun w' hw' => r_move rfl) rfl ?_
         refine qq_off (dj := 88) (b := true) rfl rfl rfl rfl rfl ?_
         refine qq_off (dj := 88) (b := true) rfl rfl rfl rfl rfl ?_
         refine qq_off (dj := 88) (b := true) rfl rfl rfl rfl rfl ?_
         refine qq_offu (dj := 91) rfl rfl rfl rfl ?_
         refine qq_offu (dj := 91) rfl rfl rfl rfl ?_
         refine qq_offu (dj := 91) rfl rfl rfl rfl ?_
         refine qq_offu (dj := 91) rfl rfl rfl rfl ?_
         refine qq_offu (dj := 91) rfl rfl rfl rfl ?_
         refine qq_offu (dj := 91) rfl rfl rfl rfl ?_
         refine qq_offu (dj := 91) rfl rfl rfl rfl ?_
         refine qq_offu (dj := 91) rfl rfl rfl rfl ?_
         refine qq_offu (dj := 91) rfl rfl rfl rfl ?_
         refine qq_offu (dj := 91) rfl rfl rfl rfl ?_
         refine qq_offu (dj := 91) rfl rfl rfl rfl ?_
         refine qq_offu (dj := 102) rfl rfl rfl rfl ?_
         refine qq_offu (dj := 102) rfl rfl rfl rfl ?_
         refine qq_offu (dj := 102) rfl rfl rfl rfl ?_
         refine qq_offu (dj := 102) rfl rfl rfl rfl ?_
         refine qq_offu (dj := 102) rfl rfl rfl rfl ?_
         refine qq_offu (dj := 102) rfl rfl rfl rfl ?_
         refine qq_offu (dj := 102) rfl rfl rfl rfl ?_
         refine qq_offu (dj := 102) rfl rfl rfl rfl ?_
         refine qq_offu (dj := 102) rfl rfl rfl rfl ?_
         refine qq_offu (dj := 102) rfl rfl rfl rfl ?_
         refine qq_offu (dj := 91) rfl rfl rfl rfl ?_
         refine qq_off (dj := 88) (b := true) rfl rfl rfl rfl rfl ?_
         refine qq_r (fun w' hw' => r_pick_t rfl rfl) rfl ?_
         refine qq_nil ?_
         intro w20 hx20
         have hs20 := hs10.ext hx20
         refine s_then rfl ?_
         refine s_seq ?_
         refine s_region ?_
         refine l_r (r_assign rfl) rfl ?_
         refine l_nil ?_
         refine s_ret ?_
         exact q_done (.inr rfl) (.tmp rfl .nil) ⟨rfl, hs20.toExt⟩
        ·
         have hc19p := of_decide_eq_false hc19
         refine qq_on (dj := 78) rfl rfl rfl ?_
         refine qq_r (fun w' hw' => r_field rfl fo32_2) rfl ?_
         refine qq_on (dj := 78) rfl rfl rfl ?_
         refine qq_r (fun w' hw' => r_load1p rfl (hs10.ext hw') Repl.here ag3 rfl) rfl ?_
         refine qq_on (dj := 78) rfl rfl rfl ?_
         refine qq_r (fun w' hw' => r_cmp rfl rfl rfl) rfl ?_
         refine qq_r (fun w' hw' => r_pick_f rfl rfl) rfl ?_
         refine qq_r (fun w' hw' => r_move rfl) rfl ?_
         refine qq_part (dj := 83) rfl (fun hc21 => ?_) (fun hc21 => ?_)
         ·
          have hc21p := of_decide_eq_true hc21
          refine qq_off (dj := 83) (b := true) rfl rfl rfl rfl rfl ?_
          refine qq_off (dj := 83) (b := true) rfl rfl rfl rfl rfl ?_
          refine qq_off (dj := 83) (b := true) rfl rfl rfl rfl rfl ?_
          refine qq_r (fun w' hw' => r_pick_t rfl rfl) rfl ?_
          refine qq_r (fun w' hw' => r_move rfl) rfl ?_
          refine qq_off (dj := 88) (b := true) rfl rfl rfl rfl rfl ?_
          refine qq_off (dj := 88) (b := true) rfl rfl rfl rfl rfl ?_
          refine qq_off (dj := 88) (b := true) rfl rfl rfl rfl rfl ?_
          refine qq_offu (dj := 91) rfl rfl rfl rfl ?_
          refine qq_offu (dj := 91) rfl rfl rfl rfl ?_
          refine qq_offu (dj := 91) rfl rfl rfl rfl ?_
          refine qq_offu (dj := 91) rfl rfl rfl rfl ?_
          refine qq_offu (dj := 91) rfl rfl rfl rfl ?_
          refine qq_offu (dj := 91) rfl rfl rfl rfl ?_
          refine qq_offu (dj := 91) rfl rfl rfl rfl ?_
          refine qq_offu (dj := 91) rfl rfl rfl rfl ?_
          refine qq_offu (dj := 91) rfl rfl rfl rfl ?_
          refine qq_offu (dj := 91) rfl rfl rfl rfl ?_
          refine qq_offu (dj := 91) rfl rfl rfl rfl ?_
          refine qq_offu (dj := 102) rfl rfl rfl rfl ?_
          refine qq_offu (dj := 102) rfl rfl rfl rfl ?_
          refine qq_offu (dj := 102) rfl rfl rfl rfl ?_
          refine qq_offu (dj := 102) rfl rfl rfl rfl ?_
          refine qq_offu (dj := 102) rfl rfl rfl rfl ?_
          refine qq_offu (dj := 102) rfl rfl rfl rfl ?_
          refine qq_offu (dj := 102) rfl rfl rfl rfl ?_
          refine qq_offu (dj := 102) rfl rfl rfl rfl ?_
          refine qq_offu (dj := 102) rfl rfl rfl rfl ?_
          refine qq_offu (dj := 102) rfl rfl rfl rfl ?_
          refine qq_offu (dj := 91) rfl rfl rfl rfl ?_
          refine qq_off (dj := 88) (b := true) rfl rfl rfl rfl rfl ?_
          refine qq_r (fun w' hw' => r_pick_t rfl rfl) rfl ?_
          refine qq_nil ?_
          intro w22 hx22
          have hs22 := hs10.ext hx22
          refine s_then rfl ?_
          refine s_seq ?_
          refine s_region ?_
          refine l_r (r_assign rfl) rfl ?_
          refine l_nil ?_
          refine s_ret ?_
          exact q_done (.inr rfl) (.tmp rfl .nil) ⟨rfl, hs22.toExt⟩
         ·
          have hc21p := of_decide_eq_false hc21
          refine qq_on (dj := 83) rfl rfl rfl ?_
          refine qq_r (fun w' hw' => r_field rfl fo32_4) rfl ?_
          refine qq_on (dj := 83) rfl rfl rfl ?_
          refine qq_r (fun w' hw' => r_load1p rfl (hs10.ext hw') Repl.here ag3 rfl) rfl ?_
          refine qq_on (dj := 83) rfl rfl rfl ?_
          refine qq_r (fun w' hw' => r_cmp rfl rfl rfl) rfl ?_
          refine qq_r (fun w' hw' => r_pick_f rfl rfl) rfl ?_
          refine qq_r (fun w' hw' => r_move rfl) rfl ?_
          refine qq_part (dj := 88) rfl (fun hc23 => ?_) (fun hc23 => ?_)
          ·
           have hc23p := of_decide_eq_true hc23
           refine qq_off (dj := 88) (b := true) rfl rfl rfl rfl rfl ?_
           refine qq_off (dj := 88) (b := true) rfl rfl rfl rfl rfl ?_
           refine qq_off (dj := 88) (b := true) rfl rfl rfl rfl rfl ?_
           refine qq_offu (dj := 91) rfl rfl rfl rfl ?_
           refine qq_offu (dj := 91) rfl rfl rfl rfl ?_
           refine qq_offu (dj := 91) rfl rfl rfl rfl ?_
           refine qq_offu (dj := 91) rfl rfl rfl rfl ?_
           refine qq_offu (dj := 91) rfl rfl rfl rfl ?_
           refine qq_offu (dj := 91) rfl rfl rfl rfl ?_
           refine qq_offu (dj := 91) rfl rfl rfl rfl ?_
           refine qq_offu (dj := 91) rfl rfl rfl rfl ?_
           refine qq_offu (dj := 91) rfl rfl rfl rfl ?_
           refine qq_offu (dj := 91) rfl rfl rfl rfl ?_
           refine qq_offu (dj := 91) rfl rfl rfl rfl ?_
           refine qq_offu (dj := 102) rfl rfl rfl rfl ?_
           refine qq_offu (dj := 102) rfl rfl rfl rfl ?_
           refine qq_offu (dj := 102) rfl rfl rfl rfl ?_
           refine qq_offu (dj := 102) rfl rfl rfl rfl ?_
           refine qq_offu (dj := 102) rfl rfl rfl rfl ?_
           refine qq_offu (dj := 102) rfl rfl rfl rfl ?_
           refine qq_offu (dj := 102) rfl rfl rfl rfl ?_
           refine qq_offu (dj := 102) rfl rfl rfl rfl ?_
           refine qq_offu (dj := 102) rfl rfl rfl rfl ?_
           refine qq_offu (dj := 102) rfl rfl rfl rfl ?_
           refine qq_offu (dj := 91) rfl rfl rfl rfl ?_
           refine qq_off (dj := 88) (b := true) rfl rfl rfl rfl rfl ?_
           refine qq_r (fun w' hw' => r_pick_t rfl rfl) rfl ?_
           refine qq_nil ?_
           intro w24 hx24
           have hs24 := hs10.ext hx24
           refine s_then rfl ?_
           refine s_seq ?_
           refine s_region ?_
           refine l_r (r_assign rfl) rfl ?_
           refine l_nil ?_
           refine s_ret ?_
           exact q_done (.inr rfl) (.tmp rfl .nil) ⟨rfl, hs24.toExt⟩
          ·
           have hc23p := of_decide_eq_false hc23
           refine qq_on (dj := 88) rfl rfl rfl ?_
           refine qq_r (fun w' hw' => r_field rfl fo32_0) rfl ?_
           refine qq_on (dj := 88) rfl rfl rfl ?_
           refine qq_r (fun w' hw' => r_load1p rfl (hs10.ext hw') Repl.here ag4 rfl) rfl ?_
           refine qq_on (dj := 88) rfl rfl rfl ?_
           refine qq_r (fun w' hw' => r_move rfl) rfl ?_
           refine qq_part (dj := 91) rfl (fun hc25 => ?_) (fun hc25 => ?_)
           ·
            refine qq_on (dj := 91) rfl rfl rfl ?_
            refine qq_r (fun w' hw' => r_field rfl fo32_2) rfl ?_
            refine qq_on (dj := 91) rfl rfl rfl ?_
            refine qq_r (fun w' hw' => r_load1p rfl (hs10.ext hw') Repl.here ag3 rfl) rfl ?_
            refine qq_on (dj := 91) rfl rfl rfl ?_
            refine qq_r (fun w' hw' => r_move rfl) rfl ?_
            refine qq_on (dj := 91) rfl rfl rfl ?_
            refine qq_r (fun w' hw' => r_field rfl fo32_1) rfl ?_
            refine qq_on (dj := 91) rfl rfl rfl ?_
            refine qq_r (fun w' hw' => r_load1p rfl (hs10.ext hw') Repl.here ag3 rfl) rfl ?_
            refine qq_on (dj := 91) rfl rfl rfl ?_
            obtain ⟨e26x, e26h, e26b, e26o, e26cs, e26A, _, e26K, e26c⟩ := hx.get_ (i := e8x.From.toNat) (by omega)
            have e26K0 := e26K
            obtain ⟨Ae26_3, ce26_3, Ae26_4, ce26_4, Ae26_5, ce26_5, Ae26_6, ce26_6, Ae26_7, ce26_7, Ae26_8, ce26_8, Ae26_9, ce26_9, Ae26_10, ce26_10, Ae26_12, ce26_12, Ae26_14, ce26_14, rfl, he26_3, he26_4, he26_5, he26_6, he26_7, he26_8, he26_9, he26_10, he26_12, he26_14⟩ := e26K
            refine qq_r (fun w' hw' => r_indexA rfl e26A rfl (by omega) (by omega) el28) rfl ?_
            refine qq_on (dj := 91) rfl rfl rfl ?_
            refine qq_r (fun w' hw' => r_field rfl fo48_10) rfl ?_
            refine qq_on (dj := 91) rfl rfl rfl ?_
            refine qq_r (fun w' hw' => r_load1 rfl ag44 ((e26c.on (hs10.ext hw')).get (j := 10) rfl)) rfl ?_
            refine qq_on (dj := 91) rfl rfl rfl ?_
            refine qq_r (fun w' hw' => r_len rfl el44) rfl ?_
            refine qq_on (dj := 91) rfl rfl rfl ?_
            refine qq_r (fun w' hw' => r_cmp rfl rfl rfl) rfl ?_
            refine qq_on (dj := 91) rfl rfl rfl ?_
            refine qq_r (fun w' hw' => r_move rfl) rfl ?_
            refine qq_part (dj := 102) rfl (fun hc27 => ?_) (fun hc27 => ?_)
            ·
             have hc27p := of_decide_eq_true hc27
             refine qq_off (dj := 102) (b := true) rfl rfl rfl rfl rfl ?_
             refine qq_off (dj := 102) (b := true) rfl rfl rfl rfl rfl ?_
             refine qq_off (dj := 102) (b := true) rfl rfl rfl rfl rfl ?_
             refine qq_off (dj := 102) (b := true) rfl rfl rfl rfl rfl ?_
             refine qq_off (dj := 102) (b := true) rfl rfl rfl rfl rfl ?_
             refine qq_off (dj := 102) (b := true) rfl rfl rfl rfl rfl ?_
             refine qq_off (dj := 102) (b := true) rfl rfl rfl rfl rfl ?_
             refine qq_off (dj := 102) (b := true) rfl rfl rfl rfl rfl ?_
             refine qq_off (dj := 102) (b := true) rfl rfl rfl rfl rfl ?_
             refine qq_off (dj := 102) (b := true) rfl rfl rfl rfl rfl ?_
             refine qq_on (dj := 91) rfl rfl rfl ?_
             refine qq_r (fun w' hw' => r_pick_t rfl rfl) rfl ?_
             refine qq_on (dj := 88) rfl rfl rfl ?_
             refine qq_r (fun w' hw' => r_pick_t rfl rfl) rfl ?_
             refine qq_r (fun w' hw' => r_pick_f rfl rfl) rfl ?_
             refine qq_nil ?_
             intro w28 hx28
             have hs28 := hs10.ext hx28
             refine s_then rfl ?_
             refine s_seq ?_
             refine s_region ?_
             refine l_r (r_assign rfl) rfl ?_
             refine l_nil ?_
             refine s_ret ?_
             exact q_done (.inr rfl) (.tmp rfl .nil) ⟨rfl, hs28.toExt⟩
            ·
             have hc27p := of_decide_eq_false hc27
             refine qq_on (dj := 102) rfl rfl rfl ?_
             refine qq_r (fun w' hw' => r_field rfl fo32_4) rfl ?_
             refine qq_on (dj := 102) rfl rfl rfl ?_
             refine qq_r (fun w' hw' => r_load1p rfl (hs10.ext hw') Repl.here ag3 rfl) rfl ?_
             refine qq_on (dj := 102) rfl rfl rfl ?_
             refine qq_r (fun w' hw' => r_move rfl) rfl ?_
             refine qq_on (dj := 102) rfl rfl rfl ?_
             refine qq_r (fun w' hw' => r_field rfl fo32_3) rfl ?_
             refine qq_on (dj := 102) rfl rfl rfl ?_
             refine qq_r (fun w' hw' => r_load1p rfl (hs10.ext hw') Repl.here ag3 rfl) rfl ?_
             refine qq_on (dj := 102) rfl rfl rfl ?_
             obtain ⟨e29x, e29h, e29b, e29o, e29cs, e29A, _, e29K, e29c⟩ := hx.get_ (i := e8x.To.toNat) (by omega)
             have e29K0 := e29K
             obtain ⟨Ae29_3, ce29_3, Ae29_4, ce29_4, Ae29_5, ce29_5, Ae29_6, ce29_6, Ae29_7, ce29_7, Ae29_8, ce29_8, Ae29_9, ce29_9, Ae29_10, ce29_10, Ae29_12, ce29_12, Ae29_14, ce29_14, rfl, he29_3, he29_4, he29_5, he29_6, he29_7, he29_8, he29_9, he29_10, he29_12, he29_14⟩ := e29K
             refine qq_r (fun w' hw' => r_indexA rfl e29A rfl (by omega) (by omega) el28) rfl ?_
             refine qq_on (dj := 102) rfl rfl rfl ?_
             refine qq_r (fun w' hw' => r_field rfl fo48_10) rfl ?_
             refine qq_on (dj := 102) rfl rfl rfl ?_
             refine qq_r (fun w' hw' => r_load1 rfl ag44 ((e29c.on (hs10.ext hw')).get (j := 10) rfl)) rfl ?_
             refine qq_on (dj := 102) rfl rfl rfl ?_
             refine qq_r (fun w' hw' => r_len rfl el44) rfl ?_
             refine qq_on (dj := 102) rfl rfl rfl ?_
             refine qq_r (fun w' hw' => r_cmp rfl rfl rfl) rfl ?_
             refine qq_on (dj := 91) rfl rfl rfl ?_
             refine qq_r (fun w' hw' => r_pick_f rfl rfl) rfl ?_
             refine qq_on (dj := 88) rfl rfl rfl ?_
             refine qq_r (fun w' hw' => r_pick_t rfl rfl) rfl ?_
             refine qq_r (fun w' hw' => r_pick_f rfl rfl) rfl ?_
             refine qq_nil ?_
             intro w30 hx30
             have hs30 := hs10.ext hx30
             refine s_part (dj := 115) rfl (fun hc31 => ?_) (fun hc31 => ?_)
             ·
              have hc31p := of_decide_eq_true hc31
              refine s_then rfl ?_
              refine s_seq ?_
              refine s_region ?_
              refine l_r (r_assign rfl) rfl ?_
              refine l_nil ?_
              refine s_ret ?_
              exact q_done (.inr rfl) (.tmp rfl .nil) ⟨rfl, hs30.toExt⟩
             ·
              have hc31p := of_decide_eq_false hc31
              refine s_else rfl ?_
              refine s_skip ?_
              refine s_seq ?_
              skip
              refine s_region ?_
              refine l_r (r_assign rfl) rfl ?_
              refine l_nil ?_
              refine s_block ?_
              refine s_loop (fun m L wl => ∃ (k1 : Nat), L = [(9, .int .i64 ((k1 : Nat) : Int)), (1, .slice A ps.length c), (2, .pointer (some ⟨b2, 0, none⟩)), (7, .int .i64 (((k : Nat) : Int))), (8, .pointer (some ⟨b8, 0, none⟩))] ∧ m = k - k1 ∧ k1 ≤ k ∧ (∀ j y, j < k1 → cf.Channels[j]? = some y → ¬ Clash e8x y) ∧ St 0 w wl [.pt b8 [.bool e8x.Queuing, .int .i64 e8x.From, .int .i64 e8x.A, .int .i64 e8x.To, .int .i64 e8x.B] 32, .pt b2 [.int .i64 cf.Frame, .int .i64 cf.Switch, .slice Al_2 cf.Lines.length cl_2, .slice Al_3 cf.Parts.length cl_3, .slice Al_4 cf.Windows.length cl_4, .slice Al_5 cf.Channels.length cl_5] 27]) _ [(9, .int .i64 ((0 : Nat) : Int)), (1, .slice A ps.length c), (2, .pointer (some ⟨b2, 0, none⟩)), (7, .int .i64 (((k : Nat) : Int))), (8, .pointer (some ⟨b8, 0, none⟩))] (.cons rfl (.cons rfl (.cons rfl (.cons rfl (.cons rfl .nil))))) ⟨0, rfl, rfl, Nat.zero_le _, fun j y hj => (by omega), hs30⟩ ?_
              rintro _ _ w32 ⟨k1, rfl, rfl, hkk1, hD, hs32⟩
              refine s_seq ?_
              refine s_seq ?_
              refine s_region ?_
              refine l_r (r_move rfl) rfl ?_
              refine l_r (r_move rfl) rfl ?_
              refine l_r (r_cmp rfl rfl rfl) rfl ?_
              refine l_nil ?_
              refine s_part (dj := 118) rfl (fun hc33 => ?_) (fun hc33 => ?_)
              ·
               have hc33p := of_decide_eq_true hc33
               refine s_then rfl ?_
               refine s_skip ?_
               refine s_seq ?_
               refine s_block ?_
               refine s_seq ?_
               refine s_region ?_
               refine l_r (r_field rfl fo27_5) rfl ?_
               refine l_r (r_load1p rfl hs32 (Repl.there Repl.here) ag25 rfl) rfl ?_
               refine l_r (r_move rfl) rfl ?_
               obtain ⟨e34x, e34h, e34b, e34o, e34cs, e34A, _, e34K, e34c⟩ := hl_5.get_ (i := k1) (by omega)
               obtain rfl : e34cs = [.bool e34x.Queuing, .int .i64 e34x.From, .int .i64 e34x.A, .int .i64 e34x.To, .int .i64 e34x.B] := e34K
               refine l_r (r_indexA rfl e34A rfl (by omega) (by omega) el25) rfl ?_
               refine l_r (r_loadN rfl ag32 (e34c.on hs32) sz32) rfl ?_
               refine l_alloc zz32 rfl hs32 ?_
               intro w35 b10 hb10 hx35 hs35
               refine l_storeAll rfl rfl sz32 (one_all rfl) (Nat.zero_le _) hs35 Repl.here rfl ?_
               intro w36 hz36 hk36 hs36
               refine l_nil ?_
               refine s_seq ?_
               refine s_region ?_
               refine l_r (r_field rfl fo32_0) rfl ?_
               refine l_r (r_load1p rfl hs36 (Repl.there Repl.here) ag4 rfl) rfl ?_
               refine l_r (r_field rfl fo32_0) rfl ?_
               refine l_r (r_load1p rfl hs36 Repl.here ag4 rfl) rfl ?_
               refine l_r (r_eqb rfl rfl Try.underlying4) rfl ?_
               refine l_r (r_move rfl) rfl ?_
               refine l_part (dj := 131) rfl (fun hc37 => ?_) (fun hc37 => ?_)
               ·
                have hc37p := beq_iff_eq.1 hc37
                refine l_on (dj := 131) rfl rfl rfl ?_
                refine l_r (r_field rfl fo32_1) rfl ?_
                refine l_on (dj := 131) rfl rfl rfl ?_
                refine l_r (r_load1p rfl hs36 (Repl.there Repl.here) ag3 rfl) rfl ?_
                refine l_on (dj := 131) rfl rfl rfl ?_
                refine l_r (r_field rfl fo32_1) rfl ?_
                refine l_on (dj := 131) rfl rfl rfl ?_
                refine l_r (r_load1p rfl hs36 Repl.here ag3 rfl) rfl ?_
                refine l_on (dj := 131) rfl rfl rfl ?_
                refine l_r (r_cmp rfl rfl rfl) rfl ?_
                refine l_on (dj := 131) rfl rfl rfl ?_
                refine l_r (r_move rfl) rfl ?_
                refine l_part (dj := 137) rfl (fun hc38 => ?_) (fun hc38 => ?_)
                ·
                 have hc38p := beq_iff_eq.1 hc38
                 refine l_on (dj := 137) rfl rfl rfl ?_
                 refine l_r (r_field rfl fo32_2) rfl ?_
                 refine l_on (dj := 137) rfl rfl rfl ?_
                 refine l_r (r_load1p rfl hs36 (Repl.there Repl.here) ag3 rfl) rfl ?_
                 refine l_on (dj := 137) rfl rfl rfl ?_
                 refine l_r (r_field rfl fo32_2) rfl ?_
                 refine l_on (dj := 137) rfl rfl rfl ?_
                 refine l_r (r_load1p rfl hs36 Repl.here ag3 rfl) rfl ?_
                 refine l_on (dj := 137) rfl rfl rfl ?_
                 refine l_r (r_cmp rfl rfl rfl) rfl ?_
                 refine l_on (dj := 131) rfl rfl rfl ?_
                 refine l_r (r_pick_t rfl rfl) rfl ?_
                 refine l_on (dj := 131) rfl rfl rfl ?_
                 refine l_r (r_move rfl) rfl ?_
                 refine l_part (dj := 144) rfl (fun hc39 => ?_) (fun hc39 => ?_)
                 ·
                  have hc39p := beq_iff_eq.1 hc39
                  refine l_off (dj := 144) (b := true) rfl rfl rfl rfl rfl ?_
                  refine l_off (dj := 144) (b := true) rfl rfl rfl rfl rfl ?_
                  refine l_off (dj := 144) (b := true) rfl rfl rfl rfl rfl ?_
                  refine l_off (dj := 144) (b := true) rfl rfl rfl rfl rfl ?_
                  refine l_off (dj := 144) (b := true) rfl rfl rfl rfl rfl ?_
                  refine l_off (dj := 144) (b := true) rfl rfl rfl rfl rfl ?_
                  refine l_offu (dj := 150) rfl rfl rfl rfl ?_
                  refine l_offu (dj := 150) rfl rfl rfl rfl ?_
                  refine l_offu (dj := 150) rfl rfl rfl rfl ?_
                  refine l_offu (dj := 150) rfl rfl rfl rfl ?_
                  refine l_offu (dj := 150) rfl rfl rfl rfl ?_
                  refine l_off (dj := 144) (b := true) rfl rfl rfl rfl rfl ?_
                  refine l_on (dj := 131) rfl rfl rfl ?_
                  refine l_r (r_pick_t rfl rfl) rfl ?_
                  refine l_on (dj := 131) rfl rfl rfl ?_
                  refine l_r (r_move rfl) rfl ?_
                  refine l_off (dj := 158) (b := true) rfl rfl rfl rfl rfl ?_
                  refine l_off (dj := 158) (b := true) rfl rfl rfl rfl rfl ?_
                  refine l_off (dj := 158) (b := true) rfl rfl rfl rfl rfl ?_
                  refine l_off (dj := 158) (b := true) rfl rfl rfl rfl rfl ?_
                  refine l_off (dj := 158) (b := true) rfl rfl rfl rfl rfl ?_
                  refine l_off (dj := 158) (b := true) rfl rfl rfl rfl rfl ?_
                  refine l_offu (dj := 164) rfl rfl rfl rfl ?_
                  refine l_offu (dj := 164) rfl rfl rfl rfl ?_
                  refine l_offu (dj := 164) rfl rfl rfl rfl ?_
                  refine l_offu (dj := 164) rfl rfl rfl rfl ?_
                  refine l_offu (dj := 164) rfl rfl rfl rfl ?_
                  refine l_off (dj := 158) (b := true) rfl rfl rfl rfl rfl ?_
                  refine l_on (dj := 131) rfl rfl rfl ?_
                  refine l_r (r_pick_t rfl rfl) rfl ?_
                  refine l_on (dj := 131) rfl rfl rfl ?_
                  refine l_r (r_move rfl) rfl ?_
                  refine l_off (dj := 172) (b := true) rfl rfl rfl rfl rfl ?_
                  refine l_off (dj := 172) (b := true) rfl rfl rfl rfl rfl ?_
                  refine l_off (dj := 172) (b := true) rfl rfl rfl rfl rfl ?_
                  refine l_off (dj := 172) (b := true) rfl rfl rfl rfl rfl ?_
                  refine l_off (dj := 172) (b := true) rfl rfl rfl rfl rfl ?_
                  refine l_off (dj := 172) (b := true) rfl rfl rfl rfl rfl ?_
                  refine l_offu (dj := 178) rfl rfl rfl rfl ?_
                  refine l_offu (dj := 178) rfl rfl rfl rfl ?_
                  refine l_offu (dj := 178) rfl rfl rfl rfl ?_
                  refine l_offu (dj := 178) rfl rfl rfl rfl ?_
                  refine l_offu (dj := 178) rfl rfl rfl rfl ?_
                  refine l_off (dj := 172) (b := true) rfl rfl rfl rfl rfl ?_
                  refine l_on (dj := 131) rfl rfl rfl ?_
                  refine l_r (r_pick_t rfl rfl) rfl ?_
                  refine l_r (r_pick_t rfl rfl) rfl ?_
                  refine l_nil ?_
                  refine s_then rfl ?_
                  refine s_seq ?_
                  refine s_region ?_
                  refine l_r (r_assign rfl) rfl ?_
                  refine l_nil ?_
                  refine s_ret ?_
                  exact q_done (.inr rfl) (.tmp rfl .nil) ⟨rfl, hs36.toExt⟩
                 ·
                  have hc39p := beq_eq_false_iff_ne.1 hc39
                  refine l_on (dj := 144) rfl rfl rfl ?_
                  refine l_r (r_field rfl fo32_1) rfl ?_
                  refine l_on (dj := 144) rfl rfl rfl ?_
                  refine l_r (r_load1p rfl hs36 (Repl.there Repl.here) ag3 rfl) rfl ?_
                  refine l_on (dj := 144) rfl rfl rfl ?_
                  refine l_r (r_field rfl fo32_3) rfl ?_
                  refine l_on (dj := 144) rfl rfl rfl ?_
                  refine l_r (r_load1p rfl hs36 Repl.here ag3 rfl) rfl ?_
                  refine l_on (dj := 144) rfl rfl rfl ?_
                  refine l_r (r_cmp rfl rfl rfl) rfl ?_
                  refine l_on (dj := 144) rfl rfl rfl ?_
                  refine l_r (r_move rfl) rfl ?_
                  refine l_part (dj := 150) rfl (fun hc40 => ?_) (fun hc40 => ?_)
                  ·
                   have hc40p := beq_iff_eq.1 hc40
                   refine l_on (dj := 150) rfl rfl rfl ?_
                   refine l_r (r_field rfl fo32_2) rfl ?_
                   refine l_on (dj := 150) rfl rfl rfl ?_
                   refine l_r (r_load1p rfl hs36 (Repl.there Repl.here) ag3 rfl) rfl ?_
                   refine l_on (dj := 150) rfl rfl rfl ?_
                   refine l_r (r_field rfl fo32_4) rfl ?_
                   refine l_on (dj := 150) rfl rfl rfl ?_
                   refine l_r (r_load1p rfl hs36 Repl.here ag3 rfl) rfl ?_
                   refine l_on (dj := 150) rfl rfl rfl ?_
                   refine l_r (r_cmp rfl rfl rfl) rfl ?_
                   refine l_on (dj := 144) rfl rfl rfl ?_
                   refine l_r (r_pick_t rfl rfl) rfl ?_
                   refine l_on (dj := 131) rfl rfl rfl ?_
                   refine l_r (r_pick_f rfl rfl) rfl ?_
                   refine l_on (dj := 131) rfl rfl rfl ?_
                   refine l_r (r_move rfl) rfl ?_
                   refine l_part (dj := 158) rfl (fun hc41 => ?_) (fun hc41 => ?_)
                   ·
                    have hc41p := beq_iff_eq.1 hc41
                    refine l_off (dj := 158) (b := true) rfl rfl rfl rfl rfl ?_
                    refine l_off (dj := 158) (b := true) rfl rfl rfl rfl rfl ?_
                    refine l_off (dj := 158) (b := true) rfl rfl rfl rfl rfl ?_
                    refine l_off (dj := 158) (b := true) rfl rfl rfl rfl rfl ?_
                    refine l_off (dj := 158) (b := true) rfl rfl rfl rfl rfl ?_
                    refine l_off (dj := 158) (b := true) rfl rfl rfl rfl rfl ?_
                    refine l_offu (dj := 164) rfl rfl rfl rfl ?_
                    refine l_offu (dj := 164) rfl rfl rfl rfl ?_
                    refine l_offu (dj := 164) rfl rfl rfl rfl ?_
                    refine l_offu (dj := 164) rfl rfl rfl rfl ?_
                    refine l_offu (dj := 164) rfl rfl rfl rfl ?_
                    refine l_off (dj := 158) (b := true) rfl rfl rfl rfl rfl ?_
                    refine l_on (dj := 131) rfl rfl rfl ?_
                    refine l_r (r_pick_t rfl rfl) rfl ?_
                    refine l_on (dj := 131) rfl rfl rfl ?_
                    refine l_r (r_move rfl) rfl ?_
                    refine l_off (dj := 172) (b := true) rfl rfl rfl rfl rfl ?_
                    refine l_off (dj := 172) (b := true) rfl rfl rfl rfl rfl ?_
                    refine l_off (dj := 172) (b := true) rfl rfl rfl rfl rfl ?_
                    refine l_off (dj := 172) (b := true) rfl rfl rfl rfl rfl ?_
                    refine l_off (dj := 172) (b := true) rfl rfl rfl rfl rfl ?_
                    refine l_off (dj := 172) (b := true) rfl rfl rfl rfl rfl ?_
                    refine l_offu (dj := 178) rfl rfl rfl rfl ?_
                    refine l_offu (dj := 178) rfl rfl rfl rfl ?_
                    refine l_offu (dj := 178) rfl rfl rfl rfl ?_
                    refine l_offu (dj := 178) rfl rfl rfl rfl ?_
                    refine l_offu (dj := 178) rfl rfl rfl rfl ?_
                    refine l_off (dj := 172) (b := true) rfl rfl rfl rfl rfl ?_
                    refine l_on (dj := 131) rfl rfl rfl ?_
                    refine l_r (r_pick_t rfl rfl) rfl ?_
                    refine l_r (r_pick_t rfl rfl) rfl ?_
                    refine l_nil ?_
                    refine s_then rfl ?_
                    refine s_seq ?_
                    refine s_region ?_
                    refine l_r (r_assign rfl) rfl ?_
                    refine l_nil ?_
                    refine s_ret ?_
                    exact q_done (.inr rfl) (.tmp rfl .nil) ⟨rfl, hs36.toExt⟩
                   ·
                    have hc41p := beq_eq_false_iff_ne.1 hc41
                    refine l_on (dj := 158) rfl rfl rfl ?_
                    refine l_r (r_field rfl fo32_3) rfl ?_
                    refine l_on (dj := 158) rfl rfl rfl ?_
                    refine l_r (r_load1p rfl hs36 (Repl.there Repl.here) ag3 rfl) rfl ?_
                    refine l_on (dj := 158) rfl rfl rfl ?_
                    refine l_r (r_field rfl fo32_1) rfl ?_
                    refine l_on (dj := 158) rfl rfl rfl ?_
                    refine l_r (r_load1p rfl hs36 Repl.here ag3 rfl) rfl ?_
                    refine l_on (dj := 158) rfl rfl rfl ?_
                    refine l_r (r_cmp rfl rfl rfl) rfl ?_
                    refine l_on (dj := 158) rfl rfl rfl ?_
                    refine l_r (r_move rfl) rfl ?_
                    refine l_part (dj := 164) rfl (fun hc42 => ?_) (fun hc42 => ?_)
                    ·
                     have hc42p := beq_iff_eq.1 hc42
                     refine l_on (dj := 164) rfl rfl rfl ?_
                     refine l_r (r_field rfl fo32_4) rfl ?_
                     refine l_on (dj := 164) rfl rfl rfl ?_
                     refine l_r (r_load1p rfl hs36 (Repl.there Repl.here) ag3 rfl) rfl ?_
                     refine l_on (dj := 164) rfl rfl rfl ?_
                     refine l_r (r_field rfl fo32_2) rfl ?_
                     refine l_on (dj := 164) rfl rfl rfl ?_
                     refine l_r (r_load1p rfl hs36 Repl.here ag3 rfl) rfl ?_
                     refine l_on (dj := 164) rfl rfl rfl ?_
                     refine l_r (r_cmp rfl rfl rfl) rfl ?_
                     refine l_on (dj := 158) rfl rfl rfl ?_
                     refine l_r (r_pick_t rfl rfl) rfl ?_
                     refine l_on (dj := 131) rfl rfl rfl ?_
                     refine l_r (r_pick_f rfl rfl) rfl ?_
                     refine l_on (dj := 131) rfl rfl rfl ?_
                     refine l_r (r_move rfl) rfl ?_
                     refine l_part (dj := 172) rfl (fun hc43 => ?_) (fun hc43 => ?_)
                     ·
                      have hc43p := beq_iff_eq.1 hc43
                      refine l_off (dj := 172) (b := true) rfl rfl rfl rfl rfl ?_
                      refine l_off (dj := 172) (b := true) rfl rfl rfl rfl rfl ?_
                      refine l_off (dj := 172) (b := true) rfl rfl rfl rfl rfl ?_
                      refine l_off (dj := 172) (b := true) rfl rfl rfl rfl rfl ?_
                      refine l_off (dj := 172) (b := true) rfl rfl rfl rfl rfl ?_
                      refine l_off (dj := 172) (b := true) rfl rfl rfl rfl rfl ?_
                      refine l_offu (dj := 178) rfl rfl rfl rfl ?_
                      refine l_offu (dj := 178) rfl rfl rfl rfl ?_
                      refine l_offu (dj := 178) rfl rfl rfl rfl ?_
                      refine l_offu (dj := 178) rfl rfl rfl rfl ?_
                      refine l_offu (dj := 178) rfl rfl rfl rfl ?_
                      refine l_off (dj := 172) (b := true) rfl rfl rfl rfl rfl ?_
                      refine l_on (dj := 131) rfl rfl rfl ?_
                      refine l_r (r_pick_t rfl rfl) rfl ?_
                      refine l_r (r_pick_t rfl rfl) rfl ?_
                      refine l_nil ?_
                      refine s_then rfl ?_
                      refine s_seq ?_
                      refine s_region ?_
                      refine l_r (r_assign rfl) rfl ?_
                      refine l_nil ?_
                      refine s_ret ?_
                      exact q_done (.inr rfl) (.tmp rfl .nil) ⟨rfl, hs36.toExt⟩
                     ·
                      have hc43p := beq_eq_false_iff_ne.1 hc43
                      refine l_on (dj := 172) rfl rfl rfl ?_
                      refine l_r (r_field rfl fo32_3) rfl ?_
                      refine l_on (dj := 172) rfl rfl rfl ?_
                      refine l_r (r_load1p rfl hs36 (Repl.there Repl.here) ag3 rfl) rfl ?_
                      refine l_on (dj := 172) rfl rfl rfl ?_
                      refine l_r (r_field rfl fo32_3) rfl ?_
                      refine l_on (dj := 172) rfl rfl rfl ?_
                      refine l_r (r_load1p rfl hs36 Repl.here ag3 rfl) rfl ?_
                      refine l_on (dj := 172) rfl rfl rfl ?_
                      refine l_r (r_cmp rfl rfl rfl) rfl ?_
                      refine l_on (dj := 172) rfl rfl rfl ?_
                      refine l_r (r_move rfl) rfl ?_
                      refine l_part (dj := 178) rfl (fun hc44 => ?_) (fun hc44 => ?_)
                      ·
                       have hc44p := beq_iff_eq.1 hc44
                       refine l_on (dj := 178) rfl rfl rfl ?_
                       refine l_r (r_field rfl fo32_4) rfl ?_
                       refine l_on (dj := 178) rfl rfl rfl ?_
                       refine l_r (r_load1p rfl hs36 (Repl.there Repl.here) ag3 rfl) rfl ?_
                       refine l_on (dj := 178) rfl rfl rfl ?_
                       refine l_r (r_field rfl fo32_4) rfl ?_
                       refine l_on (dj := 178) rfl rfl rfl ?_
                       refine l_r (r_load1p rfl hs36 Repl.here ag3 rfl) rfl ?_
                       refine l_on (dj := 178) rfl rfl rfl ?_
                       refine l_r (r_cmp rfl rfl rfl) rfl ?_
                       refine l_on (dj := 172) rfl rfl rfl ?_
                       refine l_r (r_pick_t rfl rfl) rfl ?_
                       refine l_on (dj := 131) rfl rfl rfl ?_
                       refine l_r (r_pick_f rfl rfl) rfl ?_
                       refine l_r (r_pick_t rfl rfl) rfl ?_
                       refine l_nil ?_
                       refine s_part (dj := 186) rfl (fun hc45 => ?_) (fun hc45 => ?_)
                       ·
                        have hc45p := beq_iff_eq.1 hc45
                        refine s_then rfl ?_
                        refine s_seq ?_
                        refine s_region ?_
                        refine l_r (r_assign rfl) rfl ?_
                        refine l_nil ?_
                        refine s_ret ?_
                        exact q_done (.inr rfl) (.tmp rfl .nil) ⟨rfl, hs36.toExt⟩
                       ·
                        have hc45p := beq_eq_false_iff_ne.1 hc45
                        refine s_else rfl ?_
                        refine s_skip ?_
                        refine s_mark ?_
                        refine s_region ?_
                        refine l_r (r_move rfl) rfl ?_
                        refine l_r (r_inc rfl (by omega)) rfl ?_
                        refine l_r (r_assign rfl) rfl ?_
                        refine l_nil ?_
                        refine s_again ?_
                        exact ⟨_, [(9, .int .i64 (((k1 + 1) : Nat) : Int)), (1, .slice A ps.length c), (2, .pointer (some ⟨b2, 0, none⟩)), (7, .int .i64 (((k : Nat) : Int))), (8, .pointer (some ⟨b8, 0, none⟩))], by omega, (.cons rfl (.cons rfl (.cons rfl (.cons rfl (.cons rfl .nil))))), ⟨(k1 + 1), rfl, rfl, by omega, (fun j y hj hy => by
                              by_cases e : j = k1
                              · subst e; rw [e34h] at hy; injection hy with hy; subst hy; exact (fun h => by obtain ⟨hq, h⟩ := h; first | exact absurd hq (by assumption) | omega)
                              · exact hD j y (by omega) hy), hs36.tail⟩⟩
                      ·
                       have hc44p := beq_eq_false_iff_ne.1 hc44
                       refine l_off (dj := 178) (b := false) rfl rfl rfl rfl rfl ?_
                       refine l_off (dj := 178) (b := false) rfl rfl rfl rfl rfl ?_
                       refine l_off (dj := 178) (b := false) rfl rfl rfl rfl rfl ?_
                       refine l_off (dj := 178) (b := false) rfl rfl rfl rfl rfl ?_
                       refine l_off (dj := 178) (b := false) rfl rfl rfl rfl rfl ?_
                       refine l_on (dj := 172) rfl rfl rfl ?_
                       refine l_r (r_pick_f rfl rfl) rfl ?_
                       refine l_on (dj := 131) rfl rfl rfl ?_
                       refine l_r (r_pick_f rfl rfl) rfl ?_
                       refine l_r (r_pick_t rfl rfl) rfl ?_
                       refine l_nil ?_
                       refine s_else rfl ?_
                       refine s_skip ?_
                       refine s_mark ?_
                       refine s_region ?_
                       refine l_r (r_move rfl) rfl ?_
                       refine l_r (r_inc rfl (by omega)) rfl ?_
                       refine l_r (r_assign rfl) rfl ?_
                       refine l_nil ?_
                       refine s_again ?_
                       exact ⟨_, [(9, .int .i64 (((k1 + 1) : Nat) : Int)), (1, .slice A ps.length c), (2, .pointer (some ⟨b2, 0, none⟩)), (7, .int .i64 (((k : Nat) : Int))), (8, .pointer (some ⟨b8, 0, none⟩))], by omega, (.cons rfl (.cons rfl (.cons rfl (.cons rfl (.cons rfl .nil))))), ⟨(k1 + 1), rfl, rfl, by omega, (fun j y hj hy => by
                             by_cases e : j = k1
                             · subst e; rw [e34h] at hy; injection hy with hy; subst hy; exact (fun h => by obtain ⟨hq, h⟩ := h; first | exact absurd hq (by assumption) | omega)
                             · exact hD j y (by omega) hy), hs36.tail⟩⟩
                    ·
                     have hc42p := beq_eq_false_iff_ne.1 hc42
                     refine l_off (dj := 164) (b := false) rfl rfl rfl rfl rfl ?_
                     refine l_off (dj := 164) (b := false) rfl rfl rfl rfl rfl ?_
                     refine l_off (dj := 164) (b := false) rfl rfl rfl rfl rfl ?_
                     refine l_off (dj := 164) (b := false) rfl rfl rfl rfl rfl ?_
                     refine l_off (dj := 164) (b := false) rfl rfl rfl rfl rfl ?_
                     refine l_on (dj := 158) rfl rfl rfl ?_
                     refine l_r (r_pick_f rfl rfl) rfl ?_
                     refine l_on (dj := 131) rfl rfl rfl ?_
                     refine l_r (r_pick_f rfl rfl) rfl ?_
                     refine l_on (dj := 131) rfl rfl rfl ?_
                     refine l_r (r_move rfl) rfl ?_
                     refine l_on (dj := 172) rfl rfl rfl ?_
                     refine l_r (r_field rfl fo32_3) rfl ?_
                     refine l_on (dj := 172) rfl rfl rfl ?_
                     refine l_r (r_load1p rfl hs36 (Repl.there Repl.here) ag3 rfl) rfl ?_
                     refine l_on (dj := 172) rfl rfl rfl ?_
                     refine l_r (r_field rfl fo32_3) rfl ?_
                     refine l_on (dj := 172) rfl rfl rfl ?_
                     refine l_r (r_load1p rfl hs36 Repl.here ag3 rfl) rfl ?_
                     refine l_on (dj := 172) rfl rfl rfl ?_
                     refine l_r (r_cmp rfl rfl rfl) rfl ?_
                     refine l_on (dj := 172) rfl rfl rfl ?_
                     refine l_r (r_move rfl) rfl ?_
                     refine l_part (dj := 178) rfl (fun hc46 => ?_) (fun hc46 => ?_)
                     ·
                      have hc46p := beq_iff_eq.1 hc46
                      refine l_on (dj := 178) rfl rfl rfl ?_
                      refine l_r (r_field rfl fo32_4) rfl ?_
                      refine l_on (dj := 178) rfl rfl rfl ?_
                      refine l_r (r_load1p rfl hs36 (Repl.there Repl.here) ag3 rfl) rfl ?_
                      refine l_on (dj := 178) rfl rfl rfl ?_
                      refine l_r (r_field rfl fo32_4) rfl ?_
                      refine l_on (dj := 178) rfl rfl rfl ?_
                      refine l_r (r_load1p rfl hs36 Repl.here ag3 rfl) rfl ?_
                      refine l_on (dj := 178) rfl rfl rfl ?_
                      refine l_r (r_cmp rfl rfl rfl) rfl ?_
                      refine l_on (dj := 172) rfl rfl rfl ?_
                      refine l_r (r_pick_t rfl rfl) rfl ?_
                      refine l_on (dj := 131) rfl rfl rfl ?_
                      refine l_r (r_pick_f rfl rfl) rfl ?_
                      refine l_r (r_pick_t rfl rfl) rfl ?_
                      refine l_nil ?_
                      refine s_part (dj := 186) rfl (fun hc47 => ?_) (fun hc47 => ?_)
                      ·
                       have hc47p := beq_iff_eq.1 hc47
                       refine s_then rfl ?_
                       refine s_seq ?_
                       refine s_region ?_
                       refine l_r (r_assign rfl) rfl ?_
                       refine l_nil ?_
                       refine s_ret ?_
                       exact q_done (.inr rfl) (.tmp rfl .nil) ⟨rfl, hs36.toExt⟩
                      ·
                       have hc47p := beq_eq_false_iff_ne.1 hc47
                       refine s_else rfl ?_
                       refine s_skip ?_
                       refine s_mark ?_
                       refine s_region ?_
                       refine l_r (r_move rfl) rfl ?_
                       refine l_r (r_inc rfl (by omega)) rfl ?_
                       refine l_r (r_assign rfl) rfl ?_
                       refine l_nil ?_
                       refine s_again ?_
                       exact ⟨_, [(9, .int .i64 (((k1 + 1) : Nat) : Int)), (1, .slice A ps.length c), (2, .pointer (some ⟨b2, 0, none⟩)), (7, .int .i64 (((k : Nat) : Int))), (8, .pointer (some ⟨b8, 0, none⟩))], by omega, (.cons rfl (.cons rfl (.cons rfl (.cons rfl (.cons rfl .nil))))), ⟨(k1 + 1), rfl, rfl, by omega, (fun j y hj hy => by
                             by_cases e : j = k1
                             · subst e; rw [e34h] at hy; injection hy with hy; subst hy; exact (fun h => by obtain ⟨hq, h⟩ := h; first | exact absurd hq (by assumption) | omega)
                             · exact hD j y (by omega) hy), hs36.tail⟩⟩
                     ·
                      have hc46p := beq_eq_false_iff_ne.1 hc46
                      refine l_off (dj := 178) (b := false) rfl rfl rfl rfl rfl ?_
                      refine l_off (dj := 178) (b := false) rfl rfl rfl rfl rfl ?_
                      refine l_off (dj := 178) (b := false) rfl rfl rfl rfl rfl ?_
                      refine l_off (dj := 178) (b := false) rfl rfl rfl rfl rfl ?_
                      refine l_off (dj := 178) (b := false) rfl rfl rfl rfl rfl ?_
                      refine l_on (dj := 172) rfl rfl rfl ?_
                      refine l_r (r_pick_f rfl rfl) rfl ?_
                      refine l_on (dj := 131) rfl rfl rfl ?_
                      refine l_r (r_pick_f rfl rfl) rfl ?_
                      refine l_r (r_pick_t rfl rfl) rfl ?_
                      refine l_nil ?_
                      refine s_else rfl ?_
                      refine s_skip ?_
                      refine s_mark ?_
                      refine s_region ?_
                      refine l_r (r_move rfl) rfl ?_
                      refine l_r (r_inc rfl (by omega)) rfl ?_
                      refine l_r (r_assign rfl) rfl ?_
                      refine l_nil ?_
                      refine s_again ?_
                      exact ⟨_, [(9, .int .i64 (((k1 + 1) : Nat) : Int)), (1, .slice A ps.length c), (2, .pointer (some ⟨b2, 0, none⟩)), (7, .int .i64 (((k : Nat) : Int))), (8, .pointer (some ⟨b8, 0, none⟩))], by omega, (.cons rfl (.cons rfl (.cons rfl (.cons rfl (.cons rfl .nil))))), ⟨(k1 + 1), rfl, rfl, by omega, (fun j y hj hy => by
                            by_cases e : j = k1
                            · subst e; rw [e34h] at hy; injection hy with hy; subst hy; exact (fun h => by obtain ⟨hq, h⟩ := h; first | exact absurd hq (by assumption) | omega)
                            · exact hD j y (by omega) hy), hs36.tail⟩⟩
                  ·
                   have hc40p := beq_eq_false_iff_ne.1 hc40
                   refine l_off (dj := 150) (b := false) rfl rfl rfl rfl rfl ?_
                   refine l_off (dj := 150) (b := false) rfl rfl rfl rfl rfl ?_
                   refine l_off (dj := 150) (b := false) rfl rfl rfl rfl rfl ?_
                   refine l_off (dj := 150) (b := false) rfl rfl rfl rfl rfl ?_
                   refine l_off (dj := 150) (b := false) rfl rfl rfl rfl rfl ?_
                   refine l_on (dj := 144) rfl rfl rfl ?_
                   refine l_r (r_pick_f rfl rfl) rfl ?_
                   refine l_on (dj := 131) rfl rfl rfl ?_
                   refine l_r (r_pick_f rfl rfl) rfl ?_
                   refine l_on (dj := 131) rfl rfl rfl ?_
                   refine l_r (r_move rfl) rfl ?_
                   refine l_on (dj := 158) rfl rfl rfl ?_
                   refine l_r (r_field rfl fo32_3) rfl ?_
                   refine l_on (dj := 158) rfl rfl rfl ?_
                   refine l_r (r_load1p rfl hs36 (Repl.there Repl.here) ag3 rfl) rfl ?_
                   refine l_on (dj := 158) rfl rfl rfl ?_
                   refine l_r (r_field rfl fo32_1) rfl ?_
                   refine l_on (dj := 158) rfl rfl rfl ?_
                   refine l_r (r_load1p rfl hs36 Repl.here ag3 rfl) rfl ?_
                   refine l_on (dj := 158) rfl rfl rfl ?_
                   refine l_r (r_cmp rfl rfl rfl) rfl ?_
                   refine l_on (dj := 158) rfl rfl rfl ?_
                   refine l_r (r_move rfl) rfl ?_
                   refine l_part (dj := 164) rfl (fun hc48 => ?_) (fun hc48 => ?_)
                   ·
                    have hc48p := beq_iff_eq.1 hc48
                    refine l_on (dj := 164) rfl rfl rfl ?_
                    refine l_r (r_field rfl fo32_4) rfl ?_
                    refine l_on (dj := 164) rfl rfl rfl ?_
                    refine l_r (r_load1p rfl hs36 (Repl.there Repl.here) ag3 rfl) rfl ?_
                    refine l_on (dj := 164) rfl rfl rfl ?_
                    refine l_r (r_field rfl fo32_2) rfl ?_
                    refine l_on (dj := 164) rfl rfl rfl ?_
                    refine l_r (r_load1p rfl hs36 Repl.here ag3 rfl) rfl ?_
                    refine l_on (dj := 164) rfl rfl rfl ?_
                    refine l_r (r_cmp rfl rfl rfl) rfl ?_
                    refine l_on (dj := 158) rfl rfl rfl ?_
                    refine l_r (r_pick_t rfl rfl) rfl ?_
                    refine l_on (dj := 131) rfl rfl rfl ?_
                    refine l_r (r_pick_f rfl rfl) rfl ?_
                    refine l_on (dj := 131) rfl rfl rfl ?_
                    refine l_r (r_move rfl) rfl ?_
                    refine l_part (dj := 172) rfl (fun hc49 => ?_) (fun hc49 => ?_)
                    ·
                     have hc49p := beq_iff_eq.1 hc49
                     refine l_off (dj := 172) (b := true) rfl rfl rfl rfl rfl ?_
                     refine l_off (dj := 172) (b := true) rfl rfl rfl rfl rfl ?_
                     refine l_off (dj := 172) (b := true) rfl rfl rfl rfl rfl ?_
                     refine l_off (dj := 172) (b := true) rfl rfl rfl rfl rfl ?_
                     refine l_off (dj := 172) (b := true) rfl rfl rfl rfl rfl ?_
                     refine l_off (dj := 172) (b := true) rfl rfl rfl rfl rfl ?_
                     refine l_offu (dj := 178) rfl rfl rfl rfl ?_
                     refine l_offu (dj := 178) rfl rfl rfl rfl ?_
                     refine l_offu (dj := 178) rfl rfl rfl rfl ?_
                     refine l_offu (dj := 178) rfl rfl rfl rfl ?_
                     refine l_offu (dj := 178) rfl rfl rfl rfl ?_
                     refine l_off (dj := 172) (b := true) rfl rfl rfl rfl rfl ?_
                     refine l_on (dj := 131) rfl rfl rfl ?_
                     refine l_r (r_pick_t rfl rfl) rfl ?_
                     refine l_r (r_pick_t rfl rfl) rfl ?_
                     refine l_nil ?_
                     refine s_then rfl ?_
                     refine s_seq ?_
                     refine s_region ?_
                     refine l_r (r_assign rfl) rfl ?_
                     refine l_nil ?_
                     refine s_ret ?_
                     exact q_done (.inr rfl) (.tmp rfl .nil) ⟨rfl, hs36.toExt⟩
                    ·
                     have hc49p := beq_eq_false_iff_ne.1 hc49
                     refine l_on (dj := 172) rfl rfl rfl ?_
                     refine l_r (r_field rfl fo32_3) rfl ?_
                     refine l_on (dj := 172) rfl rfl rfl ?_
                     refine l_r (r_load1p rfl hs36 (Repl.there Repl.here) ag3 rfl) rfl ?_
                     refine l_on (dj := 172) rfl rfl rfl ?_
                     refine l_r (r_field rfl fo32_3) rfl ?_
                     refine l_on (dj := 172) rfl rfl rfl ?_
                     refine l_r (r_load1p rfl hs36 Repl.here ag3 rfl) rfl ?_
                     refine l_on (dj := 172) rfl rfl rfl ?_
                     refine l_r (r_cmp rfl rfl rfl) rfl ?_
                     refine l_on (dj := 172) rfl rfl rfl ?_
                     refine l_r (r_move rfl) rfl ?_
                     refine l_part (dj := 178) rfl (fun hc50 => ?_) (fun hc50 => ?_)
                     ·
                      have hc50p := beq_iff_eq.1 hc50
                      refine l_on (dj := 178) rfl rfl rfl ?_
                      refine l_r (r_field rfl fo32_4) rfl ?_
                      refine l_on (dj := 178) rfl rfl rfl ?_
                      refine l_r (r_load1p rfl hs36 (Repl.there Repl.here) ag3 rfl) rfl ?_
                      refine l_on (dj := 178) rfl rfl rfl ?_
                      refine l_r (r_field rfl fo32_4) rfl ?_
                      refine l_on (dj := 178) rfl rfl rfl ?_
                      refine l_r (r_load1p rfl hs36 Repl.here ag3 rfl) rfl ?_
                      refine l_on (dj := 178) rfl rfl rfl ?_
                      refine l_r (r_cmp rfl rfl rfl) rfl ?_
                      refine l_on (dj := 172) rfl rfl rfl ?_
                      refine l_r (r_pick_t rfl rfl) rfl ?_
                      refine l_on (dj := 131) rfl rfl rfl ?_
                      refine l_r (r_pick_f rfl rfl) rfl ?_
                      refine l_r (r_pick_t rfl rfl) rfl ?_
                      refine l_nil ?_
                      refine s_part (dj := 186) rfl (fun hc51 => ?_) (fun hc51 => ?_)
                      ·
                       have hc51p := beq_iff_eq.1 hc51
                       refine s_then rfl ?_
                       refine s_seq ?_
                       refine s_region ?_
                       refine l_r (r_assign rfl) rfl ?_
                       refine l_nil ?_
                       refine s_ret ?_
                       exact q_done (.inr rfl) (.tmp rfl .nil) ⟨rfl, hs36.toExt⟩
                      ·
                       have hc51p := beq_eq_false_iff_ne.1 hc51
                       refine s_else rfl ?_
                       refine s_skip ?_
                       refine s_mark ?_
                       refine s_region ?_
                       refine l_r (r_move rfl) rfl ?_
                       refine l_r (r_inc rfl (by omega)) rfl ?_
                       refine l_r (r_assign rfl) rfl ?_
                       refine l_nil ?_
                       refine s_again ?_
                       exact ⟨_, [(9, .int .i64 (((k1 + 1) : Nat) : Int)), (1, .slice A ps.length c), (2, .pointer (some ⟨b2, 0, none⟩)), (7, .int .i64 (((k : Nat) : Int))), (8, .pointer (some ⟨b8, 0, none⟩))], by omega, (.cons rfl (.cons rfl (.cons rfl (.cons rfl (.cons rfl .nil))))), ⟨(k1 + 1), rfl, rfl, by omega, (fun j y hj hy => by
                             by_cases e : j = k1
                             · subst e; rw [e34h] at hy; injection hy with hy; subst hy; exact (fun h => by obtain ⟨hq, h⟩ := h; first | exact absurd hq (by assumption) | omega)
                             · exact hD j y (by omega) hy), hs36.tail⟩⟩
                     ·
                      have hc50p := beq_eq_false_iff_ne.1 hc50
                      refine l_off (dj := 178) (b := false) rfl rfl rfl rfl rfl ?_
                      refine l_off (dj := 178) (b := false) rfl rfl rfl rfl rfl ?_
                      refine l_off (dj := 178) (b := false) rfl rfl rfl rfl rfl ?_
                      refine l_off (dj := 178) (b := false) rfl rfl rfl rfl rfl ?_
                      refine l_off (dj := 178) (b := false) rfl rfl rfl rfl rfl ?_
                      refine l_on (dj := 172) rfl rfl rfl ?_
                      refine l_r (r_pick_f rfl rfl) rfl ?_
                      refine l_on (dj := 131) rfl rfl rfl ?_
                      refine l_r (r_pick_f rfl rfl) rfl ?_
                      refine l_r (r_pick_t rfl rfl) rfl ?_
                      refine l_nil ?_
                      refine s_else rfl ?_
                      refine s_skip ?_
                      refine s_mark ?_
                      refine s_region ?_
                      refine l_r (r_move rfl) rfl ?_
                      refine l_r (r_inc rfl (by omega)) rfl ?_
                      refine l_r (r_assign rfl) rfl ?_
                      refine l_nil ?_
                      refine s_again ?_
                      exact ⟨_, [(9, .int .i64 (((k1 + 1) : Nat) : Int)), (1, .slice A ps.length c), (2, .pointer (some ⟨b2, 0, none⟩)), (7, .int .i64 (((k : Nat) : Int))), (8, .pointer (some ⟨b8, 0, none⟩))], by omega, (.cons rfl (.cons rfl (.cons rfl (.cons rfl (.cons rfl .nil))))), ⟨(k1 + 1), rfl, rfl, by omega, (fun j y hj hy => by
                            by_cases e : j = k1
                            · subst e; rw [e34h] at hy; injection hy with hy; subst hy; exact (fun h => by obtain ⟨hq, h⟩ := h; first | exact absurd hq (by assumption) | omega)
                            · exact hD j y (by omega) hy), hs36.tail⟩⟩
                   ·
                    have hc48p := beq_eq_false_iff_ne.1 hc48
                    refine l_off (dj := 164) (b := false) rfl rfl rfl rfl rfl ?_
                    refine l_off (dj := 164) (b := false) rfl rfl rfl rfl rfl ?_
                    refine l_off (dj := 164) (b := false) rfl rfl rfl rfl rfl ?_
                    refine l_off (dj := 164) (b := false) rfl rfl rfl rfl rfl ?_
                    refine l_off (dj := 164) (b := false) rfl rfl rfl rfl rfl ?_
                    refine l_on (dj := 158) rfl rfl rfl ?_
                    refine l_r (r_pick_f rfl rfl) rfl ?_
                    refine l_on (dj := 131) rfl rfl rfl ?_
                    refine l_r (r_pick_f rfl rfl) rfl ?_
                    refine l_on (dj := 131) rfl rfl rfl ?_
                    refine l_r (r_move rfl) rfl ?_
                    refine l_on (dj := 172) rfl rfl rfl ?_
                    refine l_r (r_field rfl fo32_3) rfl ?_
                    refine l_on (dj := 172) rfl rfl rfl ?_
                    refine l_r (r_load1p rfl hs36 (Repl.there Repl.here) ag3 rfl) rfl ?_
                    refine l_on (dj := 172) rfl rfl rfl ?_
                    refine l_r (r_field rfl fo32_3) rfl ?_
                    refine l_on (dj := 172) rfl rfl rfl ?_
                    refine l_r (r_load1p rfl hs36 Repl.here ag3 rfl) rfl ?_
                    refine l_on (dj := 172) rfl rfl rfl ?_
                    refine l_r (r_cmp rfl rfl rfl) rfl ?_
                    refine l_on (dj := 172) rfl rfl rfl ?_
                    refine l_r (r_move rfl) rfl ?_
                    refine l_part (dj := 178) rfl (fun hc52 => ?_) (fun hc52 => ?_)
                    ·
                     have hc52p := beq_iff_eq.1 hc52
                     refine l_on (dj := 178) rfl rfl rfl ?_
                     refine l_r (r_field rfl fo32_4) rfl ?_
                     refine l_on (dj := 178) rfl rfl rfl ?_
                     refine l_r (r_load1p rfl hs36 (Repl.there Repl.here) ag3 rfl) rfl ?_
                     refine l_on (dj := 178) rfl rfl rfl ?_
                     refine l_r (r_field rfl fo32_4) rfl ?_
                     refine l_on (dj := 178) rfl rfl rfl ?_
                     refine l_r (r_load1p rfl hs36 Repl.here ag3 rfl) rfl ?_
                     refine l_on (dj := 178) rfl rfl rfl ?_
                     refine l_r (r_cmp rfl rfl rfl) rfl ?_
                     refine l_on (dj := 172) rfl rfl rfl ?_
                     refine l_r (r_pick_t rfl rfl) rfl ?_
                     refine l_on (dj := 131) rfl rfl rfl ?_
                     refine l_r (r_pick_f rfl rfl) rfl ?_
                     refine l_r (r_pick_t rfl rfl) rfl ?_
                     refine l_nil ?_
                     refine s_part (dj := 186) rfl (fun hc53 => ?_) (fun hc53 => ?_)
                     ·
                      have hc53p := beq_iff_eq.1 hc53
                      refine s_then rfl ?_
                      refine s_seq ?_
                      refine s_region ?_
                      refine l_r (r_assign rfl) rfl ?_
                      refine l_nil ?_
                      refine s_ret ?_
                      exact q_done (.inr rfl) (.tmp rfl .nil) ⟨rfl, hs36.toExt⟩
                     ·
                      have hc53p := beq_eq_false_iff_ne.1 hc53
                      refine s_else rfl ?_
                      refine s_skip ?_
                      refine s_mark ?_
                      refine s_region ?_
                      refine l_r (r_move rfl) rfl ?_
                      refine l_r (r_inc rfl (by omega)) rfl ?_
                      refine l_r (r_assign rfl) rfl ?_
                      refine l_nil ?_
                      refine s_again ?_
                      exact ⟨_, [(9, .int .i64 (((k1 + 1) : Nat) : Int)), (1, .slice A ps.length c), (2, .pointer (some ⟨b2, 0, none⟩)), (7, .int .i64 (((k : Nat) : Int))), (8, .pointer (some ⟨b8, 0, none⟩))], by omega, (.cons rfl (.cons rfl (.cons rfl (.cons rfl (.cons rfl .nil))))), ⟨(k1 + 1), rfl, rfl, by omega, (fun j y hj hy => by
                            by_cases e : j = k1
                            · subst e; rw [e34h] at hy; injection hy with hy; subst hy; exact (fun h => by obtain ⟨hq, h⟩ := h; first | exact absurd hq (by assumption) | omega)
                            · exact hD j y (by omega) hy), hs36.tail⟩⟩
                    ·
                     have hc52p := beq_eq_false_iff_ne.1 hc52
                     refine l_off (dj := 178) (b := false) rfl rfl rfl rfl rfl ?_
                     refine l_off (dj := 178) (b := false) rfl rfl rfl rfl rfl ?_
                     refine l_off (dj := 178) (b := false) rfl rfl rfl rfl rfl ?_
                     refine l_off (dj := 178) (b := false) rfl rfl rfl rfl rfl ?_
                     refine l_off (dj := 178) (b := false) rfl rfl rfl rfl rfl ?_
                     refine l_on (dj := 172) rfl rfl rfl ?_
                     refine l_r (r_pick_f rfl rfl) rfl ?_
                     refine l_on (dj := 131) rfl rfl rfl ?_
                     refine l_r (r_pick_f rfl rfl) rfl ?_
                     refine l_r (r_pick_t rfl rfl) rfl ?_
                     refine l_nil ?_
                     refine s_else rfl ?_
                     refine s_skip ?_
                     refine s_mark ?_
                     refine s_region ?_
                     refine l_r (r_move rfl) rfl ?_
                     refine l_r (r_inc rfl (by omega)) rfl ?_
                     refine l_r (r_assign rfl) rfl ?_
                     refine l_nil ?_
                     refine s_again ?_
                     exact ⟨_, [(9, .int .i64 (((k1 + 1) : Nat) : Int)), (1, .slice A ps.length c), (2, .pointer (some ⟨b2, 0, none⟩)), (7, .int .i64 (((k : Nat) : Int))), (8, .pointer (some ⟨b8, 0, none⟩))], by omega, (.cons rfl (.cons rfl (.cons rfl (.cons rfl (.cons rfl .nil))))), ⟨(k1 + 1), rfl, rfl, by omega, (fun j y hj hy => by
                           by_cases e : j = k1
                           · subst e; rw [e34h] at hy; injection hy with hy; subst hy; exact (fun h => by obtain ⟨hq, h⟩ := h; first | exact absurd hq (by assumption) | omega)
                           · exact hD j y (by omega) hy), hs36.tail⟩⟩
                ·
                 have hc38p := beq_eq_false_iff_ne.1 hc38
                 refine l_off (dj := 137) (b := false) rfl rfl rfl rfl rfl ?_
                 refine l_off (dj := 137) (b := false) rfl rfl rfl rfl rfl ?_
                 refine l_off (dj := 137) (b := false) rfl rfl rfl rfl rfl ?_
                 refine l_off (dj := 137) (b := false) rfl rfl rfl rfl rfl ?_
                 refine l_off (dj := 137) (b := false) rfl rfl rfl rfl rfl ?_
                 refine l_on (dj := 131) rfl rfl rfl ?_
                 refine l_r (r_pick_f rfl rfl) rfl ?_
                 refine l_on (dj := 131) rfl rfl rfl ?_
                 refine l_r (r_move rfl) rfl ?_
                 refine l_on (dj := 144) rfl rfl rfl ?_
                 refine l_r (r_field rfl fo32_1) rfl ?_
                 refine l_on (dj := 144) rfl rfl rfl ?_
                 refine l_r (r_load1p rfl hs36 (Repl.there Repl.here) ag3 rfl) rfl ?_
                 refine l_on (dj := 144) rfl rfl rfl ?_
                 refine l_r (r_field rfl fo32_3) rfl ?_
                 refine l_on (dj := 144) rfl rfl rfl ?_
                 refine l_r (r_load1p rfl hs36 Repl.here ag3 rfl) rfl ?_
                 refine l_on (dj := 144) rfl rfl rfl ?_
                 refine l_r (r_cmp rfl rfl rfl) rfl ?_
                 refine l_on (dj := 144) rfl rfl rfl ?_
                 refine l_r (r_move rfl) rfl ?_
                 refine l_part (dj := 150) rfl (fun hc54 => ?_) (fun hc54 => ?_)
                 ·
                  have hc54p := beq_iff_eq.1 hc54
                  refine l_on (dj := 150) rfl rfl rfl ?_
                  refine l_r (r_field rfl fo32_2) rfl ?_
                  refine l_on (dj := 150) rfl rfl rfl ?_
                  refine l_r (r_load1p rfl hs36 (Repl.there Repl.here) ag3 rfl) rfl ?_
                  refine l_on (dj := 150) rfl rfl rfl ?_
                  refine l_r (r_field rfl fo32_4) rfl ?_
                  refine l_on (dj := 150) rfl rfl rfl ?_
                  refine l_r (r_load1p rfl hs36 Repl.here ag3 rfl) rfl ?_
                  refine l_on (dj := 150) rfl rfl rfl ?_
                  refine l_r (r_cmp rfl rfl rfl) rfl ?_
                  refine l_on (dj := 144) rfl rfl rfl ?_
                  refine l_r (r_pick_t rfl rfl) rfl ?_
                  refine l_on (dj := 131) rfl rfl rfl ?_
                  refine l_r (r_pick_f rfl rfl) rfl ?_
                  refine l_on (dj := 131) rfl rfl rfl ?_
                  refine l_r (r_move rfl) rfl ?_
                  refine l_part (dj := 158) rfl (fun hc55 => ?_) (fun hc55 => ?_)
                  ·
                   have hc55p := beq_iff_eq.1 hc55
                   refine l_off (dj := 158) (b := true) rfl rfl rfl rfl rfl ?_
                   refine l_off (dj := 158) (b := true) rfl rfl rfl rfl rfl ?_
                   refine l_off (dj := 158) (b := true) rfl rfl rfl rfl rfl ?_
                   refine l_off (dj := 158) (b := true) rfl rfl rfl rfl rfl ?_
                   refine l_off (dj := 158) (b := true) rfl rfl rfl rfl rfl ?_
                   refine l_off (dj := 158) (b := true) rfl rfl rfl rfl rfl ?_
                   refine l_offu (dj := 164) rfl rfl rfl rfl ?_
                   refine l_offu (dj := 164) rfl rfl rfl rfl ?_
                   refine l_offu (dj := 164) rfl rfl rfl rfl ?_
                   refine l_offu (dj := 164) rfl rfl rfl rfl ?_
                   refine l_offu (dj := 164) rfl rfl rfl rfl ?_
                   refine l_off (dj := 158) (b := true) rfl rfl rfl rfl rfl ?_
                   refine l_on (dj := 131) rfl rfl rfl ?_
                   refine l_r (r_pick_t rfl rfl) rfl ?_
                   refine l_on (dj := 131) rfl rfl rfl ?_
                   refine l_r (r_move rfl) rfl ?_
                   refine l_off (dj := 172) (b := true) rfl rfl rfl rfl rfl ?_
                   refine l_off (dj := 172) (b := true) rfl rfl rfl rfl rfl ?_
                   refine l_off (dj := 172) (b := true) rfl rfl rfl rfl rfl ?_
                   refine l_off (dj := 172) (b := true) rfl rfl rfl rfl rfl ?_
                   refine l_off (dj := 172) (b := true) rfl rfl rfl rfl rfl ?_
                   refine l_off (dj := 172) (b := true) rfl rfl rfl rfl rfl ?_
                   refine l_offu (dj := 178) rfl rfl rfl rfl ?_
                   refine l_offu (dj := 178) rfl rfl rfl rfl ?_
                   refine l_offu (dj := 178) rfl rfl rfl rfl ?_
                   refine l_offu (dj := 178) rfl rfl rfl rfl ?_
                   refine l_offu (dj := 178) rfl rfl rfl rfl ?_
                   refine l_off (dj := 172) (b := true) rfl rfl rfl rfl rfl ?_
                   refine l_on (dj := 131) rfl rfl rfl ?_
                   refine l_r (r_pick_t rfl rfl) rfl ?_
                   refine l_r (r_pick_t rfl rfl) rfl ?_
                   refine l_nil ?_
                   refine s_then rfl ?_
                   refine s_seq ?_
                   refine s_region ?_
                   refine l_r (r_assign rfl) rfl ?_
                   refine l_nil ?_
                   refine s_ret ?_
                   exact q_done (.inr rfl) (.tmp rfl .nil) ⟨rfl, hs36.toExt⟩
                  ·
                   have hc55p := beq_eq_false_iff_ne.1 hc55
                   refine l_on (dj := 158) rfl rfl rfl ?_
                   refine l_r (r_field rfl fo32_3) rfl ?_
                   refine l_on (dj := 158) rfl rfl rfl ?_
                   refine l_r (r_load1p rfl hs36 (Repl.there Repl.here) ag3 rfl) rfl ?_
                   refine l_on (dj := 158) rfl rfl rfl ?_
                   refine l_r (r_field rfl fo32_1) rfl ?_
                   refine l_on (dj := 158) rfl rfl rfl ?_
                   refine l_r (r_load1p rfl hs36 Repl.here ag3 rfl) rfl ?_
                   refine l_on (dj := 158) rfl rfl rfl ?_
                   refine l_r (r_cmp rfl rfl rfl) rfl ?_
                   refine l_on (dj := 158) rfl rfl rfl ?_
                   refine l_r (r_move rfl) rfl ?_
                   refine l_part (dj := 164) rfl (fun hc56 => ?_) (fun hc56 => ?_)
                   ·
                    have hc56p := beq_iff_eq.1 hc56
                    refine l_on (dj := 164) rfl rfl rfl ?_
                    refine l_r (r_field rfl fo32_4) rfl ?_
                    refine l_on (dj := 164) rfl rfl rfl ?_
                    refine l_r (r_load1p rfl hs36 (Repl.there Repl.here) ag3 rfl) rfl ?_
                    refine l_on (dj := 164) rfl rfl rfl ?_
                    refine l_r (r_field rfl fo32_2) rfl ?_
                    refine l_on (dj := 164) rfl rfl rfl ?_
                    refine l_r (r_load1p rfl hs36 Repl.here ag3 rfl) rfl ?_
                    refine l_on (dj := 164) rfl rfl rfl ?_
                    refine l_r (r_cmp rfl rfl rfl) rfl ?_
                    refine l_on (dj := 158) rfl rfl rfl ?_
                    refine l_r (r_pick_t rfl rfl) rfl ?_
                    refine l_on (dj := 131) rfl rfl rfl ?_
                    refine l_r (r_pick_f rfl rfl) rfl ?_
                    refine l_on (dj := 131) rfl rfl rfl ?_
                    refine l_r (r_move rfl) rfl ?_
                    refine l_part (dj := 172) rfl (fun hc57 => ?_) (fun hc57 => ?_)
                    ·
                     have hc57p := beq_iff_eq.1 hc57
                     refine l_off (dj := 172) (b := true) rfl rfl rfl rfl rfl ?_
                     refine l_off (dj := 172) (b := true) rfl rfl rfl rfl rfl ?_
                     refine l_off (dj := 172) (b := true) rfl rfl rfl rfl rfl ?_
                     refine l_off (dj := 172) (b := true) rfl rfl rfl rfl rfl ?_
                     refine l_off (dj := 172) (b := true) rfl rfl rfl rfl rfl ?_
                     refine l_off (dj := 172) (b := true) rfl rfl rfl rfl rfl ?_
                     refine l_offu (dj := 178) rfl rfl rfl rfl ?_
                     refine l_offu (dj := 178) rfl rfl rfl rfl ?_
                     refine l_offu (dj := 178) rfl rfl rfl rfl ?_
                     refine l_offu (dj := 178) rfl rfl rfl rfl ?_
                     refine l_offu (dj := 178) rfl rfl rfl rfl ?_
                     refine l_off (dj := 172) (b := true) rfl rfl rfl rfl rfl ?_
                     refine l_on (dj := 131) rfl rfl rfl ?_
                     refine l_r (r_pick_t rfl rfl) rfl ?_
                     refine l_r (r_pick_t rfl rfl) rfl ?_
                     refine l_nil ?_
                     refine s_then rfl ?_
                     refine s_seq ?_
                     refine s_region ?_
                     refine l_r (r_assign rfl) rfl ?_
                     refine l_nil ?_
                     refine s_ret ?_
                     exact q_done (.inr rfl) (.tmp rfl .nil) ⟨rfl, hs36.toExt⟩
                    ·
                     have hc57p := beq_eq_false_iff_ne.1 hc57
                     refine l_on (dj := 172) rfl rfl rfl ?_
                     refine l_r (r_field rfl fo32_3) rfl ?_
                     refine l_on (dj := 172) rfl rfl rfl ?_
                     refine l_r (r_load1p rfl hs36 (Repl.there Repl.here) ag3 rfl) rfl ?_
                     refine l_on (dj := 172) rfl rfl rfl ?_
                     refine l_r (r_field rfl fo32_3) rfl ?_
                     refine l_on (dj := 172) rfl rfl rfl ?_
                     refine l_r (r_load1p rfl hs36 Repl.here ag3 rfl) rfl ?_
                     refine l_on (dj := 172) rfl rfl rfl ?_
                     refine l_r (r_cmp rfl rfl rfl) rfl ?_
                     refine l_on (dj := 172) rfl rfl rfl ?_
                     refine l_r (r_move rfl) rfl ?_
                     refine l_part (dj := 178) rfl (fun hc58 => ?_) (fun hc58 => ?_)
                     ·
                      have hc58p := beq_iff_eq.1 hc58
                      refine l_on (dj := 178) rfl rfl rfl ?_
                      refine l_r (r_field rfl fo32_4) rfl ?_
                      refine l_on (dj := 178) rfl rfl rfl ?_
                      refine l_r (r_load1p rfl hs36 (Repl.there Repl.here) ag3 rfl) rfl ?_
                      refine l_on (dj := 178) rfl rfl rfl ?_
                      refine l_r (r_field rfl fo32_4) rfl ?_
                      refine l_on (dj := 178) rfl rfl rfl ?_
                      refine l_r (r_load1p rfl hs36 Repl.here ag3 rfl) rfl ?_
                      refine l_on (dj := 178) rfl rfl rfl ?_
                      refine l_r (r_cmp rfl rfl rfl) rfl ?_
                      refine l_on (dj := 172) rfl rfl rfl ?_
                      refine l_r (r_pick_t rfl rfl) rfl ?_
                      refine l_on (dj := 131) rfl rfl rfl ?_
                      refine l_r (r_pick_f rfl rfl) rfl ?_
                      refine l_r (r_pick_t rfl rfl) rfl ?_
                      refine l_nil ?_
                      refine s_part (dj := 186) rfl (fun hc59 => ?_) (fun hc59 => ?_)
                      ·
                       have hc59p := beq_iff_eq.1 hc59
                       refine s_then rfl ?_
                       refine s_seq ?_
                       refine s_region ?_
                       refine l_r (r_assign rfl) rfl ?_
                       refine l_nil ?_
                       refine s_ret ?_
                       exact q_done (.inr rfl) (.tmp rfl .nil) ⟨rfl, hs36.toExt⟩
                      ·
                       have hc59p := beq_eq_false_iff_ne.1 hc59
                       refine s_else rfl ?_
                       refine s_skip ?_
                       refine s_mark ?_
                       refine s_region ?_
                       refine l_r (r_move rfl) rfl ?_
                       refine l_r (r_inc rfl (by omega)) rfl ?_
                       refine l_r (r_assign rfl) rfl ?_
                       refine l_nil ?_
                       refine s_again ?_
                       exact ⟨_, [(9, .int .i64 (((k1 + 1) : Nat) : Int)), (1, .slice A ps.length c), (2, .pointer (some ⟨b2, 0, none⟩)), (7, .int .i64 (((k : Nat) : Int))), (8, .pointer (some ⟨b8, 0, none⟩))], by omega, (.cons rfl (.cons rfl (.cons rfl (.cons rfl (.cons rfl .nil))))), ⟨(k1 + 1), rfl, rfl, by omega, (fun j y hj hy => by
                             by_cases e : j = k1
                             · subst e; rw [e34h] at hy; injection hy with hy; subst hy; exact (fun h => by obtain ⟨hq, h⟩ := h; first | exact absurd hq (by assumption) | omega)
                             · exact hD j y (by omega) hy), hs36.tail⟩⟩
                     ·
                      have hc58p := beq_eq_false_iff_ne.1 hc58
                      refine l_off (dj := 178) (b := false) rfl rfl rfl rfl rfl ?_
                      refine l_off (dj := 178) (b := false) rfl rfl rfl rfl rfl ?_
                      refine l_off (dj := 178) (b := false) rfl rfl rfl rfl rfl ?_
                      refine l_off (dj := 178) (b := false) rfl rfl rfl rfl rfl ?_
                      refine l_off (dj := 178) (b := false) rfl rfl rfl rfl rfl ?_
                      refine l_on (dj := 172) rfl rfl rfl ?_
                      refine l_r (r_pick_f rfl rfl) rfl ?_
                      refine l_on (dj := 131) rfl rfl rfl ?_
                      refine l_r (r_pick_f rfl rfl) rfl ?_
                      refine l_r (r_pick_t rfl rfl) rfl ?_
                      refine l_nil ?_
                      refine s_else rfl ?_
                      refine s_skip ?_
                      refine s_mark ?_
                      refine s_region ?_
                      refine l_r (r_move rfl) rfl ?_
                      refine l_r (r_inc rfl (by omega)) rfl ?_
                      refine l_r (r_assign rfl) rfl ?_
                      refine l_nil ?_
                      refine s_again ?_
                      exact ⟨_, [(9, .int .i64 (((k1 + 1) : Nat) : Int)), (1, .slice A ps.length c), (2, .pointer (some ⟨b2, 0, none⟩)), (7, .int .i64 (((k : Nat) : Int))), (8, .pointer (some ⟨b8, 0, none⟩))], by omega, (.cons rfl (.cons rfl (.cons rfl (.cons rfl (.cons rfl .nil))))), ⟨(k1 + 1), rfl, rfl, by omega, (fun j y hj hy => by
                            by_cases e : j = k1
                            · subst e; rw [e34h] at hy; injection hy with hy; subst hy; exact (fun h => by obtain ⟨hq, h⟩ := h; first | exact absurd hq (by assumption) | omega)
                            · exact hD j y (by omega) hy), hs36.tail⟩⟩
                   ·
                    have hc56p := beq_eq_false_iff_ne.1 hc56
                    refine l_off (dj := 164) (b := false) rfl rfl rfl rfl rfl ?_
                    refine l_off (dj := 164) (b := false) rfl rfl rfl rfl rfl ?_
                    refine l_off (dj := 164) (b := false) rfl rfl rfl rfl rfl ?_
                    refine l_off (dj := 164) (b := false) rfl rfl rfl rfl rfl ?_
                    refine l_off (dj := 164) (b := false) rfl rfl rfl rfl rfl ?_
                    refine l_on (dj := 158) rfl rfl rfl ?_
                    refine l_r (r_pick_f rfl rfl) rfl ?_
                    refine l_on (dj := 131) rfl rfl rfl ?_
                    refine l_r (r_pick_f rfl rfl) rfl ?_
                    refine l_on (dj := 131) rfl rfl rfl ?_
                    refine l_r (r_move rfl) rfl ?_
                    refine l_on (dj := 172) rfl rfl rfl ?_
                    refine l_r (r_field rfl fo32_3) rfl ?_
                    refine l_on (dj := 172) rfl rfl rfl ?_
                    refine l_r (r_load1p rfl hs36 (Repl.there Repl.here) ag3 rfl) rfl ?_
                    refine l_on (dj := 172) rfl rfl rfl ?_
                    refine l_r (r_field rfl fo32_3) rfl ?_
                    refine l_on (dj := 172) rfl rfl rfl ?_
                    refine l_r (r_load1p rfl hs36 Repl.here ag3 rfl) rfl ?_
                    refine l_on (dj := 172) rfl rfl rfl ?_
                    refine l_r (r_cmp rfl rfl rfl) rfl ?_
                    refine l_on (dj := 172) rfl rfl rfl ?_
                    refine l_r (r_move rfl) rfl ?_
                    refine l_part (dj := 178) rfl (fun hc60 => ?_) (fun hc60 => ?_)
                    ·
                     have hc60p := beq_iff_eq.1 hc60
                     refine l_on (dj := 178) rfl rfl rfl ?_
                     refine l_r (r_field rfl fo32_4) rfl ?_
                     refine l_on (dj := 178) rfl rfl rfl ?_
                     refine l_r (r_load1p rfl hs36 (Repl.there Repl.here) ag3 rfl) rfl ?_
                     refine l_on (dj := 178) rfl rfl rfl ?_
                     refine l_r (r_field rfl fo32_4) rfl ?_
                     refine l_on (dj := 178) rfl rfl rfl ?_
                     refine l_r (r_load1p rfl hs36 Repl.here ag3 rfl) rfl ?_
                     refine l_on (dj := 178) rfl rfl rfl ?_
                     refine l_r (r_cmp rfl rfl rfl) rfl ?_
                     refine l_on (dj := 172) rfl rfl rfl ?_
                     refine l_r (r_pick_t rfl rfl) rfl ?_
                     refine l_on (dj := 131) rfl rfl rfl ?_
                     refine l_r (r_pick_f rfl rfl) rfl ?_
                     refine l_r (r_pick_t rfl rfl) rfl ?_
                     refine l_nil ?_
                     refine s_part (dj := 186) rfl (fun hc61 => ?_) (fun hc61 => ?_)
                     ·
                      have hc61p := beq_iff_eq.1 hc61
                      refine s_then rfl ?_
                      refine s_seq ?_
                      refine s_region ?_
                      refine l_r (r_assign rfl) rfl ?_
                      refine l_nil ?_
                      refine s_ret ?_
                      exact q_done (.inr rfl) (.tmp rfl .nil) ⟨rfl, hs36.toExt⟩
                     ·
                      have hc61p := beq_eq_false_iff_ne.1 hc61
                      refine s_else rfl ?_
                      refine s_skip ?_
                      refine s_mark ?_
                      refine s_region ?_
                      refine l_r (r_move rfl) rfl ?_
                      refine l_r (r_inc rfl (by omega)) rfl ?_
                      refine l_r (r_assign rfl) rfl ?_
                      refine l_nil ?_
                      refine s_again ?_
                      exact ⟨_, [(9, .int .i64 (((k1 + 1) : Nat) : Int)), (1, .slice A ps.length c), (2, .pointer (some ⟨b2, 0, none⟩)), (7, .int .i64 (((k : Nat) : Int))), (8, .pointer (some ⟨b8, 0, none⟩))], by omega, (.cons rfl (.cons rfl (.cons rfl (.cons rfl (.cons rfl .nil))))), ⟨(k1 + 1), rfl, rfl, by omega, (fun j y hj hy => by
                            by_cases e : j = k1
                            · subst e; rw [e34h] at hy; injection hy with hy; subst hy; exact (fun h => by obtain ⟨hq, h⟩ := h; first | exact absurd hq (by assumption) | omega)
                            · exact hD j y (by omega) hy), hs36.tail⟩⟩
                    ·
                     have hc60p := beq_eq_false_iff_ne.1 hc60
                     refine l_off (dj := 178) (b := false) rfl rfl rfl rfl rfl ?_
                     refine l_off (dj := 178) (b := false) rfl rfl rfl rfl rfl ?_
                     refine l_off (dj := 178) (b := false) rfl rfl rfl rfl rfl ?_
                     refine l_off (dj := 178) (b := false) rfl rfl rfl rfl rfl ?_
                     refine l_off (dj := 178) (b := false) rfl rfl rfl rfl rfl ?_
                     refine l_on (dj := 172) rfl rfl rfl ?_
                     refine l_r (r_pick_f rfl rfl) rfl ?_
                     refine l_on (dj := 131) rfl rfl rfl ?_
                     refine l_r (r_pick_f rfl rfl) rfl ?_
                     refine l_r (r_pick_t rfl rfl) rfl ?_
                     refine l_nil ?_
                     refine s_else rfl ?_
                     refine s_skip ?_
                     refine s_mark ?_
                     refine s_region ?_
                     refine l_r (r_move rfl) rfl ?_
                     refine l_r (r_inc rfl (by omega)) rfl ?_
                     refine l_r (r_assign rfl) rfl ?_
                     refine l_nil ?_
                     refine s_again ?_
                     exact ⟨_, [(9, .int .i64 (((k1 + 1) : Nat) : Int)), (1, .slice A ps.length c), (2, .pointer (some ⟨b2, 0, none⟩)), (7, .int .i64 (((k : Nat) : Int))), (8, .pointer (some ⟨b8, 0, none⟩))], by omega, (.cons rfl (.cons rfl (.cons rfl (.cons rfl (.cons rfl .nil))))), ⟨(k1 + 1), rfl, rfl, by omega, (fun j y hj hy => by
                           by_cases e : j = k1
                           · subst e; rw [e34h] at hy; injection hy with hy; subst hy; exact (fun h => by obtain ⟨hq, h⟩ := h; first | exact absurd hq (by assumption) | omega)
                           · exact hD j y (by omega) hy), hs36.tail⟩⟩
                 ·
                  have hc54p := beq_eq_false_iff_ne.1 hc54
                  refine l_off (dj := 150) (b := false) rfl rfl rfl rfl rfl ?_
                  refine l_off (dj := 150) (b := false) rfl rfl rfl rfl rfl ?_
                  refine l_off (dj := 150) (b := false) rfl rfl rfl rfl rfl ?_
                  refine l_off (dj := 150) (b := false) rfl rfl rfl rfl rfl ?_
                  refine l_off (dj := 150) (b := false) rfl rfl rfl rfl rfl ?_
                  refine l_on (dj := 144) rfl rfl rfl ?_
                  refine l_r (r_pick_f rfl rfl) rfl ?_
                  refine l_on (dj := 131) rfl rfl rfl ?_
                  refine l_r (r_pick_f rfl rfl) rfl ?_
                  refine l_on (dj := 131) rfl rfl rfl ?_
                  refine l_r (r_move rfl) rfl ?_
                  refine l_on (dj := 158) rfl rfl rfl ?_
                  refine l_r (r_field rfl fo32_3) rfl ?_
                  refine l_on (dj := 158) rfl rfl rfl ?_
                  refine l_r (r_load1p rfl hs36 (Repl.there Repl.here) ag3 rfl) rfl ?_
                  refine l_on (dj := 158) rfl rfl rfl ?_
                  refine l_r (r_field rfl fo32_1) rfl ?_
                  refine l_on (dj := 158) rfl rfl rfl ?_
                  refine l_r (r_load1p rfl hs36 Repl.here ag3 rfl) rfl ?_
                  refine l_on (dj := 158) rfl rfl rfl ?_
                  refine l_r (r_cmp rfl rfl rfl) rfl ?_
                  refine l_on (dj := 158) rfl rfl rfl ?_
                  refine l_r (r_move rfl) rfl ?_
                  refine l_part (dj := 164) rfl (fun hc62 => ?_) (fun hc62 => ?_)
                  ·
                   have hc62p := beq_iff_eq.1 hc62
                   refine l_on (dj := 164) rfl rfl rfl ?_
                   refine l_r (r_field rfl fo32_4) rfl ?_
                   refine l_on (dj := 164) rfl rfl rfl ?_
                   refine l_r (r_load1p rfl hs36 (Repl.there Repl.here) ag3 rfl) rfl ?_
                   refine l_on (dj := 164) rfl rfl rfl ?_
                   refine l_r (r_field rfl fo32_2) rfl ?_
                   refine l_on (dj := 164) rfl rfl rfl ?_
                   refine l_r (r_load1p rfl hs36 Repl.here ag3 rfl) rfl ?_
                   refine l_on (dj := 164) rfl rfl rfl ?_
                   refine l_r (r_cmp rfl rfl rfl) rfl ?_
                   refine l_on (dj := 158) rfl rfl rfl ?_
                   refine l_r (r_pick_t rfl rfl) rfl ?_
                   refine l_on (dj := 131) rfl rfl rfl ?_
                   refine l_r (r_pick_f rfl rfl) rfl ?_
                   refine l_on (dj := 131) rfl rfl rfl ?_
                   refine l_r (r_move rfl) rfl ?_
                   refine l_part (dj := 172) rfl (fun hc63 => ?_) (fun hc63 => ?_)
                   ·
                    have hc63p := beq_iff_eq.1 hc63
                    refine l_off (dj := 172) (b := true) rfl rfl rfl rfl rfl ?_
                    refine l_off (dj := 172) (b := true) rfl rfl rfl rfl rfl ?_
                    refine l_off (dj := 172) (b := true) rfl rfl rfl rfl rfl ?_
                    refine l_off (dj := 172) (b := true) rfl rfl rfl rfl rfl ?_
                    refine l_off (dj := 172) (b := true) rfl rfl rfl rfl rfl ?_
                    refine l_off (dj := 172) (b := true) rfl rfl rfl rfl rfl ?_
                    refine l_offu (dj := 178) rfl rfl rfl rfl ?_
                    refine l_offu (dj := 178) rfl rfl rfl rfl ?_
                    refine l_offu (dj := 178) rfl rfl rfl rfl ?_
                    refine l_offu (dj := 178) rfl rfl rfl rfl ?_
                    refine l_offu (dj := 178) rfl rfl rfl rfl ?_
                    refine l_off (dj := 172) (b := true) rfl rfl rfl rfl rfl ?_
                    refine l_on (dj := 131) rfl rfl rfl ?_
                    refine l_r (r_pick_t rfl rfl) rfl ?_
                    refine l_r (r_pick_t rfl rfl) rfl ?_
                    refine l_nil ?_
                    refine s_then rfl ?_
                    refine s_seq ?_
                    refine s_region ?_
                    refine l_r (r_assign rfl) rfl ?_
                    refine l_nil ?_
                    refine s_ret ?_
                    exact q_done (.inr rfl) (.tmp rfl .nil) ⟨rfl, hs36.toExt⟩
                   ·
                    have hc63p := beq_eq_false_iff_ne.1 hc63
                    refine l_on (dj := 172) rfl rfl rfl ?_
                    refine l_r (r_field rfl fo32_3) rfl ?_
                    refine l_on (dj := 172) rfl rfl rfl ?_
                    refine l_r (r_load1p rfl hs36 (Repl.there Repl.here) ag3 rfl) rfl ?_
                    refine l_on (dj := 172) rfl rfl rfl ?_
                    refine l_r (r_field rfl fo32_3) rfl ?_
                    refine l_on (dj := 172) rfl rfl rfl ?_
                    refine l_r (r_load1p rfl hs36 Repl.here ag3 rfl) rfl ?_
                    refine l_on (dj := 172) rfl rfl rfl ?_
                    refine l_r (r_cmp rfl rfl rfl) rfl ?_
                    refine l_on (dj := 172) rfl rfl rfl ?_
                    refine l_r (r_move rfl) rfl ?_
                    refine l_part (dj := 178) rfl (fun hc64 => ?_) (fun hc64 => ?_)
                    ·
                     have hc64p := beq_iff_eq.1 hc64
                     refine l_on (dj := 178) rfl rfl rfl ?_
                     refine l_r (r_field rfl fo32_4) rfl ?_
                     refine l_on (dj := 178) rfl rfl rfl ?_
                     refine l_r (r_load1p rfl hs36 (Repl.there Repl.here) ag3 rfl) rfl ?_
                     refine l_on (dj := 178) rfl rfl rfl ?_
                     refine l_r (r_field rfl fo32_4) rfl ?_
                     refine l_on (dj := 178) rfl rfl rfl ?_
                     refine l_r (r_load1p rfl hs36 Repl.here ag3 rfl) rfl ?_
                     refine l_on (dj := 178) rfl rfl rfl ?_
                     refine l_r (r_cmp rfl rfl rfl) rfl ?_
                     refine l_on (dj := 172) rfl rfl rfl ?_
                     refine l_r (r_pick_t rfl rfl) rfl ?_
                     refine l_on (dj := 131) rfl rfl rfl ?_
                     refine l_r (r_pick_f rfl rfl) rfl ?_
                     refine l_r (r_pick_t rfl rfl) rfl ?_
                     refine l_nil ?_
                     refine s_part (dj := 186) rfl (fun hc65 => ?_) (fun hc65 => ?_)
                     ·
                      have hc65p := beq_iff_eq.1 hc65
                      refine s_then rfl ?_
                      refine s_seq ?_
                      refine s_region ?_
                      refine l_r (r_assign rfl) rfl ?_
                      refine l_nil ?_
                      refine s_ret ?_
                      exact q_done (.inr rfl) (.tmp rfl .nil) ⟨rfl, hs36.toExt⟩
                     ·
                      have hc65p := beq_eq_false_iff_ne.1 hc65
                      refine s_else rfl ?_
                      refine s_skip ?_
                      refine s_mark ?_
                      refine s_region ?_
                      refine l_r (r_move rfl) rfl ?_
                      refine l_r (r_inc rfl (by omega)) rfl ?_
                      refine l_r (r_assign rfl) rfl ?_
                      refine l_nil ?_
                      refine s_again ?_
                      exact ⟨_, [(9, .int .i64 (((k1 + 1) : Nat) : Int)), (1, .slice A ps.length c), (2, .pointer (some ⟨b2, 0, none⟩)), (7, .int .i64 (((k : Nat) : Int))), (8, .pointer (some ⟨b8, 0, none⟩))], by omega, (.cons rfl (.cons rfl (.cons rfl (.cons rfl (.cons rfl .nil))))), ⟨(k1 + 1), rfl, rfl, by omega, (fun j y hj hy => by
                            by_cases e : j = k1
                            · subst e; rw [e34h] at hy; injection hy with hy; subst hy; exact (fun h => by obtain ⟨hq, h⟩ := h; first | exact absurd hq (by assumption) | omega)
                            · exact hD j y (by omega) hy), hs36.tail⟩⟩
                    ·
                     have hc64p := beq_eq_false_iff_ne.1 hc64
                     refine l_off (dj := 178) (b := false) rfl rfl rfl rfl rfl ?_
                     refine l_off (dj := 178) (b := false) rfl rfl rfl rfl rfl ?_
                     refine l_off (dj := 178) (b := false) rfl rfl rfl rfl rfl ?_
                     refine l_off (dj := 178) (b := false) rfl rfl rfl rfl rfl ?_
                     refine l_off (dj := 178) (b := false) rfl rfl rfl rfl rfl ?_
                     refine l_on (dj := 172) rfl rfl rfl ?_
                     refine l_r (r_pick_f rfl rfl) rfl ?_
                     refine l_on (dj := 131) rfl rfl rfl ?_
                     refine l_r (r_pick_f rfl rfl) rfl ?_
                     refine l_r (r_pick_t rfl rfl) rfl ?_
                     refine l_nil ?_
                     refine s_else rfl ?_
                     refine s_skip ?_
                     refine s_mark ?_
                     refine s_region ?_
                     refine l_r (r_move rfl) rfl ?_
                     refine l_r (r_inc rfl (by omega)) rfl ?_
                     refine l_r (r_assign rfl) rfl ?_
                     refine l_nil ?_
                     refine s_again ?_
                     exact ⟨_, [(9, .int .i64 (((k1 + 1) : Nat) : Int)), (1, .slice A ps.length c), (2, .pointer (some ⟨b2, 0, none⟩)), (7, .int .i64 (((k : Nat) : Int))), (8, .pointer (some ⟨b8, 0, none⟩))], by omega, (.cons rfl (.cons rfl (.cons rfl (.cons rfl (.cons rfl .nil))))), ⟨(k1 + 1), rfl, rfl, by omega, (fun j y hj hy => by
                           by_cases e : j = k1
                           · subst e; rw [e34h] at hy; injection hy with hy; subst hy; exact (fun h => by obtain ⟨hq, h⟩ := h; first | exact absurd hq (by assumption) | omega)
                           · exact hD j y (by omega) hy), hs36.tail⟩⟩
                  ·
                   have hc62p := beq_eq_false_iff_ne.1 hc62
                   refine l_off (dj := 164) (b := false) rfl rfl rfl rfl rfl ?_
                   refine l_off (dj := 164) (b := false) rfl rfl rfl rfl rfl ?_
                   refine l_off (dj := 164) (b := false) rfl rfl rfl rfl rfl ?_
                   refine l_off (dj := 164) (b := false) rfl rfl rfl rfl rfl ?_
                   refine l_off (dj := 164) (b := false) rfl rfl rfl rfl rfl ?_
                   refine l_on (dj := 158) rfl rfl rfl ?_
                   refine l_r (r_pick_f rfl rfl) rfl ?_
                   refine l_on (dj := 131) rfl rfl rfl ?_
                   refine l_r (r_pick_f rfl rfl) rfl ?_
                   refine l_on (dj := 131) rfl rfl rfl ?_
                   refine l_r (r_move rfl) rfl ?_
                   refine l_on (dj := 172) rfl rfl rfl ?_
                   refine l_r (r_field rfl fo32_3) rfl ?_
                   refine l_on (dj := 172) rfl rfl rfl ?_
                   refine l_r (r_load1p rfl hs36 (Repl.there Repl.here) ag3 rfl) rfl ?_
                   refine l_on (dj := 172) rfl rfl rfl ?_
                   refine l_r (r_field rfl fo32_3) rfl ?_
                   refine l_on (dj := 172) rfl rfl rfl ?_
                   refine l_r (r_load1p rfl hs36 Repl.here ag3 rfl) rfl ?_
                   refine l_on (dj := 172) rfl rfl rfl ?_
                   refine l_r (r_cmp rfl rfl rfl) rfl ?_
                   refine l_on (dj := 172) rfl rfl rfl ?_
                   refine l_r (r_move rfl) rfl ?_
                   refine l_part (dj := 178) rfl (fun hc66 => ?_) (fun hc66 => ?_)
                   ·
                    have hc66p := beq_iff_eq.1 hc66
                    refine l_on (dj := 178) rfl rfl rfl ?_
                    refine l_r (r_field rfl fo32_4) rfl ?_
                    refine l_on (dj := 178) rfl rfl rfl ?_
                    refine l_r (r_load1p rfl hs36 (Repl.there Repl.here) ag3 rfl) rfl ?_
                    refine l_on (dj := 178) rfl rfl rfl ?_
                    refine l_r (r_field rfl fo32_4) rfl ?_
                    refine l_on (dj := 178) rfl rfl rfl ?_
                    refine l_r (r_load1p rfl hs36 Repl.here ag3 rfl) rfl ?_
                    refine l_on (dj := 178) rfl rfl rfl ?_
                    refine l_r (r_cmp rfl rfl rfl) rfl ?_
                    refine l_on (dj := 172) rfl rfl rfl ?_
                    refine l_r (r_pick_t rfl rfl) rfl ?_
                    refine l_on (dj := 131) rfl rfl rfl ?_
                    refine l_r (r_pick_f rfl rfl) rfl ?_
                    refine l_r (r_pick_t rfl rfl) rfl ?_
                    refine l_nil ?_
                    refine s_part (dj := 186) rfl (fun hc67 => ?_) (fun hc67 => ?_)
                    ·
                     have hc67p := beq_iff_eq.1 hc67
                     refine s_then rfl ?_
                     refine s_seq ?_
                     refine s_region ?_
                     refine l_r (r_assign rfl) rfl ?_
                     refine l_nil ?_
                     refine s_ret ?_
                     exact q_done (.inr rfl) (.tmp rfl .nil) ⟨rfl, hs36.toExt⟩
                    ·
                     have hc67p := beq_eq_false_iff_ne.1 hc67
                     refine s_else rfl ?_
                     refine s_skip ?_
                     refine s_mark ?_
                     refine s_region ?_
                     refine l_r (r_move rfl) rfl ?_
                     refine l_r (r_inc rfl (by omega)) rfl ?_
                     refine l_r (r_assign rfl) rfl ?_
                     refine l_nil ?_
                     refine s_again ?_
                     exact ⟨_, [(9, .int .i64 (((k1 + 1) : Nat) : Int)), (1, .slice A ps.length c), (2, .pointer (some ⟨b2, 0, none⟩)), (7, .int .i64 (((k : Nat) : Int))), (8, .pointer (some ⟨b8, 0, none⟩))], by omega, (.cons rfl (.cons rfl (.cons rfl (.cons rfl (.cons rfl .nil))))), ⟨(k1 + 1), rfl, rfl, by omega, (fun j y hj hy => by
                           by_cases e : j = k1
                           · subst e; rw [e34h] at hy; injection hy with hy; subst hy; exact (fun h => by obtain ⟨hq, h⟩ := h; first | exact absurd hq (by assumption) | omega)
                           · exact hD j y (by omega) hy), hs36.tail⟩⟩
                   ·
                    have hc66p := beq_eq_false_iff_ne.1 hc66
                    refine l_off (dj := 178) (b := false) rfl rfl rfl rfl rfl ?_
                    refine l_off (dj := 178) (b := false) rfl rfl rfl rfl rfl ?_
                    refine l_off (dj := 178) (b := false) rfl rfl rfl rfl rfl ?_
                    refine l_off (dj := 178) (b := false) rfl rfl rfl rfl rfl ?_
                    refine l_off (dj := 178) (b := false) rfl rfl rfl rfl rfl ?_
                    refine l_on (dj := 172) rfl rfl rfl ?_
                    refine l_r (r_pick_f rfl rfl) rfl ?_
                    refine l_on (dj := 131) rfl rfl rfl ?_
                    refine l_r (r_pick_f rfl rfl) rfl ?_
                    refine l_r (r_pick_t rfl rfl) rfl ?_
                    refine l_nil ?_
                    refine s_else rfl ?_
                    refine s_skip ?_
                    refine s_mark ?_
                    refine s_region ?_
                    refine l_r (r_move rfl) rfl ?_
                    refine l_r (r_inc rfl (by omega)) rfl ?_
                    refine l_r (r_assign rfl) rfl ?_
                    refine l_nil ?_
                    refine s_again ?_
                    exact ⟨_, [(9, .int .i64 (((k1 + 1) : Nat) : Int)), (1, .slice A ps.length c), (2, .pointer (some ⟨b2, 0, none⟩)), (7, .int .i64 (((k : Nat) : Int))), (8, .pointer (some ⟨b8, 0, none⟩))], by omega, (.cons rfl (.cons rfl (.cons rfl (.cons rfl (.cons rfl .nil))))), ⟨(k1 + 1), rfl, rfl, by omega, (fun j y hj hy => by
                          by_cases e : j = k1
                          · subst e; rw [e34h] at hy; injection hy with hy; subst hy; exact (fun h => by obtain ⟨hq, h⟩ := h; first | exact absurd hq (by assumption) | omega)
                          · exact hD j y (by omega) hy), hs36.tail⟩⟩
               ·
                have hc37p := beq_eq_false_iff_ne.1 hc37
                refine l_off (dj := 131) (b := false) rfl rfl rfl rfl rfl ?_
                refine l_off (dj := 131) (b := false) rfl rfl rfl rfl rfl ?_
                refine l_off (dj := 131) (b := false) rfl rfl rfl rfl rfl ?_
                refine l_off (dj := 131) (b := false) rfl rfl rfl rfl rfl ?_
                refine l_off (dj := 131) (b := false) rfl rfl rfl rfl rfl ?_
                refine l_off (dj := 131) (b := false) rfl rfl rfl rfl rfl ?_
                refine l_offu (dj := 137) rfl rfl rfl rfl ?_
                refine l_offu (dj := 137) rfl rfl rfl rfl ?_
                refine l_offu (dj := 137) rfl rfl rfl rfl ?_
                refine l_offu (dj := 137) rfl rfl rfl rfl ?_
                refine l_offu (dj := 137) rfl rfl rfl rfl ?_
                refine l_off (dj := 131) (b := false) rfl rfl rfl rfl rfl ?_
                refine l_off (dj := 131) (b := false) rfl rfl rfl rfl rfl ?_
                refine l_offu (dj := 144) rfl rfl rfl rfl ?_
                refine l_offu (dj := 144) rfl rfl rfl rfl ?_
                refine l_offu (dj := 144) rfl rfl rfl rfl ?_
                refine l_offu (dj := 144) rfl rfl rfl rfl ?_
                refine l_offu (dj := 144) rfl rfl rfl rfl ?_
                refine l_offu (dj := 144) rfl rfl rfl rfl ?_
                refine l_offu (dj := 150) rfl rfl rfl rfl ?_
                refine l_offu (dj := 150) rfl rfl rfl rfl ?_
                refine l_offu (dj := 150) rfl rfl rfl rfl ?_
                refine l_offu (dj := 150) rfl rfl rfl rfl ?_
                refine l_offu (dj := 150) rfl rfl rfl rfl ?_
                refine l_offu (dj := 144) rfl rfl rfl rfl ?_
                refine l_off (dj := 131) (b := false) rfl rfl rfl rfl rfl ?_
                refine l_off (dj := 131) (b := false) rfl rfl rfl rfl rfl ?_
                refine l_offu (dj := 158) rfl rfl rfl rfl ?_
                refine l_offu (dj := 158) rfl rfl rfl rfl ?_
                refine l_offu (dj := 158) rfl rfl rfl rfl ?_
                refine l_offu (dj := 158) rfl rfl rfl rfl ?_
                refine l_offu (dj := 158) rfl rfl rfl rfl ?_
                refine l_offu (dj := 158) rfl rfl rfl rfl ?_
                refine l_offu (dj := 164) rfl rfl rfl rfl ?_
                refine l_offu (dj := 164) rfl rfl rfl rfl ?_
                refine l_offu (dj := 164) rfl rfl rfl rfl ?_
                refine l_offu (dj := 164) rfl rfl rfl rfl ?_
                refine l_offu (dj := 164) rfl rfl rfl rfl ?_
                refine l_offu (dj := 158) rfl rfl rfl rfl ?_
                refine l_off (dj := 131) (b := false) rfl rfl rfl rfl rfl ?_
                refine l_off (dj := 131) (b := false) rfl rfl rfl rfl rfl ?_
                refine l_offu (dj := 172) rfl rfl rfl rfl ?_
                refine l_offu (dj := 172) rfl rfl rfl rfl ?_
                refine l_offu (dj := 172) rfl rfl rfl rfl ?_
                refine l_offu (dj := 172) rfl rfl rfl rfl ?_
                refine l_offu (dj := 172) rfl rfl rfl rfl ?_
                refine l_offu (dj := 172) rfl rfl rfl rfl ?_
                refine l_offu (dj := 178) rfl rfl rfl rfl ?_
                refine l_offu (dj := 178) rfl rfl rfl rfl ?_
                refine l_offu (dj := 178) rfl rfl rfl rfl ?_
                refine l_offu (dj := 178) rfl rfl rfl rfl ?_
                refine l_offu (dj := 178) rfl rfl rfl rfl ?_
                refine l_offu (dj := 172) rfl rfl rfl rfl ?_
                refine l_off (dj := 131) (b := false) rfl rfl rfl rfl rfl ?_
                refine l_r (r_pick_f rfl rfl) rfl ?_
                refine l_nil ?_
                refine s_else rfl ?_
                refine s_skip ?_
                refine s_mark ?_
                refine s_region ?_
                refine l_r (r_move rfl) rfl ?_
                refine l_r (r_inc rfl (by omega)) rfl ?_
                refine l_r (r_assign rfl) rfl ?_
                refine l_nil ?_
                refine s_again ?_
                exact ⟨_, [(9, .int .i64 (((k1 + 1) : Nat) : Int)), (1, .slice A ps.length c), (2, .pointer (some ⟨b2, 0, none⟩)), (7, .int .i64 (((k : Nat) : Int))), (8, .pointer (some ⟨b8, 0, none⟩))], by omega, (.cons rfl (.cons rfl (.cons rfl (.cons rfl (.cons rfl .nil))))), ⟨(k1 + 1), rfl, rfl, by omega, (fun j y hj hy => by
                      by_cases e : j = k1
                      · subst e; rw [e34h] at hy; injection hy with hy; subst hy; exact (fun h => by obtain ⟨hq, h⟩ := h; first | exact absurd hq (by assumption) | omega)
                      · exact hD j y (by omega) hy), hs36.tail⟩⟩
              ·
               have hc33p := of_decide_eq_false hc33
               refine s_else rfl ?_
               refine s_exit rfl ?_
               refine s_mark ?_
               refine s_region ?_
               refine l_r (r_move rfl) rfl ?_
               refine l_r (r_inc rfl (by omega)) rfl ?_
               refine l_r (r_assign rfl) rfl ?_
               refine l_nil ?_
               refine s_again ?_
               exact ⟨_, [(7, .int .i64 (((k + 1) : Nat) : Int)), (1, .slice A ps.length c), (2, .pointer (some ⟨b2, 0, none⟩))], by omega, (.cons rfl (.cons rfl (.cons rfl .nil))), ⟨(k + 1), rfl, rfl, by omega, (fun j y hj hy => by
                     by_cases e : j = k
                     · subst e; rw [e8h] at hy; injection hy with hy; subst hy; exact ⟨by omega, by omega, by omega, by omega, by omega, by omega, by omega, (fun _ => ⟨⟨e26x, e26h, by omega⟩, e29x, e29h, by omega⟩)⟩
                     · exact hF j y (by omega) hy), (fun i j y z hij hj hy hz => by
                     by_cases e : j = k
                     · subst e; rw [e8h] at hz; injection hz with hz; subst hz; exact hD i y (by omega) hy
                     · exact hC i j y z hij (by omega) hy hz), hs32.tail⟩⟩
           ·
            refine qq_off (dj := 91) (b := false) rfl rfl rfl rfl rfl ?_
            refine qq_off (dj := 91) (b := false) rfl rfl rfl rfl rfl ?_
            refine qq_off (dj := 91) (b := false) rfl rfl rfl rfl rfl ?_
            refine qq_off (dj := 91) (b := false) rfl rfl rfl rfl rfl ?_
            refine qq_off (dj := 91) (b := false) rfl rfl rfl rfl rfl ?_
            refine qq_off (dj := 91) (b := false) rfl rfl rfl rfl rfl ?_
            refine qq_off (dj := 91) (b := false) rfl rfl rfl rfl rfl ?_
            refine qq_off (dj := 91) (b := false) rfl rfl rfl rfl rfl ?_
            refine qq_off (dj := 91) (b := false) rfl rfl rfl rfl rfl ?_
            refine qq_off (dj := 91) (b := false) rfl rfl rfl rfl rfl ?_
            refine qq_off (dj := 91) (b := false) rfl rfl rfl rfl rfl ?_
            refine qq_offu (dj := 102) rfl rfl rfl rfl ?_
            refine qq_offu (dj := 102) rfl rfl rfl rfl ?_
            refine qq_offu (dj := 102) rfl rfl rfl rfl ?_
            refine qq_offu (dj := 102) rfl rfl rfl rfl ?_
            refine qq_offu (dj := 102) rfl rfl rfl rfl ?_
            refine qq_offu (dj := 102) rfl rfl rfl rfl ?_
            refine qq_offu (dj := 102) rfl rfl rfl rfl ?_
            refine qq_offu (dj := 102) rfl rfl rfl rfl ?_
            refine qq_offu (dj := 102) rfl rfl rfl rfl ?_
            refine qq_offu (dj := 102) rfl rfl rfl rfl ?_
            refine qq_off (dj := 91) (b := false) rfl rfl rfl rfl rfl ?_
            refine qq_on (dj := 88) rfl rfl rfl ?_
            refine qq_r (fun w' hw' => r_pick_f rfl rfl) rfl ?_
            refine qq_r (fun w' hw' => r_pick_f rfl rfl) rfl ?_
            refine qq_nil ?_
            intro w68 hx68
            have hs68 := hs10.ext hx68
            refine s_else rfl ?_
            refine s_skip ?_
            refine s_seq ?_
            skip
            refine s_region ?_
            refine l_r (r_assign rfl) rfl ?_
            refine l_nil ?_
            refine s_block ?_
            refine s_loop (fun m L wl => ∃ (k1 : Nat), L = [(9, .int .i64 ((k1 : Nat) : Int)), (1, .slice A ps.length c), (2, .pointer (some ⟨b2, 0, none⟩)), (7, .int .i64 (((k : Nat) : Int))), (8, .pointer (some ⟨b8, 0, none⟩))] ∧ m = k - k1 ∧ k1 ≤ k ∧ (∀ j y, j < k1 → cf.Channels[j]? = some y → ¬ Clash e8x y) ∧ St 0 w wl [.pt b8 [.bool e8x.Queuing, .int .i64 e8x.From, .int .i64 e8x.A, .int .i64 e8x.To, .int .i64 e8x.B] 32, .pt b2 [.int .i64 cf.Frame, .int .i64 cf.Switch, .slice Al_2 cf.Lines.length cl_2, .slice Al_3 cf.Parts.length cl_3, .slice Al_4 cf.Windows.length cl_4, .slice Al_5 cf.Channels.length cl_5] 27]) _ [(9, .int .i64 ((0 : Nat) : Int)), (1, .slice A ps.length c), (2, .pointer (some ⟨b2, 0, none⟩)), (7, .int .i64 (((k : Nat) : Int))), (8, .pointer (some ⟨b8, 0, none⟩))] (.cons rfl (.cons rfl (.cons rfl (.cons rfl (.cons rfl .nil))))) ⟨0, rfl, rfl, Nat.zero_le _, fun j y hj => (by omega), hs68⟩ ?_
            rintro _ _ w69 ⟨k1, rfl, rfl, hkk1, hD, hs69⟩
            refine s_seq ?_
            refine s_seq ?_
            refine s_region ?_
            refine l_r (r_move rfl) rfl ?_
            refine l_r (r_move rfl) rfl ?_
            refine l_r (r_cmp rfl rfl rfl) rfl ?_
            refine l_nil ?_
            refine s_part (dj := 118) rfl (fun hc70 => ?_) (fun hc70 => ?_)
            ·
             have hc70p := of_decide_eq_true hc70
             refine s_then rfl ?_
             refine s_skip ?_
             refine s_seq ?_
             refine s_block ?_
             refine s_seq ?_
             refine s_region ?_
             refine l_r (r_field rfl fo27_5) rfl ?_
             refine l_r (r_load1p rfl hs69 (Repl.there Repl.here) ag25 rfl) rfl ?_
             refine l_r (r_move rfl) rfl ?_
             obtain ⟨e71x, e71h, e71b, e71o, e71cs, e71A, _, e71K, e71c⟩ := hl_5.get_ (i := k1) (by omega)
             obtain rfl : e71cs = [.bool e71x.Queuing, .int .i64 e71x.From, .int .i64 e71x.A, .int .i64 e71x.To, .int .i64 e71x.B] := e71K
             refine l_r (r_indexA rfl e71A rfl (by omega) (by omega) el25) rfl ?_
             refine l_r (r_loadN rfl ag32 (e71c.on hs69) sz32) rfl ?_
             refine l_alloc zz32 rfl hs69 ?_
             intro w72 b10 hb10 hx72 hs72
             refine l_storeAll rfl rfl sz32 (one_all rfl) (Nat.zero_le _) hs72 Repl.here rfl ?_
             intro w73 hz73 hk73 hs73
             refine l_nil ?_
             refine s_seq ?_
             refine s_region ?_
             refine l_r (r_field rfl fo32_0) rfl ?_
             refine l_r (r_load1p rfl hs73 (Repl.there Repl.here) ag4 rfl) rfl ?_
             refine l_r (r_field rfl fo32_0) rfl ?_
             refine l_r (r_load1p rfl hs73 Repl.here ag4 rfl) rfl ?_
             refine l_r (r_eqb rfl rfl Try.underlying4) rfl ?_
             refine l_r (r_move rfl) rfl ?_
             refine l_part (dj := 131) rfl (fun hc74 => ?_) (fun hc74 => ?_)
             ·
              have hc74p := beq_iff_eq.1 hc74
              refine l_on (dj := 131) rfl rfl rfl ?_
              refine l_r (r_field rfl fo32_1) rfl ?_
              refine l_on (dj := 131) rfl rfl rfl ?_
              refine l_r (r_load1p rfl hs73 (Repl.there Repl.here) ag3 rfl) rfl ?_
              refine l_on (dj := 131) rfl rfl rfl ?_
              refine l_r (r_field rfl fo32_1) rfl ?_
              refine l_on (dj := 131) rfl rfl rfl ?_
              refine l_r (r_load1p rfl hs73 Repl.here ag3 rfl) rfl ?_
              refine l_on (dj := 131) rfl rfl rfl ?_
              refine l_r (r_cmp rfl rfl rfl) rfl ?_
              refine l_on (dj := 131) rfl rfl rfl ?_
              refine l_r (r_move rfl) rfl ?_
              refine l_part (dj := 137) rfl (fun hc75 => ?_) (fun hc75 => ?_)
              ·
               have hc75p := beq_iff_eq.1 hc75
               refine l_on (dj := 137) rfl rfl rfl ?_
               refine l_r (r_field rfl fo32_2) rfl ?_
               refine l_on (dj := 137) rfl rfl rfl ?_
               refine l_r (r_load1p rfl hs73 (Repl.there Repl.here) ag3 rfl) rfl ?_
               refine l_on (dj := 137) rfl rfl rfl ?_
               refine l_r (r_field rfl fo32_2) rfl ?_
               refine l_on (dj := 137) rfl rfl rfl ?_
               refine l_r (r_load1p rfl hs73 Repl.here ag3 rfl) rfl ?_
               refine l_on (dj := 137) rfl rfl rfl ?_
               refine l_r (r_cmp rfl rfl rfl) rfl ?_
               refine l_on (dj := 131) rfl rfl rfl ?_
               refine l_r (r_pick_t rfl rfl) rfl ?_
               refine l_on (dj := 131) rfl rfl rfl ?_
               refine l_r (r_move rfl) rfl ?_
               refine l_part (dj := 144) rfl (fun hc76 => ?_) (fun hc76 => ?_)
               ·
                have hc76p := beq_iff_eq.1 hc76
                refine l_off (dj := 144) (b := true) rfl rfl rfl rfl rfl ?_
                refine l_off (dj := 144) (b := true) rfl rfl rfl rfl rfl ?_
                refine l_off (dj := 144) (b := true) rfl rfl rfl rfl rfl ?_
                refine l_off (dj := 144) (b := true) rfl rfl rfl rfl rfl ?_
                refine l_off (dj := 144) (b := true) rfl rfl rfl rfl rfl ?_
                refine l_off (dj := 144) (b := true) rfl rfl rfl rfl rfl ?_
                refine l_offu (dj := 150) rfl rfl rfl rfl ?_
                refine l_offu (dj := 150) rfl rfl rfl rfl ?_
                refine l_offu (dj := 150) rfl rfl rfl rfl ?_
                refine l_offu (dj := 150) rfl rfl rfl rfl ?_
                refine l_offu (dj := 150) rfl rfl rfl rfl ?_
                refine l_off (dj := 144) (b := true) rfl rfl rfl rfl rfl ?_
                refine l_on (dj := 131) rfl rfl rfl ?_
                refine l_r (r_pick_t rfl rfl) rfl ?_
                refine l_on (dj := 131) rfl rfl rfl ?_
                refine l_r (r_move rfl) rfl ?_
                refine l_off (dj := 158) (b := true) rfl rfl rfl rfl rfl ?_
                refine l_off (dj := 158) (b := true) rfl rfl rfl rfl rfl ?_
                refine l_off (dj := 158) (b := true) rfl rfl rfl rfl rfl ?_
                refine l_off (dj := 158) (b := true) rfl rfl rfl rfl rfl ?_
                refine l_off (dj := 158) (b := true) rfl rfl rfl rfl rfl ?_
                refine l_off (dj := 158) (b := true) rfl rfl rfl rfl rfl ?_
                refine l_offu (dj := 164) rfl rfl rfl rfl ?_
                refine l_offu (dj := 164) rfl rfl rfl rfl ?_
                refine l_offu (dj := 164) rfl rfl rfl rfl ?_
                refine l_offu (dj := 164) rfl rfl rfl rfl ?_
                refine l_offu (dj := 164) rfl rfl rfl rfl ?_
                refine l_off (dj := 158) (b := true) rfl rfl rfl rfl rfl ?_
                refine l_on (dj := 131) rfl rfl rfl ?_
                refine l_r (r_pick_t rfl rfl) rfl ?_
                refine l_on (dj := 131) rfl rfl rfl ?_
                refine l_r (r_move rfl) rfl ?_
                refine l_off (dj := 172) (b := true) rfl rfl rfl rfl rfl ?_
                refine l_off (dj := 172) (b := true) rfl rfl rfl rfl rfl ?_
                refine l_off (dj := 172) (b := true) rfl rfl rfl rfl rfl ?_
                refine l_off (dj := 172) (b := true) rfl rfl rfl rfl rfl ?_
                refine l_off (dj := 172) (b := true) rfl rfl rfl rfl rfl ?_
                refine l_off (dj := 172) (b := true) rfl rfl rfl rfl rfl ?_
                refine l_offu (dj := 178) rfl rfl rfl rfl ?_
                refine l_offu (dj := 178) rfl rfl rfl rfl ?_
                refine l_offu (dj := 178) rfl rfl rfl rfl ?_
                refine l_offu (dj := 178) rfl rfl rfl rfl ?_
                refine l_offu (dj := 178) rfl rfl rfl rfl ?_
                refine l_off (dj := 172) (b := true) rfl rfl rfl rfl rfl ?_
                refine l_on (dj := 131) rfl rfl rfl ?_
                refine l_r (r_pick_t rfl rfl) rfl ?_
                refine l_r (r_pick_t rfl rfl) rfl ?_
                refine l_nil ?_
                refine s_then rfl ?_
                refine s_seq ?_
                refine s_region ?_
                refine l_r (r_assign rfl) rfl ?_
                refine l_nil ?_
                refine s_ret ?_
                exact q_done (.inr rfl) (.tmp rfl .nil) ⟨rfl, hs73.toExt⟩
               ·
                have hc76p := beq_eq_false_iff_ne.1 hc76
                refine l_on (dj := 144) rfl rfl rfl ?_
                refine l_r (r_field rfl fo32_1) rfl ?_
                refine l_on (dj := 144) rfl rfl rfl ?_
                refine l_r (r_load1p rfl hs73 (Repl.there Repl.here) ag3 rfl) rfl ?_
                refine l_on (dj := 144) rfl rfl rfl ?_
                refine l_r (r_field rfl fo32_3) rfl ?_
                refine l_on (dj := 144) rfl rfl rfl ?_
                refine l_r (r_load1p rfl hs73 Repl.here ag3 rfl) rfl ?_
                refine l_on (dj := 144) rfl rfl rfl ?_
                refine l_r (r_cmp rfl rfl rfl) rfl ?_
                refine l_on (dj := 144) rfl rfl rfl ?_
                refine l_r (r_move rfl) rfl ?_
                refine l_part (dj := 150) rfl (fun hc77 => ?_) (fun hc77 => ?_)
                ·
                 have hc77p := beq_iff_eq.1 hc77
                 refine l_on (dj := 150) rfl rfl rfl ?_
                 refine l_r (r_field rfl fo32_2) rfl ?_
                 refine l_on (dj := 150) rfl rfl rfl ?_
                 refine l_r (r_load1p rfl hs73 (Repl.there Repl.here) ag3 rfl) rfl ?_
                 refine l_on (dj := 150) rfl rfl rfl ?_
                 refine l_r (r_field rfl fo32_4) rfl ?_
                 refine l_on (dj := 150) rfl rfl rfl ?_
                 refine l_r (r_load1p rfl hs73 Repl.here ag3 rfl) rfl ?_
                 refine l_on (dj := 150) rfl rfl rfl ?_
                 refine l_r (r_cmp rfl rfl rfl) rfl ?_
                 refine l_on (dj := 144) rfl rfl rfl ?_
                 refine l_r (r_pick_t rfl rfl) rfl ?_
                 refine l_on (dj := 131) rfl rfl rfl ?_
                 refine l_r (r_pick_f rfl rfl) rfl ?_
                 refine l_on (dj := 131) rfl rfl rfl ?_
                 refine l_r (r_move rfl) rfl ?_
                 refine l_part (dj := 158) rfl (fun hc78 => ?_) (fun hc78 => ?_)
                 ·
                  have hc78p := beq_iff_eq.1 hc78
                  refine l_off (dj := 158) (b := true) rfl rfl rfl rfl rfl ?_
                  refine l_off (dj := 158) (b := true) rfl rfl rfl rfl rfl ?_
                  refine l_off (dj := 158) (b := true) rfl rfl rfl rfl rfl ?_
                  refine l_off (dj := 158) (b := true) rfl rfl rfl rfl rfl ?_
                  refine l_off (dj := 158) (b := true) rfl rfl rfl rfl rfl ?_
                  refine l_off (dj := 158) (b := true) rfl rfl rfl rfl rfl ?_
                  refine l_offu (dj := 164) rfl rfl rfl rfl ?_
                  refine l_offu (dj := 164) rfl rfl rfl rfl ?_
                  refine l_offu (dj := 164) rfl rfl rfl rfl ?_
                  refine l_offu (dj := 164) rfl rfl rfl rfl ?_
                  refine l_offu (dj := 164) rfl rfl rfl rfl ?_
                  refine l_off (dj := 158) (b := true) rfl rfl rfl rfl rfl ?_
                  refine l_on (dj := 131) rfl rfl rfl ?_
                  refine l_r (r_pick_t rfl rfl) rfl ?_
                  refine l_on (dj := 131) rfl rfl rfl ?_
                  refine l_r (r_move rfl) rfl ?_
                  refine l_off (dj := 172) (b := true) rfl rfl rfl rfl rfl ?_
                  refine l_off (dj := 172) (b := true) rfl rfl rfl rfl rfl ?_
                  refine l_off (dj := 172) (b := true) rfl rfl rfl rfl rfl ?_
                  refine l_off (dj := 172) (b := true) rfl rfl rfl rfl rfl ?_
                  refine l_off (dj := 172) (b := true) rfl rfl rfl rfl rfl ?_
                  refine l_off (dj := 172) (b := true) rfl rfl rfl rfl rfl ?_
                  refine l_offu (dj := 178) rfl rfl rfl rfl ?_
                  refine l_offu (dj := 178) rfl rfl rfl rfl ?_
                  refine l_offu (dj := 178) rfl rfl rfl rfl ?_
                  refine l_offu (dj := 178) rfl rfl rfl rfl ?_
                  refine l_offu (dj := 178) rfl rfl rfl rfl ?_
                  refine l_off (dj := 172) (b := true) rfl rfl rfl rfl rfl ?_
                  refine l_on (dj := 131) rfl rfl rfl ?_
                  refine l_r (r_pick_t rfl rfl) rfl ?_
                  refine l_r (r_pick_t rfl rfl) rfl ?_
                  refine l_nil ?_
                  refine s_then rfl ?_
                  refine s_seq ?_
                  refine s_region ?_
                  refine l_r (r_assign rfl) rfl ?_
                  refine l_nil ?_
                  refine s_ret ?_
                  exact q_done (.inr rfl) (.tmp rfl .nil) ⟨rfl, hs73.toExt⟩
                 ·
                  have hc78p := beq_eq_false_iff_ne.1 hc78
                  refine l_on (dj := 158) rfl rfl rfl ?_
                  refine l_r (r_field rfl fo32_3) rfl ?_
                  refine l_on (dj := 158) rfl rfl rfl ?_
                  refine l_r (r_load1p rfl hs73 (Repl.there Repl.here) ag3 rfl) rfl ?_
                  refine l_on (dj := 158) rfl rfl rfl ?_
                  refine l_r (r_field rfl fo32_1) rfl ?_
                  refine l_on (dj := 158) rfl rfl rfl ?_
                  refine l_r (r_load1p rfl hs73 Repl.here ag3 rfl) rfl ?_
                  refine l_on (dj := 158) rfl rfl rfl ?_
                  refine l_r (r_cmp rfl rfl rfl) rfl ?_
                  refine l_on (dj := 158) rfl rfl rfl ?_
                  refine l_r (r_move rfl) rfl ?_
                  refine l_part (dj := 164) rfl (fun hc79 => ?_) (fun hc79 => ?_)
                  ·
                   have hc79p := beq_iff_eq.1 hc79
                   refine l_on (dj := 164) rfl rfl rfl ?_
                   refine l_r (r_field rfl fo32_4) rfl ?_
                   refine l_on (dj := 164) rfl rfl rfl ?_
                   refine l_r (r_load1p rfl hs73 (Repl.there Repl.here) ag3 rfl) rfl ?_
                   refine l_on (dj := 164) rfl rfl rfl ?_
                   refine l_r (r_field rfl fo32_2) rfl ?_
                   refine l_on (dj := 164) rfl rfl rfl ?_
                   refine l_r (r_load1p rfl hs73 Repl.here ag3 rfl) rfl ?_
                   refine l_on (dj := 164) rfl rfl rfl ?_
                   refine l_r (r_cmp rfl rfl rfl) rfl ?_
                   refine l_on (dj := 158) rfl rfl rfl ?_
                   refine l_r (r_pick_t rfl rfl) rfl ?_
                   refine l_on (dj := 131) rfl rfl rfl ?_
                   refine l_r (r_pick_f rfl rfl) rfl ?_
                   refine l_on (dj := 131) rfl rfl rfl ?_
                   refine l_r (r_move rfl) rfl ?_
                   refine l_part (dj := 172) rfl (fun hc80 => ?_) (fun hc80 => ?_)
                   ·
                    have hc80p := beq_iff_eq.1 hc80
                    refine l_off (dj := 172) (b := true) rfl rfl rfl rfl rfl ?_
                    refine l_off (dj := 172) (b := true) rfl rfl rfl rfl rfl ?_
                    refine l_off (dj := 172) (b := true) rfl rfl rfl rfl rfl ?_
                    refine l_off (dj := 172) (b := true) rfl rfl rfl rfl rfl ?_
                    refine l_off (dj := 172) (b := true) rfl rfl rfl rfl rfl ?_
                    refine l_off (dj := 172) (b := true) rfl rfl rfl rfl rfl ?_
                    refine l_offu (dj := 178) rfl rfl rfl rfl ?_
                    refine l_offu (dj := 178) rfl rfl rfl rfl ?_
                    refine l_offu (dj := 178) rfl rfl rfl rfl ?_
                    refine l_offu (dj := 178) rfl rfl rfl rfl ?_
                    refine l_offu (dj := 178) rfl rfl rfl rfl ?_
                    refine l_off (dj := 172) (b := true) rfl rfl rfl rfl rfl ?_
                    refine l_on (dj := 131) rfl rfl rfl ?_
                    refine l_r (r_pick_t rfl rfl) rfl ?_
                    refine l_r (r_pick_t rfl rfl) rfl ?_
                    refine l_nil ?_
                    refine s_then rfl ?_
                    refine s_seq ?_
                    refine s_region ?_
                    refine l_r (r_assign rfl) rfl ?_
                    refine l_nil ?_
                    refine s_ret ?_
                    exact q_done (.inr rfl) (.tmp rfl .nil) ⟨rfl, hs73.toExt⟩
                   ·
                    have hc80p := beq_eq_false_iff_ne.1 hc80
                    refine l_on (dj := 172) rfl rfl rfl ?_
                    refine l_r (r_field rfl fo32_3) rfl ?_
                    refine l_on (dj := 172) rfl rfl rfl ?_
                    refine l_r (r_load1p rfl hs73 (Repl.there Repl.here) ag3 rfl) rfl ?_
                    refine l_on (dj := 172) rfl rfl rfl ?_
                    refine l_r (r_field rfl fo32_3) rfl ?_
                    refine l_on (dj := 172) rfl rfl rfl ?_
                    refine l_r (r_load1p rfl hs73 Repl.here ag3 rfl) rfl ?_
                    refine l_on (dj := 172) rfl rfl rfl ?_
                    refine l_r (r_cmp rfl rfl rfl) rfl ?_
                    refine l_on (dj := 172) rfl rfl rfl ?_
                    refine l_r (r_move rfl) rfl ?_
                    refine l_part (dj := 178) rfl (fun hc81 => ?_) (fun hc81 => ?_)
                    ·
                     have hc81p := beq_iff_eq.1 hc81
                     refine l_on (dj := 178) rfl rfl rfl ?_
                     refine l_r (r_field rfl fo32_4) rfl ?_
                     refine l_on (dj := 178) rfl rfl rfl ?_
                     refine l_r (r_load1p rfl hs73 (Repl.there Repl.here) ag3 rfl) rfl ?_
                     refine l_on (dj := 178) rfl rfl rfl ?_
                     refine l_r (r_field rfl fo32_4) rfl ?_
                     refine l_on (dj := 178) rfl rfl rfl ?_
                     refine l_r (r_load1p rfl hs73 Repl.here ag3 rfl) rfl ?_
                     refine l_on (dj := 178) rfl rfl rfl ?_
                     refine l_r (r_cmp rfl rfl rfl) rfl ?_
                     refine l_on (dj := 172) rfl rfl rfl ?_
                     refine l_r (r_pick_t rfl rfl) rfl ?_
                     refine l_on (dj := 131) rfl rfl rfl ?_
                     refine l_r (r_pick_f rfl rfl) rfl ?_
                     refine l_r (r_pick_t rfl rfl) rfl ?_
                     refine l_nil ?_
                     refine s_part (dj := 186) rfl (fun hc82 => ?_) (fun hc82 => ?_)
                     ·
                      have hc82p := beq_iff_eq.1 hc82
                      refine s_then rfl ?_
                      refine s_seq ?_
                      refine s_region ?_
                      refine l_r (r_assign rfl) rfl ?_
                      refine l_nil ?_
                      refine s_ret ?_
                      exact q_done (.inr rfl) (.tmp rfl .nil) ⟨rfl, hs73.toExt⟩
                     ·
                      have hc82p := beq_eq_false_iff_ne.1 hc82
                      refine s_else rfl ?_
                      refine s_skip ?_
                      refine s_mark ?_
                      refine s_region ?_
                      refine l_r (r_move rfl) rfl ?_
                      refine l_r (r_inc rfl (by omega)) rfl ?_
                      refine l_r (r_assign rfl) rfl ?_
                      refine l_nil ?_
                      refine s_again ?_
                      exact ⟨_, [(9, .int .i64 (((k1 + 1) : Nat) : Int)), (1, .slice A ps.length c), (2, .pointer (some ⟨b2, 0, none⟩)), (7, .int .i64 (((k : Nat) : Int))), (8, .pointer (some ⟨b8, 0, none⟩))], by omega, (.cons rfl (.cons rfl (.cons rfl (.cons rfl (.cons rfl .nil))))), ⟨(k1 + 1), rfl, rfl, by omega, (fun j y hj hy => by
                            by_cases e : j = k1
                            · subst e; rw [e71h] at hy; injection hy with hy; subst hy; exact (fun h => by obtain ⟨hq, h⟩ := h; first | exact absurd hq (by assumption) | omega)
                            · exact hD j y (by omega) hy), hs73.tail⟩⟩
                    ·
                     have hc81p := beq_eq_false_iff_ne.1 hc81
                     refine l_off (dj := 178) (b := false) rfl rfl rfl rfl rfl ?_
                     refine l_off (dj := 178) (b := false) rfl rfl rfl rfl rfl ?_
                     refine l_off (dj := 178) (b := false) rfl rfl rfl rfl rfl ?_
                     refine l_off (dj := 178) (b := false) rfl rfl rfl rfl rfl ?_
                     refine l_off (dj := 178) (b := false) rfl rfl rfl rfl rfl ?_
                     refine l_on (dj := 172) rfl rfl rfl ?_
                     refine l_r (r_pick_f rfl rfl) rfl ?_
                     refine l_on (dj := 131) rfl rfl rfl ?_
                     refine l_r (r_pick_f rfl rfl) rfl ?_
                     refine l_r (r_pick_t rfl rfl) rfl ?_
                     refine l_nil ?_
                     refine s_else rfl ?_
                     refine s_skip ?_
                     refine s_mark ?_
                     refine s_region ?_
                     refine l_r (r_move rfl) rfl ?_
                     refine l_r (r_inc rfl (by omega)) rfl ?_
                     refine l_r (r_assign rfl) rfl ?_
                     refine l_nil ?_
                     refine s_again ?_
                     exact ⟨_, [(9, .int .i64 (((k1 + 1) : Nat) : Int)), (1, .slice A ps.length c), (2, .pointer (some ⟨b2, 0, none⟩)), (7, .int .i64 (((k : Nat) : Int))), (8, .pointer (some ⟨b8, 0, none⟩))], by omega, (.cons rfl (.cons rfl (.cons rfl (.cons rfl (.cons rfl .nil))))), ⟨(k1 + 1), rfl, rfl, by omega, (fun j y hj hy => by
                           by_cases e : j = k1
                           · subst e; rw [e71h] at hy; injection hy with hy; subst hy; exact (fun h => by obtain ⟨hq, h⟩ := h; first | exact absurd hq (by assumption) | omega)
                           · exact hD j y (by omega) hy), hs73.tail⟩⟩
                  ·
                   have hc79p := beq_eq_false_iff_ne.1 hc79
                   refine l_off (dj := 164) (b := false) rfl rfl rfl rfl rfl ?_
                   refine l_off (dj := 164) (b := false) rfl rfl rfl rfl rfl ?_
                   refine l_off (dj := 164) (b := false) rfl rfl rfl rfl rfl ?_
                   refine l_off (dj := 164) (b := false) rfl rfl rfl rfl rfl ?_
                   refine l_off (dj := 164) (b := false) rfl rfl rfl rfl rfl ?_
                   refine l_on (dj := 158) rfl rfl rfl ?_
                   refine l_r (r_pick_f rfl rfl) rfl ?_
                   refine l_on (dj := 131) rfl rfl rfl ?_
                   refine l_r (r_pick_f rfl rfl) rfl ?_
                   refine l_on (dj := 131) rfl rfl rfl ?_
                   refine l_r (r_move rfl) rfl ?_
                   refine l_on (dj := 172) rfl rfl rfl ?_
                   refine l_r (r_field rfl fo32_3) rfl ?_
                   refine l_on (dj := 172) rfl rfl rfl ?_
                   refine l_r (r_load1p rfl hs73 (Repl.there Repl.here) ag3 rfl) rfl ?_
                   refine l_on (dj := 172) rfl rfl rfl ?_
                   refine l_r (r_field rfl fo32_3) rfl ?_
                   refine l_on (dj := 172) rfl rfl rfl ?_
                   refine l_r (r_load1p rfl hs73 Repl.here ag3 rfl) rfl ?_
                   refine l_on (dj := 172) rfl rfl rfl ?_
                   refine l_r (r_cmp rfl rfl rfl) rfl ?_
                   refine l_on (dj := 172) rfl rfl rfl ?_
                   refine l_r (r_move rfl) rfl ?_
                   refine l_part (dj := 178) rfl (fun hc83 => ?_) (fun hc83 => ?_)
                   ·
                    have hc83p := beq_iff_eq.1 hc83
                    refine l_on (dj := 178) rfl rfl rfl ?_
                    refine l_r (r_field rfl fo32_4) rfl ?_
                    refine l_on (dj := 178) rfl rfl rfl ?_
                    refine l_r (r_load1p rfl hs73 (Repl.there Repl.here) ag3 rfl) rfl ?_
                    refine l_on (dj := 178) rfl rfl rfl ?_
                    refine l_r (r_field rfl fo32_4) rfl ?_
                    refine l_on (dj := 178) rfl rfl rfl ?_
                    refine l_r (r_load1p rfl hs73 Repl.here ag3 rfl) rfl ?_
                    refine l_on (dj := 178) rfl rfl rfl ?_
                    refine l_r (r_cmp rfl rfl rfl) rfl ?_
                    refine l_on (dj := 172) rfl rfl rfl ?_
                    refine l_r (r_pick_t rfl rfl) rfl ?_
                    refine l_on (dj := 131) rfl rfl rfl ?_
                    refine l_r (r_pick_f rfl rfl) rfl ?_
                    refine l_r (r_pick_t rfl rfl) rfl ?_
                    refine l_nil ?_
                    refine s_part (dj := 186) rfl (fun hc84 => ?_) (fun hc84 => ?_)
                    ·
                     have hc84p := beq_iff_eq.1 hc84
                     refine s_then rfl ?_
                     refine s_seq ?_
                     refine s_region ?_
                     refine l_r (r_assign rfl) rfl ?_
                     refine l_nil ?_
                     refine s_ret ?_
                     exact q_done (.inr rfl) (.tmp rfl .nil) ⟨rfl, hs73.toExt⟩
                    ·
                     have hc84p := beq_eq_false_iff_ne.1 hc84
                     refine s_else rfl ?_
                     refine s_skip ?_
                     refine s_mark ?_
                     refine s_region ?_
                     refine l_r (r_move rfl) rfl ?_
                     refine l_r (r_inc rfl (by omega)) rfl ?_
                     refine l_r (r_assign rfl) rfl ?_
                     refine l_nil ?_
                     refine s_again ?_
                     exact ⟨_, [(9, .int .i64 (((k1 + 1) : Nat) : Int)), (1, .slice A ps.length c), (2, .pointer (some ⟨b2, 0, none⟩)), (7, .int .i64 (((k : Nat) : Int))), (8, .pointer (some ⟨b8, 0, none⟩))], by omega, (.cons rfl (.cons rfl (.cons rfl (.cons rfl (.cons rfl .nil))))), ⟨(k1 + 1), rfl, rfl, by omega, (fun j y hj hy => by
                           by_cases e : j = k1
                           · subst e; rw [e71h] at hy; injection hy with hy; subst hy; exact (fun h => by obtain ⟨hq, h⟩ := h; first | exact absurd hq (by assumption) | omega)
                           · exact hD j y (by omega) hy), hs73.tail⟩⟩
                   ·
                    have hc83p := beq_eq_false_iff_ne.1 hc83
                    refine l_off (dj := 178) (b := false) rfl rfl rfl rfl rfl ?_
                    refine l_off (dj := 178) (b := false) rfl rfl rfl rfl rfl ?_
                    refine l_off (dj := 178) (b := false) rfl rfl rfl rfl rfl ?_
                    refine l_off (dj := 178) (b := false) rfl rfl rfl rfl rfl ?_
                    refine l_off (dj := 178) (b := false) rfl rfl rfl rfl rfl ?_
                    refine l_on (dj := 172) rfl rfl rfl ?_
                    refine l_r (r_pick_f rfl rfl) rfl ?_
                    refine l_on (dj := 131) rfl rfl rfl ?_
                    refine l_r (r_pick_f rfl rfl) rfl ?_
                    refine l_r (r_pick_t rfl rfl) rfl ?_
                    refine l_nil ?_
                    refine s_else rfl ?_
                    refine s_skip ?_
                    refine s_mark ?_
                    refine s_region ?_
                    refine l_r (r_move rfl) rfl ?_
                    refine l_r (r_inc rfl (by omega)) rfl ?_
                    refine l_r (r_assign rfl) rfl ?_
                    refine l_nil ?_
                    refine s_again ?_
                    exact ⟨_, [(9, .int .i64 (((k1 + 1) : Nat) : Int)), (1, .slice A ps.length c), (2, .pointer (some ⟨b2, 0, none⟩)), (7, .int .i64 (((k : Nat) : Int))), (8, .pointer (some ⟨b8, 0, none⟩))], by omega, (.cons rfl (.cons rfl (.cons rfl (.cons rfl (.cons rfl .nil))))), ⟨(k1 + 1), rfl, rfl, by omega, (fun j y hj hy => by
                          by_cases e : j = k1
                          · subst e; rw [e71h] at hy; injection hy with hy; subst hy; exact (fun h => by obtain ⟨hq, h⟩ := h; first | exact absurd hq (by assumption) | omega)
                          · exact hD j y (by omega) hy), hs73.tail⟩⟩
                ·
                 have hc77p := beq_eq_false_iff_ne.1 hc77
                 refine l_off (dj := 150) (b := false) rfl rfl rfl rfl rfl ?_
                 refine l_off (dj := 150) (b := false) rfl rfl rfl rfl rfl ?_
                 refine l_off (dj := 150) (b := false) rfl rfl rfl rfl rfl ?_
                 refine l_off (dj := 150) (b := false) rfl rfl rfl rfl rfl ?_
                 refine l_off (dj := 150) (b := false) rfl rfl rfl rfl rfl ?_
                 refine l_on (dj := 144) rfl rfl rfl ?_
                 refine l_r (r_pick_f rfl rfl) rfl ?_
                 refine l_on (dj := 131) rfl rfl rfl ?_
                 refine l_r (r_pick_f rfl rfl) rfl ?_
                 refine l_on (dj := 131) rfl rfl rfl ?_
                 refine l_r (r_move rfl) rfl ?_
                 refine l_on (dj := 158) rfl rfl rfl ?_
                 refine l_r (r_field rfl fo32_3) rfl ?_
                 refine l_on (dj := 158) rfl rfl rfl ?_
                 refine l_r (r_load1p rfl hs73 (Repl.there Repl.here) ag3 rfl) rfl ?_
                 refine l_on (dj := 158) rfl rfl rfl ?_
                 refine l_r (r_field rfl fo32_1) rfl ?_
                 refine l_on (dj := 158) rfl rfl rfl ?_
                 refine l_r (r_load1p rfl hs73 Repl.here ag3 rfl) rfl ?_
                 refine l_on (dj := 158) rfl rfl rfl ?_
                 refine l_r (r_cmp rfl rfl rfl) rfl ?_
                 refine l_on (dj := 158) rfl rfl rfl ?_
                 refine l_r (r_move rfl) rfl ?_
                 refine l_part (dj := 164) rfl (fun hc85 => ?_) (fun hc85 => ?_)
                 ·
                  have hc85p := beq_iff_eq.1 hc85
                  refine l_on (dj := 164) rfl rfl rfl ?_
                  refine l_r (r_field rfl fo32_4) rfl ?_
                  refine l_on (dj := 164) rfl rfl rfl ?_
                  refine l_r (r_load1p rfl hs73 (Repl.there Repl.here) ag3 rfl) rfl ?_
                  refine l_on (dj := 164) rfl rfl rfl ?_
                  refine l_r (r_field rfl fo32_2) rfl ?_
                  refine l_on (dj := 164) rfl rfl rfl ?_
                  refine l_r (r_load1p rfl hs73 Repl.here ag3 rfl) rfl ?_
                  refine l_on (dj := 164) rfl rfl rfl ?_
                  refine l_r (r_cmp rfl rfl rfl) rfl ?_
                  refine l_on (dj := 158) rfl rfl rfl ?_
                  refine l_r (r_pick_t rfl rfl) rfl ?_
                  refine l_on (dj := 131) rfl rfl rfl ?_
                  refine l_r (r_pick_f rfl rfl) rfl ?_
                  refine l_on (dj := 131) rfl rfl rfl ?_
                  refine l_r (r_move rfl) rfl ?_
                  refine l_part (dj := 172) rfl (fun hc86 => ?_) (fun hc86 => ?_)
                  ·
                   have hc86p := beq_iff_eq.1 hc86
                   refine l_off (dj := 172) (b := true) rfl rfl rfl rfl rfl ?_
                   refine l_off (dj := 172) (b := true) rfl rfl rfl rfl rfl ?_
                   refine l_off (dj := 172) (b := true) rfl rfl rfl rfl rfl ?_
                   refine l_off (dj := 172) (b := true) rfl rfl rfl rfl rfl ?_
                   refine l_off (dj := 172) (b := true) rfl rfl rfl rfl rfl ?_
                   refine l_off (dj := 172) (b := true) rfl rfl rfl rfl rfl ?_
                   refine l_offu (dj := 178) rfl rfl rfl rfl ?_
                   refine l_offu (dj := 178) rfl rfl rfl rfl ?_
                   refine l_offu (dj := 178) rfl rfl rfl rfl ?_
                   refine l_offu (dj := 178) rfl rfl rfl rfl ?_
                   refine l_offu (dj := 178) rfl rfl rfl rfl ?_
                   refine l_off (dj := 172) (b := true) rfl rfl rfl rfl rfl ?_
                   refine l_on (dj := 131) rfl rfl rfl ?_
                   refine l_r (r_pick_t rfl rfl) rfl ?_
                   refine l_r (r_pick_t rfl rfl) rfl ?_
                   refine l_nil ?_
                   refine s_then rfl ?_
                   refine s_seq ?_
                   refine s_region ?_
                   refine l_r (r_assign rfl) rfl ?_
                   refine l_nil ?_
                   refine s_ret ?_
                   exact q_done (.inr rfl) (.tmp rfl .nil) ⟨rfl, hs73.toExt⟩
                  ·
                   have hc86p := beq_eq_false_iff_ne.1 hc86
                   refine l_on (dj := 172) rfl rfl rfl ?_
                   refine l_r (r_field rfl fo32_3) rfl ?_
                   refine l_on (dj := 172) rfl rfl rfl ?_
                   refine l_r (r_load1p rfl hs73 (Repl.there Repl.here) ag3 rfl) rfl ?_
                   refine l_on (dj := 172) rfl rfl rfl ?_
                   refine l_r (r_field rfl fo32_3) rfl ?_
                   refine l_on (dj := 172) rfl rfl rfl ?_
                   refine l_r (r_load1p rfl hs73 Repl.here ag3 rfl) rfl ?_
                   refine l_on (dj := 172) rfl rfl rfl ?_
                   refine l_r (r_cmp rfl rfl rfl) rfl ?_
                   refine l_on (dj := 172) rfl rfl rfl ?_
                   refine l_r (r_move rfl) rfl ?_
                   refine l_part (dj := 178) rfl (fun hc87 => ?_) (fun hc87 => ?_)
                   ·
                    have hc87p := beq_iff_eq.1 hc87
                    refine l_on (dj := 178) rfl rfl rfl ?_
                    refine l_r (r_field rfl fo32_4) rfl ?_
                    refine l_on (dj := 178) rfl rfl rfl ?_
                    refine l_r (r_load1p rfl hs73 (Repl.there Repl.here) ag3 rfl) rfl ?_
                    refine l_on (dj := 178) rfl rfl rfl ?_
                    refine l_r (r_field rfl fo32_4) rfl ?_
                    refine l_on (dj := 178) rfl rfl rfl ?_
                    refine l_r (r_load1p rfl hs73 Repl.here ag3 rfl) rfl ?_
                    refine l_on (dj := 178) rfl rfl rfl ?_
                    refine l_r (r_cmp rfl rfl rfl) rfl ?_
                    refine l_on (dj := 172) rfl rfl rfl ?_
                    refine l_r (r_pick_t rfl rfl) rfl ?_
                    refine l_on (dj := 131) rfl rfl rfl ?_
                    refine l_r (r_pick_f rfl rfl) rfl ?_
                    refine l_r (r_pick_t rfl rfl) rfl ?_
                    refine l_nil ?_
                    refine s_part (dj := 186) rfl (fun hc88 => ?_) (fun hc88 => ?_)
                    ·
                     have hc88p := beq_iff_eq.1 hc88
                     refine s_then rfl ?_
                     refine s_seq ?_
                     refine s_region ?_
                     refine l_r (r_assign rfl) rfl ?_
                     refine l_nil ?_
                     refine s_ret ?_
                     exact q_done (.inr rfl) (.tmp rfl .nil) ⟨rfl, hs73.toExt⟩
                    ·
                     have hc88p := beq_eq_false_iff_ne.1 hc88
                     refine s_else rfl ?_
                     refine s_skip ?_
                     refine s_mark ?_
                     refine s_region ?_
                     refine l_r (r_move rfl) rfl ?_
                     refine l_r (r_inc rfl (by omega)) rfl ?_
                     refine l_r (r_assign rfl) rfl ?_
                     refine l_nil ?_
                     refine s_again ?_
                     exact ⟨_, [(9, .int .i64 (((k1 + 1) : Nat) : Int)), (1, .slice A ps.length c), (2, .pointer (some ⟨b2, 0, none⟩)), (7, .int .i64 (((k : Nat) : Int))), (8, .pointer (some ⟨b8, 0, none⟩))], by omega, (.cons rfl (.cons rfl (.cons rfl (.cons rfl (.cons rfl .nil))))), ⟨(k1 + 1), rfl, rfl, by omega, (fun j y hj hy => by
                           by_cases e : j = k1
                           · subst e; rw [e71h] at hy; injection hy with hy; subst hy; exact (fun h => by obtain ⟨hq, h⟩ := h; first | exact absurd hq (by assumption) | omega)
                           · exact hD j y (by omega) hy), hs73.tail⟩⟩
                   ·
                    have hc87p := beq_eq_false_iff_ne.1 hc87
                    refine l_off (dj := 178) (b := false) rfl rfl rfl rfl rfl ?_
                    refine l_off (dj := 178) (b := false) rfl rfl rfl rfl rfl ?_
                    refine l_off (dj := 178) (b := false) rfl rfl rfl rfl rfl ?_
                    refine l_off (dj := 178) (b := false) rfl rfl rfl rfl rfl ?_
                    refine l_off (dj := 178) (b := false) rfl rfl rfl rfl rfl ?_
                    refine l_on (dj := 172) rfl rfl rfl ?_
                    refine l_r (r_pick_f rfl rfl) rfl ?_
                    refine l_on (dj := 131) rfl rfl rfl ?_
                    refine l_r (r_pick_f rfl rfl) rfl ?_
                    refine l_r (r_pick_t rfl rfl) rfl ?_
                    refine l_nil ?_
                    refine s_else rfl ?_
                    refine s_skip ?_
                    refine s_mark ?_
                    refine s_region ?_
                    refine l_r (r_move rfl) rfl ?_
                    refine l_r (r_inc rfl (by omega)) rfl ?_
                    refine l_r (r_assign rfl) rfl ?_
                    refine l_nil ?_
                    refine s_again ?_
                    exact ⟨_, [(9, .int .i64 (((k1 + 1) : Nat) : Int)), (1, .slice A ps.length c), (2, .pointer (some ⟨b2, 0, none⟩)), (7, .int .i64 (((k : Nat) : Int))), (8, .pointer (some ⟨b8, 0, none⟩))], by omega, (.cons rfl (.cons rfl (.cons rfl (.cons rfl (.cons rfl .nil))))), ⟨(k1 + 1), rfl, rfl, by omega, (fun j y hj hy => by
                          by_cases e : j = k1
                          · subst e; rw [e71h] at hy; injection hy with hy; subst hy; exact (fun h => by obtain ⟨hq, h⟩ := h; first | exact absurd hq (by assumption) | omega)
                          · exact hD j y (by omega) hy), hs73.tail⟩⟩
                 ·
                  have hc85p := beq_eq_false_iff_ne.1 hc85
                  refine l_off (dj := 164) (b := false) rfl rfl rfl rfl rfl ?_
                  refine l_off (dj := 164) (b := false) rfl rfl rfl rfl rfl ?_
                  refine l_off (dj := 164) (b := false) rfl rfl rfl rfl rfl ?_
                  refine l_off (dj := 164) (b := false) rfl rfl rfl rfl rfl ?_
                  refine l_off (dj := 164) (b := false) rfl rfl rfl rfl rfl ?_
                  refine l_on (dj := 158) rfl rfl rfl ?_
                  refine l_r (r_pick_f rfl rfl) rfl ?_
                  refine l_on (dj := 131) rfl rfl rfl ?_
                  refine l_r (r_pick_f rfl rfl) rfl ?_
                  refine l_on (dj := 131) rfl rfl rfl ?_
                  refine l_r (r_move rfl) rfl ?_
                  refine l_on (dj := 172) rfl rfl rfl ?_
                  refine l_r (r_field rfl fo32_3) rfl ?_
                  refine l_on (dj := 172) rfl rfl rfl ?_
                  refine l_r (r_load1p rfl hs73 (Repl.there Repl.here) ag3 rfl) rfl ?_
                  refine l_on (dj := 172) rfl rfl rfl ?_
                  refine l_r (r_field rfl fo32_3) rfl ?_
                  refine l_on (dj := 172) rfl rfl rfl ?_
                  refine l_r (r_load1p rfl hs73 Repl.here ag3 rfl) rfl ?_
                  refine l_on (dj := 172) rfl rfl rfl ?_
                  refine l_r (r_cmp rfl rfl rfl) rfl ?_
                  refine l_on (dj := 172) rfl rfl rfl ?_
                  refine l_r (r_move rfl) rfl ?_
                  refine l_part (dj := 178) rfl (fun hc89 => ?_) (fun hc89 => ?_)
                  ·
                   have hc89p := beq_iff_eq.1 hc89
                   refine l_on (dj := 178) rfl rfl rfl ?_
                   refine l_r (r_field rfl fo32_4) rfl ?_
                   refine l_on (dj := 178) rfl rfl rfl ?_
                   refine l_r (r_load1p rfl hs73 (Repl.there Repl.here) ag3 rfl) rfl ?_
                   refine l_on (dj := 178) rfl rfl rfl ?_
                   refine l_r (r_field rfl fo32_4) rfl ?_
                   refine l_on (dj := 178) rfl rfl rfl ?_
                   refine l_r (r_load1p rfl hs73 Repl.here ag3 rfl) rfl ?_
                   refine l_on (dj := 178) rfl rfl rfl ?_
                   refine l_r (r_cmp rfl rfl rfl) rfl ?_
                   refine l_on (dj := 172) rfl rfl rfl ?_
                   refine l_r (r_pick_t rfl rfl) rfl ?_
                   refine l_on (dj := 131) rfl rfl rfl ?_
                   refine l_r (r_pick_f rfl rfl) rfl ?_
                   refine l_r (r_pick_t rfl rfl) rfl ?_
                   refine l_nil ?_
                   refine s_part (dj := 186) rfl (fun hc90 => ?_) (fun hc90 => ?_)
                   ·
                    have hc90p := beq_iff_eq.1 hc90
                    refine s_then rfl ?_
                    refine s_seq ?_
                    refine s_region ?_
                    refine l_r (r_assign rfl) rfl ?_
                    refine l_nil ?_
                    refine s_ret ?_
                    exact q_done (.inr rfl) (.tmp rfl .nil) ⟨rfl, hs73.toExt⟩
                   ·
                    have hc90p := beq_eq_false_iff_ne.1 hc90
                    refine s_else rfl ?_
                    refine s_skip ?_
                    refine s_mark ?_
                    refine s_region ?_
                    refine l_r (r_move rfl) rfl ?_
                    refine l_r (r_inc rfl (by omega)) rfl ?_
                    refine l_r (r_assign rfl) rfl ?_
                    refine l_nil ?_
                    refine s_again ?_
                    exact ⟨_, [(9, .int .i64 (((k1 + 1) : Nat) : Int)), (1, .slice A ps.length c), (2, .pointer (some ⟨b2, 0, none⟩)), (7, .int .i64 (((k : Nat) : Int))), (8, .pointer (some ⟨b8, 0, none⟩))], by omega, (.cons rfl (.cons rfl (.cons rfl (.cons rfl (.cons rfl .nil))))), ⟨(k1 + 1), rfl, rfl, by omega, (fun j y hj hy => by
                          by_cases e : j = k1
                          · subst e; rw [e71h] at hy; injection hy with hy; subst hy; exact (fun h => by obtain ⟨hq, h⟩ := h; first | exact absurd hq (by assumption) | omega)
                          · exact hD j y (by omega) hy), hs73.tail⟩⟩
                  ·
                   have hc89p := beq_eq_false_iff_ne.1 hc89
                   refine l_off (dj := 178) (b := false) rfl rfl rfl rfl rfl ?_
                   refine l_off (dj := 178) (b := false) rfl rfl rfl rfl rfl ?_
                   refine l_off (dj := 178) (b := false) rfl rfl rfl rfl rfl ?_
                   refine l_off (dj := 178) (b := false) rfl rfl rfl rfl rfl ?_
                   refine l_off (dj := 178) (b := false) rfl rfl rfl rfl rfl ?_
                   refine l_on (dj := 172) rfl rfl rfl ?_
                   refine l_r (r_pick_f rfl rfl) rfl ?_
                   refine l_on (dj := 131) rfl rfl rfl ?_
                   refine l_r (r_pick_f rfl rfl) rfl ?_
                   refine l_r (r_pick_t rfl rfl) rfl ?_
                   refine l_nil ?_
                   refine s_else rfl ?_
                   refine s_skip ?_
                   refine s_mark ?_
                   refine s_region ?_
                   refine l_r (r_move rfl) rfl ?_
                   refine l_r (r_inc rfl (by omega)) rfl ?_
                   refine l_r (r_assign rfl) rfl ?_
                   refine l_nil ?_
                   refine s_again ?_
                   exact ⟨_, [(9, .int .i64 (((k1 + 1) : Nat) : Int)), (1, .slice A ps.length c), (2, .pointer (some ⟨b2, 0, none⟩)), (7, .int .i64 (((k : Nat) : Int))), (8, .pointer (some ⟨b8, 0, none⟩))], by omega, (.cons rfl (.cons rfl (.cons rfl (.cons rfl (.cons rfl .nil))))), ⟨(k1 + 1), rfl, rfl, by omega, (fun j y hj hy => by
                         by_cases e : j = k1
                         · subst e; rw [e71h] at hy; injection hy with hy; subst hy; exact (fun h => by obtain ⟨hq, h⟩ := h; first | exact absurd hq (by assumption) | omega)
                         · exact hD j y (by omega) hy), hs73.tail⟩⟩
              ·
               have hc75p := beq_eq_false_iff_ne.1 hc75
               refine l_off (dj := 137) (b := false) rfl rfl rfl rfl rfl ?_
               refine l_off (dj := 137) (b := false) rfl rfl rfl rfl rfl ?_
               refine l_off (dj := 137) (b := false) rfl rfl rfl rfl rfl ?_
               refine l_off (dj := 137) (b := false) rfl rfl rfl rfl rfl ?_
               refine l_off (dj := 137) (b := false) rfl rfl rfl rfl rfl ?_
               refine l_on (dj := 131) rfl rfl rfl ?_
               refine l_r (r_pick_f rfl rfl) rfl ?_
               refine l_on (dj := 131) rfl rfl rfl ?_
               refine l_r (r_move rfl) rfl ?_
               refine l_on (dj := 144) rfl rfl rfl ?_
               refine l_r (r_field rfl fo32_1) rfl ?_
               refine l_on (dj := 144) rfl rfl rfl ?_
               refine l_r (r_load1p rfl hs73 (Repl.there Repl.here) ag3 rfl) rfl ?_
               refine l_on (dj := 144) rfl rfl rfl ?_
               refine l_r (r_field rfl fo32_3) rfl ?_
               refine l_on (dj := 144) rfl rfl rfl ?_
               refine l_r (r_load1p rfl hs73 Repl.here ag3 rfl) rfl ?_
               refine l_on (dj := 144) rfl rfl rfl ?_
               refine l_r (r_cmp rfl rfl rfl) rfl ?_
               refine l_on (dj := 144) rfl rfl rfl ?_
               refine l_r (r_move rfl) rfl ?_
               refine l_part (dj := 150) rfl (fun hc91 => ?_) (fun hc91 => ?_)
               ·
                have hc91p := beq_iff_eq.1 hc91
                refine l_on (dj := 150) rfl rfl rfl ?_
                refine l_r (r_field rfl fo32_2) rfl ?_
                refine l_on (dj := 150) rfl rfl rfl ?_
                refine l_r (r_load1p rfl hs73 (Repl.there Repl.here) ag3 rfl) rfl ?_
                refine l_on (dj := 150) rfl rfl rfl ?_
                refine l_r (r_field rfl fo32_4) rfl ?_
                refine l_on (dj := 150) rfl rfl rfl ?_
                refine l_r (r_load1p rfl hs73 Repl.here ag3 rfl) rfl ?_
                refine l_on (dj := 150) rfl rfl rfl ?_
                refine l_r (r_cmp rfl rfl rfl) rfl ?_
                refine l_on (dj := 144) rfl rfl rfl ?_
                refine l_r (r_pick_t rfl rfl) rfl ?_
                refine l_on (dj := 131) rfl rfl rfl ?_
                refine l_r (r_pick_f rfl rfl) rfl ?_
                refine l_on (dj := 131) rfl rfl rfl ?_
                refine l_r (r_move rfl) rfl ?_
                refine l_part (dj := 158) rfl (fun hc92 => ?_) (fun hc92 => ?_)
                ·
                 have hc92p := beq_iff_eq.1 hc92
                 refine l_off (dj := 158) (b := true) rfl rfl rfl rfl rfl ?_
                 refine l_off (dj := 158) (b := true) rfl rfl rfl rfl rfl ?_
                 refine l_off (dj := 158) (b := true) rfl rfl rfl rfl rfl ?_
                 refine l_off (dj := 158) (b := true) rfl rfl rfl rfl rfl ?_
                 refine l_off (dj := 158) (b := true) rfl rfl rfl rfl rfl ?_
                 refine l_off (dj := 158) (b := true) rfl rfl rfl rfl rfl ?_
                 refine l_offu (dj := 164) rfl rfl rfl rfl ?_
                 refine l_offu (dj := 164) rfl rfl rfl rfl ?_
                 refine l_offu (dj := 164) rfl rfl rfl rfl ?_
                 refine l_offu (dj := 164) rfl rfl rfl rfl ?_
                 refine l_offu (dj := 164) rfl rfl rfl rfl ?_
                 refine l_off (dj := 158) (b := true) rfl rfl rfl rfl rfl ?_
                 refine l_on (dj := 131) rfl rfl rfl ?_
                 refine l_r (r_pick_t rfl rfl) rfl ?_
                 refine l_on (dj := 131) rfl rfl rfl ?_
                 refine l_r (r_move rfl) rfl ?_
                 refine l_off (dj := 172) (b := true) rfl rfl rfl rfl rfl ?_
                 refine l_off (dj := 172) (b := true) rfl rfl rfl rfl rfl ?_
                 refine l_off (dj := 172) (b := true) rfl rfl rfl rfl rfl ?_
                 refine l_off (dj := 172) (b := true) rfl rfl rfl rfl rfl ?_
                 refine l_off (dj := 172) (b := true) rfl rfl rfl rfl rfl ?_
                 refine l_off (dj := 172) (b := true) rfl rfl rfl rfl rfl ?_
                 refine l_offu (dj := 178) rfl rfl rfl rfl ?_
                 refine l_offu (dj := 178) rfl rfl rfl rfl ?_
                 refine l_offu (dj := 178) rfl rfl rfl rfl ?_
                 refine l_offu (dj := 178) rfl rfl rfl rfl ?_
                 refine l_offu (dj := 178) rfl rfl rfl rfl ?_
                 refine l_off (dj := 172) (b := true) rfl rfl rfl rfl rfl ?_
                 refine l_on (dj := 131) rfl rfl rfl ?_
                 refine l_r (r_pick_t rfl rfl) rfl ?_
                 refine l_r (r_pick_t rfl rfl) rfl ?_
                 refine l_nil ?_
                 refine s_then rfl ?_
                 refine s_seq ?_
                 refine s_region ?_
                 refine l_r (r_assign rfl) rfl ?_
                 refine l_nil ?_
                 refine s_ret ?_
                 exact q_done (.inr rfl) (.tmp rfl .nil) ⟨rfl, hs73.toExt⟩
                ·
                 have hc92p := beq_eq_false_iff_ne.1 hc92
                 refine l_on (dj := 158) rfl rfl rfl ?_
                 refine l_r (r_field rfl fo32_3) rfl ?_
                 refine l_on (dj := 158) rfl rfl rfl ?_
                 refine l_r (r_load1p rfl hs73 (Repl.there Repl.here) ag3 rfl) rfl ?_
                 refine l_on (dj := 158) rfl rfl rfl ?_
                 refine l_r (r_field rfl fo32_1) rfl ?_
                 refine l_on (dj := 158) rfl rfl rfl ?_
                 refine l_r (r_load1p rfl hs73 Repl.here ag3 rfl) rfl ?_
                 refine l_on (dj := 158) rfl rfl rfl ?_
                 refine l_r (r_cmp rfl rfl rfl) rfl ?_
                 refine l_on (dj := 158) rfl rfl rfl ?_
                 refine l_r (r_move rfl) rfl ?_
                 refine l_part (dj := 164) rfl (fun hc93 => ?_) (fun hc93 => ?_)
                 ·
                  have hc93p := beq_iff_eq.1 hc93
                  refine l_on (dj := 164) rfl rfl rfl ?_
                  refine l_r (r_field rfl fo32_4) rfl ?_
                  refine l_on (dj := 164) rfl rfl rfl ?_
                  refine l_r (r_load1p rfl hs73 (Repl.there Repl.here) ag3 rfl) rfl ?_
                  refine l_on (dj := 164) rfl rfl rfl ?_
                  refine l_r (r_field rfl fo32_2) rfl ?_
                  refine l_on (dj := 164) rfl rfl rfl ?_
                  refine l_r (r_load1p rfl hs73 Repl.here ag3 rfl) rfl ?_
                  refine l_on (dj := 164) rfl rfl rfl ?_
                  refine l_r (r_cmp rfl rfl rfl) rfl ?_
                  refine l_on (dj := 158) rfl rfl rfl ?_
                  refine l_r (r_pick_t rfl rfl) rfl ?_
                  refine l_on (dj := 131) rfl rfl rfl ?_
                  refine l_r (r_pick_f rfl rfl) rfl ?_
                  refine l_on (dj := 131) rfl rfl rfl ?_
                  refine l_r (r_move rfl) rfl ?_
                  refine l_part (dj := 172) rfl (fun hc94 => ?_) (fun hc94 => ?_)
                  ·
                   have hc94p := beq_iff_eq.1 hc94
                   refine l_off (dj := 172) (b := true) rfl rfl rfl rfl rfl ?_
                   refine l_off (dj := 172) (b := true) rfl rfl rfl rfl rfl ?_
                   refine l_off (dj := 172) (b := true) rfl rfl rfl rfl rfl ?_
                   refine l_off (dj := 172) (b := true) rfl rfl rfl rfl rfl ?_
                   refine l_off (dj := 172) (b := true) rfl rfl rfl rfl rfl ?_
                   refine l_off (dj := 172) (b := true) rfl rfl rfl rfl rfl ?_
                   refine l_offu (dj := 178) rfl rfl rfl rfl ?_
                   refine l_offu (dj := 178) rfl rfl rfl rfl ?_
                   refine l_offu (dj := 178) rfl rfl rfl rfl ?_
                   refine l_offu (dj := 178) rfl rfl rfl rfl ?_
                   refine l_offu (dj := 178) rfl rfl rfl rfl ?_
                   refine l_off (dj := 172) (b := true) rfl rfl rfl rfl rfl ?_
                   refine l_on (dj := 131) rfl rfl rfl ?_
                   refine l_r (r_pick_t rfl rfl) rfl ?_
                   refine l_r (r_pick_t rfl rfl) rfl ?_
                   refine l_nil ?_
                   refine s_then rfl ?_
                   refine s_seq ?_
                   refine s_region ?_
                   refine l_r (r_assign rfl) rfl ?_
                   refine l_nil ?_
                   refine s_ret ?_
                   exact q_done (.inr rfl) (.tmp rfl .nil) ⟨rfl, hs73.toExt⟩
                  ·
                   have hc94p := beq_eq_false_iff_ne.1 hc94
                   refine l_on (dj := 172) rfl rfl rfl ?_
                   refine l_r (r_field rfl fo32_3) rfl ?_
                   refine l_on (dj := 172) rfl rfl rfl ?_
                   refine l_r (r_load1p rfl hs73 (Repl.there Repl.here) ag3 rfl) rfl ?_
                   refine l_on (dj := 172) rfl rfl rfl ?_
                   refine l_r (r_field rfl fo32_3) rfl ?_
                   refine l_on (dj := 172) rfl rfl rfl ?_
                   refine l_r (r_load1p rfl hs73 Repl.here ag3 rfl) rfl ?_
                   refine l_on (dj := 172) rfl rfl rfl ?_
                   refine l_r (r_cmp rfl rfl rfl) rfl ?_
                   refine l_on (dj := 172) rfl rfl rfl ?_
                   refine l_r (r_move rfl) rfl ?_
                   refine l_part (dj := 178) rfl (fun hc95 => ?_) (fun hc95 => ?_)
                   ·
                    have hc95p := beq_iff_eq.1 hc95
                    refine l_on (dj := 178) rfl rfl rfl ?_
                    refine l_r (r_field rfl fo32_4) rfl ?_
                    refine l_on (dj := 178) rfl rfl rfl ?_
                    refine l_r (r_load1p rfl hs73 (Repl.there Repl.here) ag3 rfl) rfl ?_
                    refine l_on (dj := 178) rfl rfl rfl ?_
                    refine l_r (r_field rfl fo32_4) rfl ?_
                    refine l_on (dj := 178) rfl rfl rfl ?_
                    refine l_r (r_load1p rfl hs73 Repl.here ag3 rfl) rfl ?_
                    refine l_on (dj := 178) rfl rfl rfl ?_
                    refine l_r (r_cmp rfl rfl rfl) rfl ?_
                    refine l_on (dj := 172) rfl rfl rfl ?_
                    refine l_r (r_pick_t rfl rfl) rfl ?_
                    refine l_on (dj := 131) rfl rfl rfl ?_
                    refine l_r (r_pick_f rfl rfl) rfl ?_
                    refine l_r (r_pick_t rfl rfl) rfl ?_
                    refine l_nil ?_
                    refine s_part (dj := 186) rfl (fun hc96 => ?_) (fun hc96 => ?_)
                    ·
                     have hc96p := beq_iff_eq.1 hc96
                     refine s_then rfl ?_
                     refine s_seq ?_
                     refine s_region ?_
                     refine l_r (r_assign rfl) rfl ?_
                     refine l_nil ?_
                     refine s_ret ?_
                     exact q_done (.inr rfl) (.tmp rfl .nil) ⟨rfl, hs73.toExt⟩
                    ·
                     have hc96p := beq_eq_false_iff_ne.1 hc96
                     refine s_else rfl ?_
                     refine s_skip ?_
                     refine s_mark ?_
                     refine s_region ?_
                     refine l_r (r_move rfl) rfl ?_
                     refine l_r (r_inc rfl (by omega)) rfl ?_
                     refine l_r (r_assign rfl) rfl ?_
                     refine l_nil ?_
                     refine s_again ?_
                     exact ⟨_, [(9, .int .i64 (((k1 + 1) : Nat) : Int)), (1, .slice A ps.length c), (2, .pointer (some ⟨b2, 0, none⟩)), (7, .int .i64 (((k : Nat) : Int))), (8, .pointer (some ⟨b8, 0, none⟩))], by omega, (.cons rfl (.cons rfl (.cons rfl (.cons rfl (.cons rfl .nil))))), ⟨(k1 + 1), rfl, rfl, by omega, (fun j y hj hy => by
                           by_cases e : j = k1
                           · subst e; rw [e71h] at hy; injection hy with hy; subst hy; exact (fun h => by obtain ⟨hq, h⟩ := h; first | exact absurd hq (by assumption) | omega)
                           · exact hD j y (by omega) hy), hs73.tail⟩⟩
                   ·
                    have hc95p := beq_eq_false_iff_ne.1 hc95
                    refine l_off (dj := 178) (b := false) rfl rfl rfl rfl rfl ?_
                    refine l_off (dj := 178) (b := false) rfl rfl rfl rfl rfl ?_
                    refine l_off (dj := 178) (b := false) rfl rfl rfl rfl rfl ?_
                    refine l_off (dj := 178) (b := false) rfl rfl rfl rfl rfl ?_
                    refine l_off (dj := 178) (b := false) rfl rfl rfl rfl rfl ?_
                    refine l_on (dj := 172) rfl rfl rfl ?_
                    refine l_r (r_pick_f rfl rfl) rfl ?_
                    refine l_on (dj := 131) rfl rfl rfl ?_
                    refine l_r (r_pick_f rfl rfl) rfl ?_
                    refine l_r (r_pick_t rfl rfl) rfl ?_
                    refine l_nil ?_
                    refine s_else rfl ?_
                    refine s_skip ?_
                    refine s_mark ?_
                    refine s_region ?_
                    refine l_r (r_move rfl) rfl ?_
                    refine l_r (r_inc rfl (by omega)) rfl ?_
                    refine l_r (r_assign rfl) rfl ?_
                    refine l_nil ?_
                    refine s_again ?_
                    exact ⟨_, [(9, .int .i64 (((k1 + 1) : Nat) : Int)), (1, .slice A ps.length c), (2, .pointer (some ⟨b2, 0, none⟩)), (7, .int .i64 (((k : Nat) : Int))), (8, .pointer (some ⟨b8, 0, none⟩))], by omega, (.cons rfl (.cons rfl (.cons rfl (.cons rfl (.cons rfl .nil))))), ⟨(k1 + 1), rfl, rfl, by omega, (fun j y hj hy => by
                          by_cases e : j = k1
                          · subst e; rw [e71h] at hy; injection hy with hy; subst hy; exact (fun h => by obtain ⟨hq, h⟩ := h; first | exact absurd hq (by assumption) | omega)
                          · exact hD j y (by omega) hy), hs73.tail⟩⟩
                 ·
                  have hc93p := beq_eq_false_iff_ne.1 hc93
                  refine l_off (dj := 164) (b := false) rfl rfl rfl rfl rfl ?_
                  refine l_off (dj := 164) (b := false) rfl rfl rfl rfl rfl ?_
                  refine l_off (dj := 164) (b := false) rfl rfl rfl rfl rfl ?_
                  refine l_off (dj := 164) (b := false) rfl rfl rfl rfl rfl ?_
                  refine l_off (dj := 164) (b := false) rfl rfl rfl rfl rfl ?_
                  refine l_on (dj := 158) rfl rfl rfl ?_
                  refine l_r (r_pick_f rfl rfl) rfl ?_
                  refine l_on (dj := 131) rfl rfl rfl ?_
                  refine l_r (r_pick_f rfl rfl) rfl ?_
                  refine l_on (dj := 131) rfl rfl rfl ?_
                  refine l_r (r_move rfl) rfl ?_
                  refine l_on (dj := 172) rfl rfl rfl ?_
                  refine l_r (r_field rfl fo32_3) rfl ?_
                  refine l_on (dj := 172) rfl rfl rfl ?_
                  refine l_r (r_load1p rfl hs73 (Repl.there Repl.here) ag3 rfl) rfl ?_
                  refine l_on (dj := 172) rfl rfl rfl ?_
                  refine l_r (r_field rfl fo32_3) rfl ?_
                  refine l_on (dj := 172) rfl rfl rfl ?_
                  refine l_r (r_load1p rfl hs73 Repl.here ag3 rfl) rfl ?_
                  refine l_on (dj := 172) rfl rfl rfl ?_
                  refine l_r (r_cmp rfl rfl rfl) rfl ?_
                  refine l_on (dj := 172) rfl rfl rfl ?_
                  refine l_r (r_move rfl) rfl ?_
                  refine l_part (dj := 178) rfl (fun hc97 => ?_) (fun hc97 => ?_)
                  ·
                   have hc97p := beq_iff_eq.1 hc97
                   refine l_on (dj := 178) rfl rfl rfl ?_
                   refine l_r (r_field rfl fo32_4) rfl ?_
                   refine l_on (dj := 178) rfl rfl rfl ?_
                   refine l_r (r_load1p rfl hs73 (Repl.there Repl.here) ag3 rfl) rfl ?_
                   refine l_on (dj := 178) rfl rfl rfl ?_
                   refine l_r (r_field rfl fo32_4) rfl ?_
                   refine l_on (dj := 178) rfl rfl rfl ?_
                   refine l_r (r_load1p rfl hs73 Repl.here ag3 rfl) rfl ?_
                   refine l_on (dj := 178) rfl rfl rfl ?_
                   refine l_r (r_cmp rfl rfl rfl) rfl ?_
                   refine l_on (dj := 172) rfl rfl rfl ?_
                   refine l_r (r_pick_t rfl rfl) rfl ?_
                   refine l_on (dj := 131) rfl rfl rfl ?_
                   refine l_r (r_pick_f rfl rfl) rfl ?_
                   refine l_r (r_pick_t rfl rfl) rfl ?_
                   refine l_nil ?_
                   refine s_part (dj := 186) rfl (fun hc98 => ?_) (fun hc98 => ?_)
                   ·
                    have hc98p := beq_iff_eq.1 hc98
                    refine s_then rfl ?_
                    refine s_seq ?_
                    refine s_region ?_
                    refine l_r (r_assign rfl) rfl ?_
                    refine l_nil ?_
                    refine s_ret ?_
                    exact q_done (.inr rfl) (.tmp rfl .nil) ⟨rfl, hs73.toExt⟩
                   ·
                    have hc98p := beq_eq_false_iff_ne.1 hc98
                    refine s_else rfl ?_
                    refine s_skip ?_
                    refine s_mark ?_
                    refine s_region ?_
                    refine l_r (r_move rfl) rfl ?_
                    refine l_r (r_inc rfl (by omega)) rfl ?_
                    refine l_r (r_assign rfl) rfl ?_
                    refine l_nil ?_
                    refine s_again ?_
                    exact ⟨_, [(9, .int .i64 (((k1 + 1) : Nat) : Int)), (1, .slice A ps.length c), (2, .pointer (some ⟨b2, 0, none⟩)), (7, .int .i64 (((k : Nat) : Int))), (8, .pointer (some ⟨b8, 0, none⟩))], by omega, (.cons rfl (.cons rfl (.cons rfl (.cons rfl (.cons rfl .nil))))), ⟨(k1 + 1), rfl, rfl, by omega, (fun j y hj hy => by
                          by_cases e : j = k1
                          · subst e; rw [e71h] at hy; injection hy with hy; subst hy; exact (fun h => by obtain ⟨hq, h⟩ := h; first | exact absurd hq (by assumption) | omega)
                          · exact hD j y (by omega) hy), hs73.tail⟩⟩
                  ·
                   have hc97p := beq_eq_false_iff_ne.1 hc97
                   refine l_off (dj := 178) (b := false) rfl rfl rfl rfl rfl ?_
                   refine l_off (dj := 178) (b := false) rfl rfl rfl rfl rfl ?_
                   refine l_off (dj := 178) (b := false) rfl rfl rfl rfl rfl ?_
                   refine l_off (dj := 178) (b := false) rfl rfl rfl rfl rfl ?_
                   refine l_off (dj := 178) (b := false) rfl rfl rfl rfl rfl ?_
                   refine l_on (dj := 172) rfl rfl rfl ?_
                   refine l_r (r_pick_f rfl rfl) rfl ?_
                   refine l_on (dj := 131) rfl rfl rfl ?_
                   refine l_r (r_pick_f rfl rfl) rfl ?_
                   refine l_r (r_pick_t rfl rfl) rfl ?_
                   refine l_nil ?_
                   refine s_else rfl ?_
                   refine s_skip ?_
                   refine s_mark ?_
                   refine s_region ?_
                   refine l_r (r_move rfl) rfl ?_
                   refine l_r (r_inc rfl (by omega)) rfl ?_
                   refine l_r (r_assign rfl) rfl ?_
                   refine l_nil ?_
                   refine s_again ?_
                   exact ⟨_, [(9, .int .i64 (((k1 + 1) : Nat) : Int)), (1, .slice A ps.length c), (2, .pointer (some ⟨b2, 0, none⟩)), (7, .int .i64 (((k : Nat) : Int))), (8, .pointer (some ⟨b8, 0, none⟩))], by omega, (.cons rfl (.cons rfl (.cons rfl (.cons rfl (.cons rfl .nil))))), ⟨(k1 + 1), rfl, rfl, by omega, (fun j y hj hy => by
                         by_cases e : j = k1
                         · subst e; rw [e71h] at hy; injection hy with hy; subst hy; exact (fun h => by obtain ⟨hq, h⟩ := h; first | exact absurd hq (by assumption) | omega)
                         · exact hD j y (by omega) hy), hs73.tail⟩⟩
               ·
                have hc91p := beq_eq_false_iff_ne.1 hc91
                refine l_off (dj := 150) (b := false) rfl rfl rfl rfl rfl ?_
                refine l_off (dj := 150) (b := false) rfl rfl rfl rfl rfl ?_
                refine l_off (dj := 150) (b := false) rfl rfl rfl rfl rfl ?_
                refine l_off (dj := 150) (b := false) rfl rfl rfl rfl rfl ?_
                refine l_off (dj := 150) (b := false) rfl rfl rfl rfl rfl ?_
                refine l_on (dj := 144) rfl rfl rfl ?_
                refine l_r (r_pick_f rfl rfl) rfl ?_
                refine l_on (dj := 131) rfl rfl rfl ?_
                refine l_r (r_pick_f rfl rfl) rfl ?_
                refine l_on (dj := 131) rfl rfl rfl ?_
                refine l_r (r_move rfl) rfl ?_
                refine l_on (dj := 158) rfl rfl rfl ?_
                refine l_r (r_field rfl fo32_3) rfl ?_
                refine l_on (dj := 158) rfl rfl rfl ?_
                refine l_r (r_load1p rfl hs73 (Repl.there Repl.here) ag3 rfl) rfl ?_
                refine l_on (dj := 158) rfl rfl rfl ?_
                refine l_r (r_field rfl fo32_1) rfl ?_
                refine l_on (dj := 158) rfl rfl rfl ?_
                refine l_r (r_load1p rfl hs73 Repl.here ag3 rfl) rfl ?_
                refine l_on (dj := 158) rfl rfl rfl ?_
                refine l_r (r_cmp rfl rfl rfl) rfl ?_
                refine l_on (dj := 158) rfl rfl rfl ?_
                refine l_r (r_move rfl) rfl ?_
                refine l_part (dj := 164) rfl (fun hc99 => ?_) (fun hc99 => ?_)
                ·
                 have hc99p := beq_iff_eq.1 hc99
                 refine l_on (dj := 164) rfl rfl rfl ?_
                 refine l_r (r_field rfl fo32_4) rfl ?_
                 refine l_on (dj := 164) rfl rfl rfl ?_
                 refine l_r (r_load1p rfl hs73 (Repl.there Repl.here) ag3 rfl) rfl ?_
                 refine l_on (dj := 164) rfl rfl rfl ?_
                 refine l_r (r_field rfl fo32_2) rfl ?_
                 refine l_on (dj := 164) rfl rfl rfl ?_
                 refine l_r (r_load1p rfl hs73 Repl.here ag3 rfl) rfl ?_
                 refine l_on (dj := 164) rfl rfl rfl ?_
                 refine l_r (r_cmp rfl rfl rfl) rfl ?_
                 refine l_on (dj := 158) rfl rfl rfl ?_
                 refine l_r (r_pick_t rfl rfl) rfl ?_
                 refine l_on (dj := 131) rfl rfl rfl ?_
                 refine l_r (r_pick_f rfl rfl) rfl ?_
                 refine l_on (dj := 131) rfl rfl rfl ?_
                 refine l_r (r_move rfl) rfl ?_
                 refine l_part (dj := 172) rfl (fun hc100 => ?_) (fun hc100 => ?_)
                 ·
                  have hc100p := beq_iff_eq.1 hc100
                  refine l_off (dj := 172) (b := true) rfl rfl rfl rfl rfl ?_
                  refine l_off (dj := 172) (b := true) rfl rfl rfl rfl rfl ?_
                  refine l_off (dj := 172) (b := true) rfl rfl rfl rfl rfl ?_
                  refine l_off (dj := 172) (b := true) rfl rfl rfl rfl rfl ?_
                  refine l_off (dj := 172) (b := true) rfl rfl rfl rfl rfl ?_
                  refine l_off (dj := 172) (b := true) rfl rfl rfl rfl rfl ?_
                  refine l_offu (dj := 178) rfl rfl rfl rfl ?_
                  refine l_offu (dj := 178) rfl rfl rfl rfl ?_
                  refine l_offu (dj := 178) rfl rfl rfl rfl ?_
                  refine l_offu (dj := 178) rfl rfl rfl rfl ?_
                  refine l_offu (dj := 178) rfl rfl rfl rfl ?_
                  refine l_off (dj := 172) (b := true) rfl rfl rfl rfl rfl ?_
                  refine l_on (dj := 131) rfl rfl rfl ?_
                  refine l_r (r_pick_t rfl rfl) rfl ?_
                  refine l_r (r_pick_t rfl rfl) rfl ?_
                  refine l_nil ?_
                  refine s_then rfl ?_
                  refine s_seq ?_
                  refine s_region ?_
                  refine l_r (r_assign rfl) rfl ?_
                  refine l_nil ?_
                  refine s_ret ?_
                  exact q_done (.inr rfl) (.tmp rfl .nil) ⟨rfl, hs73.toExt⟩
                 ·
                  have hc100p := beq_eq_false_iff_ne.1 hc100
                  refine l_on (dj := 172) rfl rfl rfl ?_
                  refine l_r (r_field rfl fo32_3) rfl ?_
                  refine l_on (dj := 172) rfl rfl rfl ?_
                  refine l_r (r_load1p rfl hs73 (Repl.there Repl.here) ag3 rfl) rfl ?_
                  refine l_on (dj := 172) rfl rfl rfl ?_
                  refine l_r (r_field rfl fo32_3) rfl ?_
                  refine l_on (dj := 172) rfl rfl rfl ?_
                  refine l_r (r_load1p rfl hs73 Repl.here ag3 rfl) rfl ?_
                  refine l_on (dj := 172) rfl rfl rfl ?_
                  refine l_r (r_cmp rfl rfl rfl) rfl ?_
                  refine l_on (dj := 172) rfl rfl rfl ?_
                  refine l_r (r_move rfl) rfl ?_
                  refine l_part (dj := 178) rfl (fun hc101 => ?_) (fun hc101 => ?_)
                  ·
                   have hc101p := beq_iff_eq.1 hc101
                   refine l_on (dj := 178) rfl rfl rfl ?_
                   refine l_r (r_field rfl fo32_4) rfl ?_
                   refine l_on (dj := 178) rfl rfl rfl ?_
                   refine l_r (r_load1p rfl hs73 (Repl.there Repl.here) ag3 rfl) rfl ?_
                   refine l_on (dj := 178) rfl rfl rfl ?_
                   refine l_r (r_field rfl fo32_4) rfl ?_
                   refine l_on (dj := 178) rfl rfl rfl ?_
                   refine l_r (r_load1p rfl hs73 Repl.here ag3 rfl) rfl ?_
                   refine l_on (dj := 178) rfl rfl rfl ?_
                   refine l_r (r_cmp rfl rfl rfl) rfl ?_
                   refine l_on (dj := 172) rfl rfl rfl ?_
                   refine l_r (r_pick_t rfl rfl) rfl ?_
                   refine l_on (dj := 131) rfl rfl rfl ?_
                   refine l_r (r_pick_f rfl rfl) rfl ?_
                   refine l_r (r_pick_t rfl rfl) rfl ?_
                   refine l_nil ?_
                   refine s_part (dj := 186) rfl (fun hc102 => ?_) (fun hc102 => ?_)
                   ·
                    have hc102p := beq_iff_eq.1 hc102
                    refine s_then rfl ?_
                    refine s_seq ?_
                    refine s_region ?_
                    refine l_r (r_assign rfl) rfl ?_
                    refine l_nil ?_
                    refine s_ret ?_
                    exact q_done (.inr rfl) (.tmp rfl .nil) ⟨rfl, hs73.toExt⟩
                   ·
                    have hc102p := beq_eq_false_iff_ne.1 hc102
                    refine s_else rfl ?_
                    refine s_skip ?_
                    refine s_mark ?_
                    refine s_region ?_
                    refine l_r (r_move rfl) rfl ?_
                    refine l_r (r_inc rfl (by omega)) rfl ?_
                    refine l_r (r_assign rfl) rfl ?_
                    refine l_nil ?_
                    refine s_again ?_
                    exact ⟨_, [(9, .int .i64 (((k1 + 1) : Nat) : Int)), (1, .slice A ps.length c), (2, .pointer (some ⟨b2, 0, none⟩)), (7, .int .i64 (((k : Nat) : Int))), (8, .pointer (some ⟨b8, 0, none⟩))], by omega, (.cons rfl (.cons rfl (.cons rfl (.cons rfl (.cons rfl .nil))))), ⟨(k1 + 1), rfl, rfl, by omega, (fun j y hj hy => by
                          by_cases e : j = k1
                          · subst e; rw [e71h] at hy; injection hy with hy; subst hy; exact (fun h => by obtain ⟨hq, h⟩ := h; first | exact absurd hq (by assumption) | omega)
                          · exact hD j y (by omega) hy), hs73.tail⟩⟩
                  ·
                   have hc101p := beq_eq_false_iff_ne.1 hc101
                   refine l_off (dj := 178) (b := false) rfl rfl rfl rfl rfl ?_
                   refine l_off (dj := 178) (b := false) rfl rfl rfl rfl rfl ?_
                   refine l_off (dj := 178) (b := false) rfl rfl rfl rfl rfl ?_
                   refine l_off (dj := 178) (b := false) rfl rfl rfl rfl rfl ?_
                   refine l_off (dj := 178) (b := false) rfl rfl rfl rfl rfl ?_
                   refine l_on (dj := 172) rfl rfl rfl ?_
                   refine l_r (r_pick_f rfl rfl) rfl ?_
                   refine l_on (dj := 131) rfl rfl rfl ?_
                   refine l_r (r_pick_f rfl rfl) rfl ?_
                   refine l_r (r_pick_t rfl rfl) rfl ?_
                   refine l_nil ?_
                   refine s_else rfl ?_
                   refine s_skip ?_
                   refine s_mark ?_
                   refine s_region ?_
                   refine l_r (r_move rfl) rfl ?_
                   refine l_r (r_inc rfl (by omega)) rfl ?_
                   refine l_r (r_assign rfl) rfl ?_
                   refine l_nil ?_
                   refine s_again ?_
                   exact ⟨_, [(9, .int .i64 (((k1 + 1) : Nat) : Int)), (1, .slice A ps.length c), (2, .pointer (some ⟨b2, 0, none⟩)), (7, .int .i64 (((k : Nat) : Int))), (8, .pointer (some ⟨b8, 0, none⟩))], by omega, (.cons rfl (.cons rfl (.cons rfl (.cons rfl (.cons rfl .nil))))), ⟨(k1 + 1), rfl, rfl, by omega, (fun j y hj hy => by
                         by_cases e : j = k1
                         · subst e; rw [e71h] at hy; injection hy with hy; subst hy; exact (fun h => by obtain ⟨hq, h⟩ := h; first | exact absurd hq (by assumption) | omega)
                         · exact hD j y (by omega) hy), hs73.tail⟩⟩
                ·
                 have hc99p := beq_eq_false_iff_ne.1 hc99
                 refine l_off (dj := 164) (b := false) rfl rfl rfl rfl rfl ?_
                 refine l_off (dj := 164) (b := false) rfl rfl rfl rfl rfl ?_
                 refine l_off (dj := 164) (b := false) rfl rfl rfl rfl rfl ?_
                 refine l_off (dj := 164) (b := false) rfl rfl rfl rfl rfl ?_
                 refine l_off (dj := 164) (b := false) rfl rfl rfl rfl rfl ?_
                 refine l_on (dj := 158) rfl rfl rfl ?_
                 refine l_r (r_pick_f rfl rfl) rfl ?_
                 refine l_on (dj := 131) rfl rfl rfl ?_
                 refine l_r (r_pick_f rfl rfl) rfl ?_
                 refine l_on (dj := 131) rfl rfl rfl ?_
                 refine l_r (r_move rfl) rfl ?_
                 refine l_on (dj := 172) rfl rfl rfl ?_
                 refine l_r (r_field rfl fo32_3) rfl ?_
                 refine l_on (dj := 172) rfl rfl rfl ?_
                 refine l_r (r_load1p rfl hs73 (Repl.there Repl.here) ag3 rfl) rfl ?_
                 refine l_on (dj := 172) rfl rfl rfl ?_
                 refine l_r (r_field rfl fo32_3) rfl ?_
                 refine l_on (dj := 172) rfl rfl rfl ?_
                 refine l_r (r_load1p rfl hs73 Repl.here ag3 rfl) rfl ?_
                 refine l_on (dj := 172) rfl rfl rfl ?_
                 refine l_r (r_cmp rfl rfl rfl) rfl ?_
                 refine l_on (dj := 172) rfl rfl rfl ?_
                 refine l_r (r_move rfl) rfl ?_
                 refine l_part (dj := 178) rfl (fun hc103 => ?_) (fun hc103 => ?_)
                 ·
                  have hc103p := beq_iff_eq.1 hc103
                  refine l_on (dj := 178) rfl rfl rfl ?_
                  refine l_r (r_field rfl fo32_4) rfl ?_
                  refine l_on (dj := 178) rfl rfl rfl ?_
                  refine l_r (r_load1p rfl hs73 (Repl.there Repl.here) ag3 rfl) rfl ?_
                  refine l_on (dj := 178) rfl rfl rfl ?_
                  refine l_r (r_field rfl fo32_4) rfl ?_
                  refine l_on (dj := 178) rfl rfl rfl ?_
                  refine l_r (r_load1p rfl hs73 Repl.here ag3 rfl) rfl ?_
                  refine l_on (dj := 178) rfl rfl rfl ?_
                  refine l_r (r_cmp rfl rfl rfl) rfl ?_
                  refine l_on (dj := 172) rfl rfl rfl ?_
                  refine l_r (r_pick_t rfl rfl) rfl ?_
                  refine l_on (dj := 131) rfl rfl rfl ?_
                  refine l_r (r_pick_f rfl rfl) rfl ?_
                  refine l_r (r_pick_t rfl rfl) rfl ?_
                  refine l_nil ?_
                  refine s_part (dj := 186) rfl (fun hc104 => ?_) (fun hc104 => ?_)
                  ·
                   have hc104p := beq_iff_eq.1 hc104
                   refine s_then rfl ?_
                   refine s_seq ?_
                   refine s_region ?_
                   refine l_r (r_assign rfl) rfl ?_
                   refine l_nil ?_
                   refine s_ret ?_
                   exact q_done (.inr rfl) (.tmp rfl .nil) ⟨rfl, hs73.toExt⟩
                  ·
                   have hc104p := beq_eq_false_iff_ne.1 hc104
                   refine s_else rfl ?_
                   refine s_skip ?_
                   refine s_mark ?_
                   refine s_region ?_
                   refine l_r (r_move rfl) rfl ?_
                   refine l_r (r_inc rfl (by omega)) rfl ?_
                   refine l_r (r_assign rfl) rfl ?_
                   refine l_nil ?_
                   refine s_again ?_
                   exact ⟨_, [(9, .int .i64 (((k1 + 1) : Nat) : Int)), (1, .slice A ps.length c), (2, .pointer (some ⟨b2, 0, none⟩)), (7, .int .i64 (((k : Nat) : Int))), (8, .pointer (some ⟨b8, 0, none⟩))], by omega, (.cons rfl (.cons rfl (.cons rfl (.cons rfl (.cons rfl .nil))))), ⟨(k1 + 1), rfl, rfl, by omega, (fun j y hj hy => by
                         by_cases e : j = k1
                         · subst e; rw [e71h] at hy; injection hy with hy; subst hy; exact (fun h => by obtain ⟨hq, h⟩ := h; first | exact absurd hq (by assumption) | omega)
                         · exact hD j y (by omega) hy), hs73.tail⟩⟩
                 ·
                  have hc103p := beq_eq_false_iff_ne.1 hc103
                  refine l_off (dj := 178) (b := false) rfl rfl rfl rfl rfl ?_
                  refine l_off (dj := 178) (b := false) rfl rfl rfl rfl rfl ?_
                  refine l_off (dj := 178) (b := false) rfl rfl rfl rfl rfl ?_
                  refine l_off (dj := 178) (b := false) rfl rfl rfl rfl rfl ?_
                  refine l_off (dj := 178) (b := false) rfl rfl rfl rfl rfl ?_
                  refine l_on (dj := 172) rfl rfl rfl ?_
                  refine l_r (r_pick_f rfl rfl) rfl ?_
                  refine l_on (dj := 131) rfl rfl rfl ?_
                  refine l_r (r_pick_f rfl rfl) rfl ?_
                  refine l_r (r_pick_t rfl rfl) rfl ?_
                  refine l_nil ?_
                  refine s_else rfl ?_
                  refine s_skip ?_
                  refine s_mark ?_
                  refine s_region ?_
                  refine l_r (r_move rfl) rfl ?_
                  refine l_r (r_inc rfl (by omega)) rfl ?_
                  refine l_r (r_assign rfl) rfl ?_
                  refine l_nil ?_
                  refine s_again ?_
                  exact ⟨_, [(9, .int .i64 (((k1 + 1) : Nat) : Int)), (1, .slice A ps.length c), (2, .pointer (some ⟨b2, 0, none⟩)), (7, .int .i64 (((k : Nat) : Int))), (8, .pointer (some ⟨b8, 0, none⟩))], by omega, (.cons rfl (.cons rfl (.cons rfl (.cons rfl (.cons rfl .nil))))), ⟨(k1 + 1), rfl, rfl, by omega, (fun j y hj hy => by
                        by_cases e : j = k1
                        · subst e; rw [e71h] at hy; injection hy with hy; subst hy; exact (fun h => by obtain ⟨hq, h⟩ := h; first | exact absurd hq (by assumption) | omega)
                        · exact hD j y (by omega) hy), hs73.tail⟩⟩
             ·
              have hc74p := beq_eq_false_iff_ne.1 hc74
              refine l_off (dj := 131) (b := false) rfl rfl rfl rfl rfl ?_
              refine l_off (dj := 131) (b := false) rfl rfl rfl rfl rfl ?_
              refine l_off (dj := 131) (b := false) rfl rfl rfl rfl rfl ?_
              refine l_off (dj := 131) (b := false) rfl rfl rfl rfl rfl ?_
              refine l_off (dj := 131) (b := false) rfl rfl rfl rfl rfl ?_
              refine l_off (dj := 131) (b := false) rfl rfl rfl rfl rfl ?_
              refine l_offu (dj := 137) rfl rfl rfl rfl ?_
              refine l_offu (dj := 137) rfl rfl rfl rfl ?_
              refine l_offu (dj := 137) rfl rfl rfl rfl ?_
              refine l_offu (dj := 137) rfl rfl rfl rfl ?_
              refine l_offu (dj := 137) rfl rfl rfl rfl ?_
              refine l_off (dj := 131) (b := false) rfl rfl rfl rfl rfl ?_
              refine l_off (dj := 131) (b := false) rfl rfl rfl rfl rfl ?_
              refine l_offu (dj := 144) rfl rfl rfl rfl ?_
              refine l_offu (dj := 144) rfl rfl rfl rfl ?_
              refine l_offu (dj := 144) rfl rfl rfl rfl ?_
              refine l_offu (dj := 144) rfl rfl rfl rfl ?_
              refine l_offu (dj := 144) rfl rfl rfl rfl ?_
              refine l_offu (dj := 144) rfl rfl rfl rfl ?_
              refine l_offu (dj := 150) rfl rfl rfl rfl ?_
              refine l_offu (dj := 150) rfl rfl rfl rfl ?_
              refine l_offu (dj := 150) rfl rfl rfl rfl ?_
              refine l_offu (dj := 150) rfl rfl rfl rfl ?_
              refine l_offu (dj := 150) rfl rfl rfl rfl ?_
              refine l_offu (dj := 144) rfl rfl rfl rfl ?_
              refine l_off (dj := 131) (b := false) rfl rfl rfl rfl rfl ?_
              refine l_off (dj := 131) (b := false) rfl rfl rfl rfl rfl ?_
              refine l_offu (dj := 158) rfl rfl rfl rfl ?_
              refine l_offu (dj := 158) rfl rfl rfl rfl ?_
              refine l_offu (dj := 158) rfl rfl rfl rfl ?_
              refine l_offu (dj := 158) rfl rfl rfl rfl ?_
              refine l_offu (dj := 158) rfl rfl rfl rfl ?_
              refine l_offu (dj := 158) rfl rfl rfl rfl ?_
              refine l_offu (dj := 164) rfl rfl rfl rfl ?_
              refine l_offu (dj := 164) rfl rfl rfl rfl ?_
              refine l_offu (dj := 164) rfl rfl rfl rfl ?_
              refine l_offu (dj := 164) rfl rfl rfl rfl ?_
              refine l_offu (dj := 164) rfl rfl rfl rfl ?_
              refine l_offu (dj := 158) rfl rfl rfl rfl ?_
              refine l_off (dj := 131) (b := false) rfl rfl rfl rfl rfl ?_
              refine l_off (dj := 131) (b := false) rfl rfl rfl rfl rfl ?_
              refine l_offu (dj := 172) rfl rfl rfl rfl ?_
              refine l_offu (dj := 172) rfl rfl rfl rfl ?_
              refine l_offu (dj := 172) rfl rfl rfl rfl ?_
              refine l_offu (dj := 172) rfl rfl rfl rfl ?_
              refine l_offu (dj := 172) rfl rfl rfl rfl ?_
              refine l_offu (dj := 172) rfl rfl rfl rfl ?_
              refine l_offu (dj := 178) rfl rfl rfl rfl ?_
              refine l_offu (dj := 178) rfl rfl rfl rfl ?_
              refine l_offu (dj := 178) rfl rfl rfl rfl ?_
              refine l_offu (dj := 178) rfl rfl rfl rfl ?_
              refine l_offu (dj := 178) rfl rfl rfl rfl ?_
              refine l_offu (dj := 172) rfl rfl rfl rfl ?_
              refine l_off (dj := 131) (b := false) rfl rfl rfl rfl rfl ?_
              refine l_r (r_pick_f rfl rfl) rfl ?_
              refine l_nil ?_
              refine s_else rfl ?_
              refine s_skip ?_
              refine s_mark ?_
              refine s_region ?_
              refine l_r (r_move rfl) rfl ?_
              refine l_r (r_inc rfl (by omega)) rfl ?_
              refine l_r (r_assign rfl) rfl ?_
              refine l_nil ?_
              refine s_again ?_
              exact ⟨_, [(9, .int .i64 (((k1 + 1) : Nat) : Int)), (1, .slice A ps.length c), (2, .pointer (some ⟨b2, 0, none⟩)), (7, .int .i64 (((k : Nat) : Int))), (8, .pointer (some ⟨b8, 0, none⟩))], by omega, (.cons rfl (.cons rfl (.cons rfl (.cons rfl (.cons rfl .nil))))), ⟨(k1 + 1), rfl, rfl, by omega, (fun j y hj hy => by
                    by_cases e : j = k1
                    · subst e; rw [e71h] at hy; injection hy with hy; subst hy; exact (fun h => by obtain ⟨hq, h⟩ := h; first | exact absurd hq (by assumption) | omega)
                    · exact hD j y (by omega) hy), hs73.tail⟩⟩
            ·
             have hc70p := of_decide_eq_false hc70
             refine s_else rfl ?_
             refine s_exit rfl ?_
             refine s_mark ?_
             refine s_region ?_
             refine l_r (r_move rfl) rfl ?_
             refine l_r (r_inc rfl (by omega)) rfl ?_
             refine l_r (r_assign rfl) rfl ?_
             refine l_nil ?_
             refine s_again ?_
             exact ⟨_, [(7, .int .i64 (((k + 1) : Nat) : Int)), (1, .slice A ps.length c), (2, .pointer (some ⟨b2, 0, none⟩))], by omega, (.cons rfl (.cons rfl (.cons rfl .nil))), ⟨(k + 1), rfl, rfl, by omega, (fun j y hj hy => by
                   by_cases e : j = k
                   · subst e; rw [e8h] at hy; injection hy with hy; subst hy; exact ⟨by omega, by omega, by omega, by omega, by omega, by omega, by omega, (fun hQ => by rw [hc25] at hQ; cases hQ)⟩
                   · exact hF j y (by omega) hy), (fun i j y z hij hj hy hz => by
                   by_cases e : j = k
                   · subst e; rw [e8h] at hz; injection hz with hz; subst hz; exact hD i y (by omega) hy
                   · exact hC i j y z hij (by omega) hy hz), hs69.tail⟩⟩
   ·
    have hc7p := of_decide_eq_false hc7
    refine s_else rfl ?_
    refine s_exit rfl ?_
    refine s_seq ?_
    obtain rfl : k = cf.Channels.length := by omega
    have hfine : ∀ x ∈ cf.Channels, Fine ps x := fun x hx => by
      obtain ⟨j, hj⟩ := List.mem_iff_getElem?.1 hx
      exact hF j x (List.getElem?_eq_some_iff.1 hj).1 hj
    have hpair : cf.Channels.Pairwise (fun x y => ¬ Clash x y) := List.pairwise_iff_getElem.2 (fun i j hi hj hij h => hC i j _ _ hij hj (List.getElem?_eq_getElem hi) (List.getElem?_eq_getElem hj) h.symm)
    have hQBm : QB (moveL cf ps) 100000000 := (fold_QB cf.Channels ps 20 hq20).mono hpow
    refine s_region ?_
    refine l_r (r_loadNp rfl hs6 Repl.here ag27 sz27) rfl ?_
    refine l_r (r_move rfl) rfl ?_
    have hcall := move_val w6 (Kd.config.on hKl0 hs6) (hx.onk hs6) (by omega) hsm hq20 hpow
    refine l_call rfl rfl fk12 rfl hcall ?_
    rintro _ w105 ⟨Aa, ca, rfl, hx105, ha⟩
    have hs105 := hs6.ext hx105
    refine ⟨_, rfl, ?_⟩
    have hcb2 : Cells w105 b2 0 [.int .i64 cf.Frame, .int .i64 cf.Switch, .slice Al_2 cf.Lines.length cl_2, .slice Al_3 cf.Parts.length cl_3, .slice Al_4 cf.Windows.length cl_4, .slice Al_5 cf.Channels.length cl_5] := heap_all (hs105.get (r := .pt b2 _ _) List.mem_cons_self)
    have hx := (hx.onk hs105).all_ (by decide)
    have hl_2 := (hl_2.onk hs105).all_ (by decide)
    have hl_3 := (hl_3.onk hs105).all_ (by decide)
    have hl_4 := (hl_4.onk hs105).all_ (by decide)
    have hl_5 := (hl_5.onk hs105).all_ (by decide)
    have hKl0 := Kd.config.on hKl0 hs105
    have hxb := hs105.toExt
    have hs106 := St.refl w105.heap.size w105
    refine l_r (r_assign rfl) rfl ?_
    refine l_nil ?_
    refine s_seq ?_
    refine s_region ?_
    refine l_r (r_loadN rfl ag27 (hcb2.on hs106) sz27) rfl ?_
    refine l_r (r_move rfl) rfl ?_
    have hcall := move_valK w105 (Kd.config.on hKl0 hs106) (ha.onk hs106) (by omega) (small_move hsm hQBm) (fun k => by rw [keeps_take hfine hpair]; exact hQBm)
    rw [keeps_twice hfine hpair] at hcall
    refine l_call rfl rfl fk12 rfl hcall ?_
    rintro _ w107 ⟨Aa2, ca2, rfl, hx107, ha2⟩
    have hs107 := hs106.ext hx107
    refine ⟨_, rfl, ?_⟩
    have hx := (hx.onk hs107).all_ (by decide)
    have hcb2 := hcb2.on hs107
    have hl_2 := (hl_2.onk hs107).all_ (by decide)
    have hl_3 := (hl_3.onk hs107).all_ (by decide)
    have hl_4 := (hl_4.onk hs107).all_ (by decide)
    have hl_5 := (hl_5.onk hs107).all_ (by decide)
    have ha := (ha.onk hs107).all_ (by decide)
    have hKl0 := Kd.config.on hKl0 hs107
    have hxb := hxb.trans hs107.toExt
    have hs108 := St.refl w107.heap.size w107
    refine l_r (r_move rfl) rfl ?_
    refine l_call rfl rfl fk11 rfl (same_parts w107 (ha2.onk hs108) (ha.onk hs108)) ?_
    rintro _ w109 ⟨rfl, hc109⟩
    have hs109 := hs108.call0 hc109
    refine ⟨_, rfl, ?_⟩
    refine l_r (r_assign rfl) rfl ?_
    refine l_nil ?_
    refine s_seq ?_
    refine s_seq ?_
    skip
    refine s_region ?_
    refine l_r (r_move rfl) rfl ?_
    refine l_r (r_len rfl el28) rfl ?_
    refine l_r (r_move rfl) rfl ?_
    refine l_r (r_len rfl el28) rfl ?_
    refine l_r (r_cmp rfl rfl (b := false) (congrArg some (bne_eq_false_iff_eq.2 (by rw [hml])))) rfl ?_
    refine l_r (r_move rfl) rfl ?_
    refine l_on (dj := 200) rfl rfl rfl ?_
    refine l_r (r_move rfl) rfl ?_
    refine l_on (dj := 200) rfl rfl rfl ?_
    refine l_r (r_not rfl) rfl ?_
    refine l_r (r_pick_f rfl rfl) rfl ?_
    refine l_nil ?_
    refine s_else rfl ?_
    refine s_skip ?_
    refine s_seq ?_
    refine s_seq ?_
    refine s_region ?_
    refine l_r (r_assign rfl) rfl ?_
    refine l_nil ?_
    refine s_block ?_
    have hx := (hx.onk hs109).all_ (by decide)
    have hcb2 := hcb2.on hs109
    have hl_2 := (hl_2.onk hs109).all_ (by decide)
    have hl_3 := (hl_3.onk hs109).all_ (by decide)
    have hl_4 := (hl_4.onk hs109).all_ (by decide)
    have hl_5 := (hl_5.onk hs109).all_ (by decide)
    have ha := (ha.onk hs109).all_ (by decide)
    have ha2 := (ha2.onk hs109).all_ (by decide)
    have hxb := hxb.trans hs109.toExt
    have hs110 := St.refl w109.heap.size w109
    refine s_loop (fun m L wl => ∃ (k2 : Nat), L = [(13, .int .i64 ((k2 : Nat) : Int)), (1, .slice A ps.length c), (2, .pointer (some ⟨b2, 0 + 0, none⟩)), (11, .slice Aa ((moveL cf ps)).length ca)] ∧ m = cf.Channels.length - k2 ∧ k2 ≤ cf.Channels.length ∧ Ext w wl ∧ Sl Kd.part wl (fun _ => True) A c ps ∧ Cells wl b2 (0) [.int .i64 cf.Frame, .int .i64 cf.Switch, .slice Al_2 cf.Lines.length cl_2, .slice Al_3 cf.Parts.length cl_3, .slice Al_4 cf.Windows.length cl_4, .slice Al_5 cf.Channels.length cl_5] ∧ Sl Kd.int wl (fun _ => True) Al_2 cl_2 cf.Lines ∧ Sl Kd.partConf wl (fun _ => True) Al_3 cl_3 cf.Parts ∧ Sl Kd.window wl (fun _ => True) Al_4 cl_4 cf.Windows ∧ Sl Kd.channel wl (fun _ => True) Al_5 cl_5 cf.Channels ∧ Sl Kd.part wl (fun _ => True) Aa ca ((moveL cf ps))) _ [(13, .int .i64 ((0 : Nat) : Int)), (1, .slice A ps.length c), (2, .pointer (some ⟨b2, 0 + 0, none⟩)), (11, .slice Aa ((moveL cf ps)).length ca)] (.cons rfl (.cons rfl (.cons rfl (.cons rfl .nil)))) ⟨0, rfl, rfl, Nat.zero_le _, hxb, hx, hcb2, hl_2, hl_3, hl_4, hl_5, ha⟩ ?_
    rintro _ _ w111 ⟨k2, rfl, rfl, hkk2, hxb, hx, hcb2, hl_2, hl_3, hl_4, hl_5, ha⟩
    have hs111 := St.refl w111.heap.size w111
    refine s_seq ?_
    refine s_seq ?_
    refine s_region ?_
    refine l_r (r_move rfl) rfl ?_
    refine l_r (r_field rfl fo27_5) rfl ?_
    refine l_r (r_load1 rfl ag25 ((hcb2.on hs111).get (j := 5) rfl)) rfl ?_
    refine l_r (r_len rfl el25) rfl ?_
    refine l_r (r_cmp rfl rfl rfl) rfl ?_
    refine l_nil ?_
    refine s_part (dj := 208) rfl (fun hc112 => ?_) (fun hc112 => ?_)
    ·
     have hc112p := of_decide_eq_true hc112
     refine s_then rfl ?_
     refine s_skip ?_
     refine s_seq ?_
     refine s_block ?_
     refine s_seq ?_
     refine s_region ?_
     refine l_r (r_field rfl fo27_5) rfl ?_
     refine l_r (r_load1 rfl ag25 ((hcb2.on hs111).get (j := 5) rfl)) rfl ?_
     refine l_r (r_move rfl) rfl ?_
     obtain ⟨e113x, e113h, e113b, e113o, e113cs, e113A, _, e113K, e113c⟩ := hl_5.get_ (i := k2) (by omega)
     obtain rfl : e113cs = [.bool e113x.Queuing, .int .i64 e113x.From, .int .i64 e113x.A, .int .i64 e113x.To, .int .i64 e113x.B] := e113K
     refine l_r (r_indexA rfl e113A rfl (by omega) (by omega) el25) rfl ?_
     refine l_r (r_loadN rfl ag32 (e113c.on hs111) sz32) rfl ?_
     refine l_alloc zz32 rfl hs111 ?_
     intro w114 b14 hb14 hx114 hs114
     refine l_storeAll rfl rfl sz32 (one_all rfl) (Nat.le_refl _) hs114 Repl.here rfl ?_
     intro w115 hz115 hk115 hs115
     refine l_nil ?_
     refine s_seq ?_
     refine s_seq ?_
     refine s_region ?_
     refine l_r (r_field rfl fo32_0) rfl ?_
     refine l_r (r_load1p rfl hs115 Repl.here ag4 rfl) rfl ?_
     refine l_r (r_not rfl) rfl ?_
     refine l_nil ?_
     refine s_part (dj := 218) rfl (fun hc116 => ?_) (fun hc116 => ?_)
     ·
      have hc116n := Bool.not_eq_true' _ |>.mp hc116
      refine s_then rfl ?_
      refine s_exit rfl ?_
      refine s_region ?_
      refine l_r (r_move rfl) rfl ?_
      refine l_r (r_inc rfl (by omega)) rfl ?_
      refine l_r (r_assign rfl) rfl ?_
      refine l_nil ?_
      refine s_again ?_
      exact ⟨_, [(13, .int .i64 (((k2 + 1) : Nat) : Int)), (1, .slice A ps.length c), (2, .pointer (some ⟨b2, 0 + 0, none⟩)), (11, .slice Aa ((moveL cf ps)).length ca)], by omega, (.cons rfl (.cons rfl (.cons rfl (.cons rfl .nil)))), ⟨(k2 + 1), rfl, rfl, by omega, hxb.trans hs115.toExt, (hx.onk hs115), (hcb2.on hs115), (hl_2.onk hs115), (hl_3.onk hs115), (hl_4.onk hs115), (hl_5.onk hs115), (ha.onk hs115)⟩⟩
     ·
      have hc116n := Bool.not_eq_false' _ |>.mp hc116
      refine s_else rfl ?_
      refine s_skip ?_
      refine s_seq ?_
      refine s_seq ?_
      obtain ⟨hf1, hf2, hf3, hf4, hf5, hf6, hf7, hf8⟩ := hfine e113x (List.mem_of_getElem? e113h)
      obtain ⟨⟨p, hp, hpa⟩, q, hq, hqb⟩ := hf8 hc116n
      have hpm := hq20 p (List.mem_of_getElem? hp)
      have hqm := hq20 q (List.mem_of_getElem? hq)
      refine s_quiet (by kernel_rfl) (by kernel_rfl) ?_
      refine qq_r (fun w' hw' => r_move rfl) rfl ?_
      refine qq_r (fun w' hw' => r_field rfl fo32_1) rfl ?_
      refine qq_r (fun w' hw' => r_load1p rfl (hs115.ext hw') Repl.here ag3 rfl) rfl ?_
      obtain ⟨e117x, e117h, e117b, e117o, e117cs, e117A, _, e117K, e117c⟩ := ha.get_ (i := e113x.From.toNat) (by omega)
      have e117K0 := e117K
      obtain ⟨Ae117_3, ce117_3, Ae117_4, ce117_4, Ae117_5, ce117_5, Ae117_6, ce117_6, Ae117_7, ce117_7, Ae117_8, ce117_8, Ae117_9, ce117_9, Ae117_10, ce117_10, Ae117_12, ce117_12, Ae117_14, ce117_14, rfl, he117_3, he117_4, he117_5, he117_6, he117_7, he117_8, he117_9, he117_10, he117_12, he117_14⟩ := e117K
      refine qq_r (fun w' hw' => r_indexA rfl e117A rfl (by omega) (by omega) el28) rfl ?_
      refine qq_r (fun w' hw' => r_field rfl fo48_10) rfl ?_
      refine qq_r (fun w' hw' => r_load1 rfl ag44 ((e117c.on (hs115.ext hw')).get (j := 10) rfl)) rfl ?_
      refine qq_r (fun w' hw' => r_len rfl el44) rfl ?_
      refine qq_r (fun w' hw' => r_move rfl) rfl ?_
      refine qq_r (fun w' hw' => r_field rfl fo32_1) rfl ?_
      refine qq_r (fun w' hw' => r_load1p rfl (hs115.ext hw') Repl.here ag3 rfl) rfl ?_
      obtain ⟨e118b, e118o, e118cs, e118A, _, e118K, e118c⟩ := hx.2.2 _ _ hp
      have e118K0 := e118K
      obtain ⟨Ae118_3, ce118_3, Ae118_4, ce118_4, Ae118_5, ce118_5, Ae118_6, ce118_6, Ae118_7, ce118_7, Ae118_8, ce118_8, Ae118_9, ce118_9, Ae118_10, ce118_10, Ae118_12, ce118_12, Ae118_14, ce118_14, rfl, he118_3, he118_4, he118_5, he118_6, he118_7, he118_8, he118_9, he118_10, he118_12, he118_14⟩ := e118K
      refine qq_r (fun w' hw' => r_indexA rfl e118A rfl (by omega) (by omega) el28) rfl ?_
      refine qq_r (fun w' hw' => r_field rfl fo48_10) rfl ?_
      refine qq_r (fun w' hw' => r_load1 rfl ag44 ((e118c.on (hs115.ext hw')).get (j := 10) rfl)) rfl ?_
      refine qq_r (fun w' hw' => r_len rfl el44) rfl ?_
      refine qq_r (fun w' hw' => r_cmp rfl rfl (b := false) (congrArg some (bne_eq_false_iff_eq.2 (by rw [(moveL_rest hp e117h).2.2])))) rfl ?_
      refine qq_r (fun w' hw' => r_move rfl) rfl ?_
      refine qq_on (dj := 234) rfl rfl rfl ?_
      refine qq_r (fun w' hw' => r_move rfl) rfl ?_
      refine qq_on (dj := 234) rfl rfl rfl ?_
      refine qq_r (fun w' hw' => r_field rfl fo32_3) rfl ?_
      refine qq_on (dj := 234) rfl rfl rfl ?_
      refine qq_r (fun w' hw' => r_load1p rfl (hs115.ext hw') Repl.here ag3 rfl) rfl ?_
      refine qq_on (dj := 234) rfl rfl rfl ?_
      obtain ⟨e119x, e119h, e119b, e119o, e119cs, e119A, _, e119K, e119c⟩ := ha.get_ (i := e113x.To.toNat) (by omega)
      have e119K0 := e119K
      obtain ⟨Ae119_3, ce119_3, Ae119_4, ce119_4, Ae119_5, ce119_5, Ae119_6, ce119_6, Ae119_7, ce119_7, Ae119_8, ce119_8, Ae119_9, ce119_9, Ae119_10, ce119_10, Ae119_12, ce119_12, Ae119_14, ce119_14, rfl, he119_3, he119_4, he119_5, he119_6, he119_7, he119_8, he119_9, he119_10, he119_12, he119_14⟩ := e119K
      refine qq_r (fun w' hw' => r_indexA rfl e119A rfl (by omega) (by omega) el28) rfl ?_
      refine qq_on (dj := 234) rfl rfl rfl ?_
      refine qq_r (fun w' hw' => r_field rfl fo48_10) rfl ?_
      refine qq_on (dj := 234) rfl rfl rfl ?_
      refine qq_r (fun w' hw' => r_load1 rfl ag44 ((e119c.on (hs115.ext hw')).get (j := 10) rfl)) rfl ?_
      refine qq_on (dj := 234) rfl rfl rfl ?_
      refine qq_r (fun w' hw' => r_len rfl el44) rfl ?_
      refine qq_on (dj := 234) rfl rfl rfl ?_
      refine qq_r (fun w' hw' => r_move rfl) rfl ?_
      refine qq_on (dj := 234) rfl rfl rfl ?_
      refine qq_r (fun w' hw' => r_field rfl fo32_3) rfl ?_
      refine qq_on (dj := 234) rfl rfl rfl ?_
      refine qq_r (fun w' hw' => r_load1p rfl (hs115.ext hw') Repl.here ag3 rfl) rfl ?_
      refine qq_on (dj := 234) rfl rfl rfl ?_
      obtain ⟨e120b, e120o, e120cs, e120A, _, e120K, e120c⟩ := hx.2.2 _ _ hq
      have e120K0 := e120K
      obtain ⟨Ae120_3, ce120_3, Ae120_4, ce120_4, Ae120_5, ce120_5, Ae120_6, ce120_6, Ae120_7, ce120_7, Ae120_8, ce120_8, Ae120_9, ce120_9, Ae120_10, ce120_10, Ae120_12, ce120_12, Ae120_14, ce120_14, rfl, he120_3, he120_4, he120_5, he120_6, he120_7, he120_8, he120_9, he120_10, he120_12, he120_14⟩ := e120K
      refine qq_r (fun w' hw' => r_indexA rfl e120A rfl (by omega) (by omega) el28) rfl ?_
      refine qq_on (dj := 234) rfl rfl rfl ?_
      refine qq_r (fun w' hw' => r_field rfl fo48_10) rfl ?_
      refine qq_on (dj := 234) rfl rfl rfl ?_
      refine qq_r (fun w' hw' => r_load1 rfl ag44 ((e120c.on (hs115.ext hw')).get (j := 10) rfl)) rfl ?_
      refine qq_on (dj := 234) rfl rfl rfl ?_
      refine qq_r (fun w' hw' => r_len rfl el44) rfl ?_
      refine qq_on (dj := 234) rfl rfl rfl ?_
      refine qq_r (fun w' hw' => r_cmp rfl rfl (b := false) (congrArg some (bne_eq_false_iff_eq.2 (by rw [(moveL_rest hq e119h).2.2])))) rfl ?_
      refine qq_r (fun w' hw' => r_pick_f rfl rfl) rfl ?_
      refine qq_nil ?_
      intro w121 hx121
      have hs121 := hs115.ext hx121
      refine s_else rfl ?_
      refine s_skip ?_
      refine s_seq ?_
      have hcb14 : Cells w121 b14 0 [.bool e113x.Queuing, .int .i64 e113x.From, .int .i64 e113x.A, .int .i64 e113x.To, .int .i64 e113x.B] := heap_all (hs121.get (r := .pt b14 _ _) List.mem_cons_self)
      have hx := (hx.onk hs121).all_ (by decide)
      have hcb2 := hcb2.on hs121
      have hl_2 := (hl_2.onk hs121).all_ (by decide)
      have hl_3 := (hl_3.onk hs121).all_ (by decide)
      have hl_4 := (hl_4.onk hs121).all_ (by decide)
      have hl_5 := (hl_5.onk hs121).all_ (by decide)
      have ha := (ha.onk hs121).all_ (by decide)
      have e113c := e113c.on hs121
      have e117c := e117c.on hs121
      have he117_3 := (he117_3.onk hs121).all_ (by decide)
      have he117_4 := (he117_4.onk hs121).all_ (by decide)
      have he117_5 := (he117_5.onk hs121).all_ (by decide)
      have he117_6 := (he117_6.onk hs121).all_ (by decide)
      have he117_7 := (he117_7.onk hs121).all_ (by decide)
      have he117_8 := (he117_8.onk hs121).all_ (by decide)
      have he117_9 := (he117_9.onk hs121).all_ (by decide)
      have he117_10 := (he117_10.onk hs121).all_ (by decide)
      have he117_12 := (he117_12.onk hs121).all_ (by decide)
      have he117_14 := (he117_14.onk hs121).all_ (by decide)
      have e118c := e118c.on hs121
      have he118_3 := (he118_3.onk hs121).all_ (by decide)
      have he118_4 := (he118_4.onk hs121).all_ (by decide)
      have he118_5 := (he118_5.onk hs121).all_ (by decide)
      have he118_6 := (he118_6.onk hs121).all_ (by decide)
      have he118_7 := (he118_7.onk hs121).all_ (by decide)
      have he118_8 := (he118_8.onk hs121).all_ (by decide)
      have he118_9 := (he118_9.onk hs121).all_ (by decide)
      have he118_10 := (he118_10.onk hs121).all_ (by decide)
      have he118_12 := (he118_12.onk hs121).all_ (by decide)
      have he118_14 := (he118_14.onk hs121).all_ (by decide)
      have e119c := e119c.on hs121
      have he119_3 := (he119_3.onk hs121).all_ (by decide)
      have he119_4 := (he119_4.onk hs121).all_ (by decide)
      have he119_5 := (he119_5.onk hs121).all_ (by decide)
      have he119_6 := (he119_6.onk hs121).all_ (by decide)
      have he119_7 := (he119_7.onk hs121).all_ (by decide)
      have he119_8 := (he119_8.onk hs121).all_ (by decide)
      have he119_9 := (he119_9.onk hs121).all_ (by decide)
      have he119_10 := (he119_10.onk hs121).all_ (by decide)
      have he119_12 := (he119_12.onk hs121).all_ (by decide)
      have he119_14 := (he119_14.onk hs121).all_ (by decide)
      have e120c := e120c.on hs121
      have he120_3 := (he120_3.onk hs121).all_ (by decide)
      have he120_4 := (he120_4.onk hs121).all_ (by decide)
      have he120_5 := (he120_5.onk hs121).all_ (by decide)
      have he120_6 := (he120_6.onk hs121).all_ (by decide)
      have he120_7 := (he120_7.onk hs121).all_ (by decide)
      have he120_8 := (he120_8.onk hs121).all_ (by decide)
      have he120_9 := (he120_9.onk hs121).all_ (by decide)
      have he120_10 := (he120_10.onk hs121).all_ (by decide)
      have he120_12 := (he120_12.onk hs121).all_ (by decide)
      have he120_14 := (he120_14.onk hs121).all_ (by decide)
      have hxb := hxb.trans hs121.toExt
      have hs122 := St.refl w121.heap.size w121
      obtain ⟨e123b, e123o, e123cs, e123A, _, e123K, e123c⟩ := hx.2.2 _ _ hq
      have e123K0 := e123K
      obtain ⟨Ae123_3, ce123_3, Ae123_4, ce123_4, Ae123_5, ce123_5, Ae123_6, ce123_6, Ae123_7, ce123_7, Ae123_8, ce123_8, Ae123_9, ce123_9, Ae123_10, ce123_10, Ae123_12, ce123_12, Ae123_14, ce123_14, rfl, he123_3, he123_4, he123_5, he123_6, he123_7, he123_8, he123_9, he123_10, he123_12, he123_14⟩ := e123K
      obtain ⟨e124b, e124o, e124cs, e124A, _, e124K, e124c⟩ := hx.2.2 _ _ hp
      have e124K0 := e124K
      obtain ⟨Ae124_3, ce124_3, Ae124_4, ce124_4, Ae124_5, ce124_5, Ae124_6, ce124_6, Ae124_7, ce124_7, Ae124_8, ce124_8, Ae124_9, ce124_9, Ae124_10, ce124_10, Ae124_12, ce124_12, Ae124_14, ce124_14, rfl, he124_3, he124_4, he124_5, he124_6, he124_7, he124_8, he124_9, he124_10, he124_12, he124_14⟩ := e124K
      obtain ⟨e125x, e125h, e125b, e125o, e125cs, e125A, _, e125K, e125c⟩ := he123_10.get_ (i := e113x.B.toNat) (by omega)
      have e125K0 := e125K
      obtain ⟨Ae125_1, ce125_1, rfl, he125_1⟩ := e125K
      obtain ⟨e126x, e126h, e126b, e126o, e126cs, e126A, _, e126K, e126c⟩ := he124_10.get_ (i := e113x.A.toNat) (by omega)
      have e126K0 := e126K
      obtain ⟨Ae126_1, ce126_1, rfl, he126_1⟩ := e126K
      have hbA := hpm e126x (List.mem_of_getElem? e126h)
      have hbB := hqm e125x (List.mem_of_getElem? e125h)
      refine s_any (by kernel_rfl) (fun w' => Ext w121 w') (fun L' w' => ∃ (Aww : Option Addr) (cww : Nat), Sub [(15, .slice Aww (e125x.Values ++ e126x.Values).length cww), (1, .slice A ps.length c), (2, .pointer (some ⟨b2, 0 + 0, none⟩)), (11, .slice Aa ((moveL cf ps)).length ca), (13, .int .i64 (((k2 : Nat) : Int))), (14, .pointer (some ⟨b14, 0 + 0, none⟩))] L' ∧ Ext w121 w' ∧ Sl Kd.int w' (fun _ => True) Aww cww (e125x.Values ++ e126x.Values)) ?_ ?_
      ·
       intro w127 hx127 hh127
       have hs127 := hs122.ext hx127
       refine wa_take 0 rfl (by kernel_rfl) (fun w' hw' => r_move rfl) (hs127.toExt) rfl ?_
       refine wa_take 1 rfl (by kernel_rfl) (fun w' hw' => r_field rfl fo32_3) (hs127.toExt) rfl ?_
       refine wa_take 2 rfl (by kernel_rfl) (fun w' hw' => r_load1 rfl ag3 ((hcb14.on ((St.refl w121.heap.size w121).ext hw')).get (j := 3) rfl)) (hs127.toExt) rfl ?_
       refine wa_take 3 rfl (by kernel_rfl) (fun w' hw' => r_indexA rfl e123A rfl (by omega) (by omega) el28) (hs127.toExt) rfl ?_
       refine wa_take 4 rfl (by kernel_rfl) (fun w' hw' => r_field rfl fo48_10) (hs127.toExt) rfl ?_
       refine wa_take 5 rfl (by kernel_rfl) (fun w' hw' => r_load1 rfl ag44 ((e123c.on ((St.refl w121.heap.size w121).ext hw')).get (j := 10) rfl)) (hs127.toExt) rfl ?_
       refine wa_take 6 rfl (by kernel_rfl) (fun w' hw' => r_field rfl fo32_4) (hs127.toExt) rfl ?_
       refine wa_take 7 rfl (by kernel_rfl) (fun w' hw' => r_load1 rfl ag3 ((hcb14.on ((St.refl w121.heap.size w121).ext hw')).get (j := 4) rfl)) (hs127.toExt) rfl ?_
       refine wa_take 8 rfl (by kernel_rfl) (fun w' hw' => r_indexA rfl e125A rfl (by omega) (by omega) el44) (hs127.toExt) rfl ?_
       refine wa_take 9 rfl (by kernel_rfl) (fun w' hw' => r_field rfl fo52_1) (hs127.toExt) rfl ?_
       refine wa_take 10 rfl (by kernel_rfl) (fun w' hw' => r_load1 rfl ag22 ((e125c.on ((St.refl w121.heap.size w121).ext hw')).get (j := 1) rfl)) (hs127.toExt) rfl ?_
       refine wa_take 12 rfl (by kernel_rfl) (fun w' hw' => r_move rfl) (hs127.toExt) rfl ?_
       refine wa_take 13 rfl (by kernel_rfl) (fun w' hw' => r_field rfl fo32_1) (hs127.toExt) rfl ?_
       refine wa_take 14 rfl (by kernel_rfl) (fun w' hw' => r_load1 rfl ag3 ((hcb14.on ((St.refl w121.heap.size w121).ext hw')).get (j := 1) rfl)) (hs127.toExt) rfl ?_
       refine wa_take 15 rfl (by kernel_rfl) (fun w' hw' => r_indexA rfl e124A rfl (by omega) (by omega) el28) (hs127.toExt) rfl ?_
       refine wa_take 16 rfl (by kernel_rfl) (fun w' hw' => r_field rfl fo48_10) (hs127.toExt) rfl ?_
       refine wa_take 17 rfl (by kernel_rfl) (fun w' hw' => r_load1 rfl ag44 ((e124c.on ((St.refl w121.heap.size w121).ext hw')).get (j := 10) rfl)) (hs127.toExt) rfl ?_
       refine wa_take 18 rfl (by kernel_rfl) (fun w' hw' => r_field rfl fo32_2) (hs127.toExt) rfl ?_
       refine wa_take 19 rfl (by kernel_rfl) (fun w' hw' => r_load1 rfl ag3 ((hcb14.on ((St.refl w121.heap.size w121).ext hw')).get (j := 2) rfl)) (hs127.toExt) rfl ?_
       refine wa_take 20 rfl (by kernel_rfl) (fun w' hw' => r_indexA rfl e126A rfl (by omega) (by omega) el44) (hs127.toExt) rfl ?_
       refine wa_take 21 rfl (by kernel_rfl) (fun w' hw' => r_field rfl fo52_1) (hs127.toExt) rfl ?_
       refine wa_take 22 rfl (by kernel_rfl) (fun w' hw' => r_load1 rfl ag22 ((e126c.on ((St.refl w121.heap.size w121).ext hw')).get (j := 1) rfl)) (hs127.toExt) rfl ?_
       refine wa_one [11] (by kernel_rfl) rfl ?_
       intro i hi
       simp only [List.mem_cons, List.not_mem_nil, or_false] at hi
       subst hi
       refine ⟨_, rfl, ?_⟩
       refine l_copyB hs127 (dk := Kd.int) Try.underlying22 rw3 rfl rfl rfl rfl (he125_1) (by omega) rfl rfl ?_
       intro _ nU w128 hRU hx128
       obtain ⟨DU, kU, rfl, hcapU, _⟩ := row_slice (hx128.get (r := .row _ _ _ _ _ _) List.mem_cons_self)
       have hs128 := hs127.call1 hx128
       refine l_nil ⟨hs128.toExt, ?_⟩
       refine wa_one [23] (by kernel_rfl) rfl ?_
       intro i hi
       simp only [List.mem_cons, List.not_mem_nil, or_false] at hi
       subst hi
       refine ⟨_, rfl, ?_⟩
       refine l_appendS (dk := Kd.int) hs128 Try.underlying22 rw3 rfl rfl rfl rfl (he126_1) (Nat.le_refl _) hs128 (by omega) rfl rfl ?_
       intro _ nV w129 hRV hs129
       obtain ⟨Aww, cww, rfl, _⟩ := row_slice (hs129.get (r := .row _ _ _ _ _ _) List.mem_cons_self)
       have hww := row_slT (d := Kd.int) (hs129.get (r := .row _ _ _ _ _ _) List.mem_cons_self) ((reps_append hRU.all_ hRV.all_).onr hs129) (by rw [List.length_append])
       rw [← List.length_append]
       refine l_nil ⟨hs129.toExt, ?_⟩
       refine wa_take 24 rfl (by kernel_rfl) (fun w' hw' => r_assign rfl) (hs129.toExt) rfl ?_
       exact wa_done (by kernel_rfl) ⟨_, _, (.cons rfl (.cons rfl (.cons rfl (.cons rfl (.cons rfl (.cons rfl .nil)))))), hs129.toExt, hww⟩
      rintro _ w130 ⟨Aww, cww, hsub, hxr, hww⟩
      refine s_sub [(15, .slice Aww (e125x.Values ++ e126x.Values).length cww), (1, .slice A ps.length c), (2, .pointer (some ⟨b2, 0 + 0, none⟩)), (11, .slice Aa ((moveL cf ps)).length ca), (13, .int .i64 (((k2 : Nat) : Int))), (14, .pointer (some ⟨b14, 0 + 0, none⟩))] hsub ?_
      have hsr := (St.refl w121.heap.size w121).ext hxr
      have hx := (hx.onk hsr).all_ (by decide)
      have hcb2 := hcb2.on hsr
      have hl_2 := (hl_2.onk hsr).all_ (by decide)
      have hl_3 := (hl_3.onk hsr).all_ (by decide)
      have hl_4 := (hl_4.onk hsr).all_ (by decide)
      have hl_5 := (hl_5.onk hsr).all_ (by decide)
      have ha := (ha.onk hsr).all_ (by decide)
      have hcb14 := hcb14.on hsr
      have hxb := hxb.trans hsr.toExt
      have hs131 := St.refl w130.heap.size w130
      refine s_seq ?_
      have hx := (hx.onk hs131).all_ (by decide)
      have hcb2 := hcb2.on hs131
      have hl_2 := (hl_2.onk hs131).all_ (by decide)
      have hl_3 := (hl_3.onk hs131).all_ (by decide)
      have hl_4 := (hl_4.onk hs131).all_ (by decide)
      have hl_5 := (hl_5.onk hs131).all_ (by decide)
      have ha := (ha.onk hs131).all_ (by decide)
      have hcb14 := hcb14.on hs131
      have hww := (hww.onk hs131).all_ (by decide)
      have hxb := hxb.trans hs131.toExt
      have hs132 := St.refl w130.heap.size w130
      have hmq := (moveL_rest hp e117h).2.2
      have hmq2 := (moveL_rest hq e119h).2.2
      obtain ⟨e133b, e133o, e133cs, e133A, _, e133K, e133c⟩ := ha.2.2 _ _ e119h
      have e133K0 := e133K
      obtain ⟨Ae133_3, ce133_3, Ae133_4, ce133_4, Ae133_5, ce133_5, Ae133_6, ce133_6, Ae133_7, ce133_7, Ae133_8, ce133_8, Ae133_9, ce133_9, Ae133_10, ce133_10, Ae133_12, ce133_12, Ae133_14, ce133_14, rfl, he133_3, he133_4, he133_5, he133_6, he133_7, he133_8, he133_9, he133_10, he133_12, he133_14⟩ := e133K
      obtain ⟨e134b, e134o, e134cs, e134A, _, e134K, e134c⟩ := ha.2.2 _ _ e117h
      have e134K0 := e134K
      obtain ⟨Ae134_3, ce134_3, Ae134_4, ce134_4, Ae134_5, ce134_5, Ae134_6, ce134_6, Ae134_7, ce134_7, Ae134_8, ce134_8, Ae134_9, ce134_9, Ae134_10, ce134_10, Ae134_12, ce134_12, Ae134_14, ce134_14, rfl, he134_3, he134_4, he134_5, he134_6, he134_7, he134_8, he134_9, he134_10, he134_12, he134_14⟩ := e134K
      obtain ⟨e135x, e135h, e135b, e135o, e135cs, e135A, _, e135K, e135c⟩ := he133_10.get_ (i := e113x.B.toNat) (by omega)
      have e135K0 := e135K
      obtain ⟨Ae135_1, ce135_1, rfl, he135_1⟩ := e135K
      obtain ⟨e136x, e136h, e136b, e136o, e136cs, e136A, _, e136K, e136c⟩ := he134_10.get_ (i := e113x.A.toNat) (by omega)
      have e136K0 := e136K
      obtain ⟨Ae136_1, ce136_1, rfl, he136_1⟩ := e136K
      have hkv := keeps_values hfine hpair (List.mem_of_getElem? e113h) hc116n hp hq e126h e125h e117h e119h e136h e135h
      have hbA := hQBm e117x (List.mem_of_getElem? e117h) e136x (List.mem_of_getElem? e136h)
      have hbB := hQBm e119x (List.mem_of_getElem? e119h) e135x (List.mem_of_getElem? e135h)
      refine s_any (by kernel_rfl) (fun w' => Ext w130 w') (fun L' w' => ∃ (Awn : Option Addr) (cwn : Nat), Sub [(16, .slice Awn (e125x.Values ++ e126x.Values).length cwn), (1, .slice A ps.length c), (2, .pointer (some ⟨b2, 0 + 0, none⟩)), (11, .slice Aa ((moveL cf ps)).length ca), (13, .int .i64 (((k2 : Nat) : Int))), (14, .pointer (some ⟨b14, 0 + 0, none⟩)), (15, .slice Aww ((e125x.Values ++ e126x.Values)).length cww)] L' ∧ Ext w130 w' ∧ Sl Kd.int w' (fun _ => True) Awn cwn (e125x.Values ++ e126x.Values)) ?_ ?_
      ·
       intro w137 hx137 hh137
       have hs137 := hs132.ext hx137
       refine wa_take 0 rfl (by kernel_rfl) (fun w' hw' => r_move rfl) (hs137.toExt) rfl ?_
       refine wa_take 1 rfl (by kernel_rfl) (fun w' hw' => r_field rfl fo32_3) (hs137.toExt) rfl ?_
       refine wa_take 2 rfl (by kernel_rfl) (fun w' hw' => r_load1 rfl ag3 ((hcb14.on ((St.refl w130.heap.size w130).ext hw')).get (j := 3) rfl)) (hs137.toExt) rfl ?_
       refine wa_take 3 rfl (by kernel_rfl) (fun w' hw' => r_indexA rfl e133A rfl (by omega) (by omega) el28) (hs137.toExt) rfl ?_
       refine wa_take 4 rfl (by kernel_rfl) (fun w' hw' => r_field rfl fo48_10) (hs137.toExt) rfl ?_
       refine wa_take 5 rfl (by kernel_rfl) (fun w' hw' => r_load1 rfl ag44 ((e133c.on ((St.refl w130.heap.size w130).ext hw')).get (j := 10) rfl)) (hs137.toExt) rfl ?_
       refine wa_take 6 rfl (by kernel_rfl) (fun w' hw' => r_field rfl fo32_4) (hs137.toExt) rfl ?_
       refine wa_take 7 rfl (by kernel_rfl) (fun w' hw' => r_load1 rfl ag3 ((hcb14.on ((St.refl w130.heap.size w130).ext hw')).get (j := 4) rfl)) (hs137.toExt) rfl ?_
       refine wa_take 8 rfl (by kernel_rfl) (fun w' hw' => r_indexA rfl e135A rfl (by omega) (by omega) el44) (hs137.toExt) rfl ?_
       refine wa_take 9 rfl (by kernel_rfl) (fun w' hw' => r_field rfl fo52_1) (hs137.toExt) rfl ?_
       refine wa_take 10 rfl (by kernel_rfl) (fun w' hw' => r_load1 rfl ag22 ((e135c.on ((St.refl w130.heap.size w130).ext hw')).get (j := 1) rfl)) (hs137.toExt) rfl ?_
       refine wa_take 12 rfl (by kernel_rfl) (fun w' hw' => r_move rfl) (hs137.toExt) rfl ?_
       refine wa_take 13 rfl (by kernel_rfl) (fun w' hw' => r_field rfl fo32_1) (hs137.toExt) rfl ?_
       refine wa_take 14 rfl (by kernel_rfl) (fun w' hw' => r_load1 rfl ag3 ((hcb14.on ((St.refl w130.heap.size w130).ext hw')).get (j := 1) rfl)) (hs137.toExt) rfl ?_
       refine wa_take 15 rfl (by kernel_rfl) (fun w' hw' => r_indexA rfl e134A rfl (by omega) (by omega) el28) (hs137.toExt) rfl ?_
       refine wa_take 16 rfl (by kernel_rfl) (fun w' hw' => r_field rfl fo48_10) (hs137.toExt) rfl ?_
       refine wa_take 17 rfl (by kernel_rfl) (fun w' hw' => r_load1 rfl ag44 ((e134c.on ((St.refl w130.heap.size w130).ext hw')).get (j := 10) rfl)) (hs137.toExt) rfl ?_
       refine wa_take 18 rfl (by kernel_rfl) (fun w' hw' => r_field rfl fo32_2) (hs137.toExt) rfl ?_
       refine wa_take 19 rfl (by kernel_rfl) (fun w' hw' => r_load1 rfl ag3 ((hcb14.on ((St.refl w130.heap.size w130).ext hw')).get (j := 2) rfl)) (hs137.toExt) rfl ?_
       refine wa_take 20 rfl (by kernel_rfl) (fun w' hw' => r_indexA rfl e136A rfl (by omega) (by omega) el44) (hs137.toExt) rfl ?_
       refine wa_take 21 rfl (by kernel_rfl) (fun w' hw' => r_field rfl fo52_1) (hs137.toExt) rfl ?_
       refine wa_take 22 rfl (by kernel_rfl) (fun w' hw' => r_load1 rfl ag22 ((e136c.on ((St.refl w130.heap.size w130).ext hw')).get (j := 1) rfl)) (hs137.toExt) rfl ?_
       refine wa_one [11] (by kernel_rfl) rfl ?_
       intro i hi
       simp only [List.mem_cons, List.not_mem_nil, or_false] at hi
       subst hi
       refine ⟨_, rfl, ?_⟩
       refine l_copyB hs137 (dk := Kd.int) Try.underlying22 rw3 rfl rfl rfl rfl (he135_1) (by omega) rfl rfl ?_
       intro _ nU w138 hRU hx138
       obtain ⟨DU, kU, rfl, hcapU, _⟩ := row_slice (hx138.get (r := .row _ _ _ _ _ _) List.mem_cons_self)
       have hs138 := hs137.call1 hx138
       refine l_nil ⟨hs138.toExt, ?_⟩
       refine wa_one [23] (by kernel_rfl) rfl ?_
       intro i hi
       simp only [List.mem_cons, List.not_mem_nil, or_false] at hi
       subst hi
       refine ⟨_, rfl, ?_⟩
       refine l_appendS (dk := Kd.int) hs138 Try.underlying22 rw3 rfl rfl rfl rfl (he136_1) (Nat.le_refl _) hs138 (by omega) rfl rfl ?_
       intro _ nV w139 hRV hs139
       obtain ⟨Awn, cwn, rfl, _⟩ := row_slice (hs139.get (r := .row _ _ _ _ _ _) List.mem_cons_self)
       have hwn := row_slT (d := Kd.int) (hs139.get (r := .row _ _ _ _ _ _) List.mem_cons_self) ((reps_append hRU.all_ hRV.all_).onr hs139) (by rw [List.length_append])
       rw [← List.length_append]
       rw [hkv] at hwn ⊢
       refine l_nil ⟨hs139.toExt, ?_⟩
       refine wa_take 24 rfl (by kernel_rfl) (fun w' hw' => r_assign rfl) (hs139.toExt) rfl ?_
       exact wa_done (by kernel_rfl) ⟨_, _, (.cons rfl (.cons rfl (.cons rfl (.cons rfl (.cons rfl (.cons rfl (.cons rfl .nil))))))), hs139.toExt, hwn⟩
      rintro _ w140 ⟨Awn, cwn, hsub, hxr, hwn⟩
      refine s_sub [(16, .slice Awn (e125x.Values ++ e126x.Values).length cwn), (1, .slice A ps.length c), (2, .pointer (some ⟨b2, 0 + 0, none⟩)), (11, .slice Aa ((moveL cf ps)).length ca), (13, .int .i64 (((k2 : Nat) : Int))), (14, .pointer (some ⟨b14, 0 + 0, none⟩)), (15, .slice Aww ((e125x.Values ++ e126x.Values)).length cww)] hsub ?_
      have hsr := (St.refl w130.heap.size w130).ext hxr
      have hx := (hx.onk hsr).all_ (by decide)
      have hcb2 := hcb2.on hsr
      have hl_2 := (hl_2.onk hsr).all_ (by decide)
      have hl_3 := (hl_3.onk hsr).all_ (by decide)
      have hl_4 := (hl_4.onk hsr).all_ (by decide)
      have hl_5 := (hl_5.onk hsr).all_ (by decide)
      have ha := (ha.onk hsr).all_ (by decide)
      have hcb14 := hcb14.on hsr
      have hww := (hww.onk hsr).all_ (by decide)
      have hxb := hxb.trans hsr.toExt
      have hs141 := St.refl w140.heap.size w140
      refine s_seq ?_
      refine s_seq ?_
      refine s_region ?_
      refine l_r (r_move rfl) rfl ?_
      refine l_r (r_len rfl el22) rfl ?_
      refine l_r (r_move rfl) rfl ?_
      refine l_r (r_len rfl el22) rfl ?_
      refine l_r (r_cmp rfl rfl (b := false) (by simp)) rfl ?_
      refine l_nil ?_
      refine s_else rfl ?_
      refine s_skip ?_
      refine s_seq ?_
      refine s_region ?_
      refine l_r (r_assign rfl) rfl ?_
      refine l_nil ?_
      refine s_block ?_
      have hlw := hww.len
      refine s_loop (fun m L wl => ∃ (k3 : Nat), L = [(17, .int .i64 ((k3 : Nat) : Int)), (1, .slice A ps.length c), (2, .pointer (some ⟨b2, 0 + 0, none⟩)), (11, .slice Aa ((moveL cf ps)).length ca), (13, .int .i64 (((k2 : Nat) : Int))), (15, .slice Aww ((e125x.Values ++ e126x.Values)).length cww), (16, .slice Awn ((e125x.Values ++ e126x.Values)).length cwn)] ∧ m = (e125x.Values ++ e126x.Values).length - k3 ∧ k3 ≤ (e125x.Values ++ e126x.Values).length ∧ St w140.heap.size w140 wl []) _ [(17, .int .i64 ((0 : Nat) : Int)), (1, .slice A ps.length c), (2, .pointer (some ⟨b2, 0 + 0, none⟩)), (11, .slice Aa ((moveL cf ps)).length ca), (13, .int .i64 (((k2 : Nat) : Int))), (15, .slice Aww ((e125x.Values ++ e126x.Values)).length cww), (16, .slice Awn ((e125x.Values ++ e126x.Values)).length cwn)] (.cons rfl (.cons rfl (.cons rfl (.cons rfl (.cons rfl (.cons rfl (.cons rfl .nil))))))) ⟨0, rfl, rfl, Nat.zero_le _, hs141⟩ ?_
      rintro _ _ w142 ⟨k3, rfl, rfl, hkk3, hs142⟩
      refine s_seq ?_
      refine s_seq ?_
      refine s_region ?_
      refine l_r (r_move rfl) rfl ?_
      refine l_r (r_move rfl) rfl ?_
      refine l_r (r_len rfl el22) rfl ?_
      refine l_r (r_cmp rfl rfl rfl) rfl ?_
      refine l_nil ?_
      refine s_part (dj := 307) rfl (fun hc143 => ?_) (fun hc143 => ?_)
      ·
       have hc143p := of_decide_eq_true hc143
       refine s_then rfl ?_
       refine s_skip ?_
       refine s_seq ?_
       refine s_block ?_
       refine s_seq ?_
       refine s_quiet (by kernel_rfl) (by kernel_rfl) ?_
       refine qq_r (fun w' hw' => r_move rfl) rfl ?_
       refine qq_r (fun w' hw' => r_move rfl) rfl ?_
       obtain ⟨e144x, e144h, e144b, e144o, e144cs, e144A, _, e144K, e144c⟩ := hww.get_ (i := k3) (by omega)
       obtain rfl : e144cs = [.int .i64 e144x] := e144K
       refine qq_r (fun w' hw' => r_indexA rfl e144A rfl (by omega) (by omega) el22) rfl ?_
       refine qq_r (fun w' hw' => r_load1 rfl ag3 ((e144c.on (hs142.ext hw')).get (j := 0) rfl)) rfl ?_
       refine qq_r (fun w' hw' => r_move rfl) rfl ?_
       refine qq_r (fun w' hw' => r_move rfl) rfl ?_
       obtain ⟨e145b, e145o, e145cs, e145A, _, e145K, e145c⟩ := hwn.2.2 _ _ e144h
       obtain rfl : e145cs = [.int .i64 e144x] := e145K
       refine qq_r (fun w' hw' => r_indexA rfl e145A rfl (by omega) (by omega) el22) rfl ?_
       refine qq_r (fun w' hw' => r_load1 rfl ag3 ((e145c.on (hs142.ext hw')).get (j := 0) rfl)) rfl ?_
       refine qq_r (fun w' hw' => r_cmp rfl rfl (b := false) (by simp)) rfl ?_
       refine qq_nil ?_
       intro w146 hx146
       have hs146 := hs142.ext hx146
       refine s_else rfl ?_
       refine s_skip ?_
       refine s_mark ?_
       refine s_region ?_
       refine l_r (r_move rfl) rfl ?_
       refine l_r (r_inc rfl (by omega)) rfl ?_
       refine l_r (r_assign rfl) rfl ?_
       refine l_nil ?_
       refine s_again ?_
       exact ⟨_, [(17, .int .i64 (((k3 + 1) : Nat) : Int)), (1, .slice A ps.length c), (2, .pointer (some ⟨b2, 0 + 0, none⟩)), (11, .slice Aa ((moveL cf ps)).length ca), (13, .int .i64 (((k2 : Nat) : Int))), (15, .slice Aww ((e125x.Values ++ e126x.Values)).length cww), (16, .slice Awn ((e125x.Values ++ e126x.Values)).length cwn)], by omega, (.cons rfl (.cons rfl (.cons rfl (.cons rfl (.cons rfl (.cons rfl (.cons rfl .nil))))))), ⟨(k3 + 1), rfl, rfl, by omega, hs146⟩⟩
      ·
       have hc143p := of_decide_eq_false hc143
       refine s_else rfl ?_
       refine s_exit rfl ?_
       refine s_mark ?_
       refine s_region ?_
       refine l_r (r_move rfl) rfl ?_
       refine l_r (r_inc rfl (by omega)) rfl ?_
       refine l_r (r_assign rfl) rfl ?_
       refine l_nil ?_
       refine s_again ?_
       exact ⟨_, [(13, .int .i64 (((k2 + 1) : Nat) : Int)), (1, .slice A ps.length c), (2, .pointer (some ⟨b2, 0 + 0, none⟩)), (11, .slice Aa ((moveL cf ps)).length ca)], by omega, (.cons rfl (.cons rfl (.cons rfl (.cons rfl .nil)))), ⟨(k2 + 1), rfl, rfl, by omega, hxb.trans hs142.toExt, (hx.onk hs142), (hcb2.on hs142), (hl_2.onk hs142), (hl_3.onk hs142), (hl_4.onk hs142), (hl_5.onk hs142), (ha.onk hs142)⟩⟩
    ·
     have hc112p := of_decide_eq_false hc112
     refine s_else rfl ?_
     refine s_exit rfl ?_
     refine s_seq ?_
     refine s_region ?_
     refine l_r (r_assign rfl) rfl ?_
     refine l_nil ?_
     refine s_ret ?_
     exact q_done (.inr rfl) (.tmp rfl .nil) ⟨rfl, hxb.trans hs111.toExt⟩

end Go.Proofs.Ytfhghnhgcdiknaa
