/- The laws' calls, as values that lie somewhere. -/
import Derived.Test.YtfhghnhgcdiknaaWz
set_option linter.unusedVariables false
namespace Go.Proofs.Ytfhghnhgcdiknaa
open Go.RowKit
theorem own_part {w : World} {F : Nat → Prop} {x : OP} (h : OP.ok w F x) (hS : w.ownsRow 0 56 3 x.vS x.p.Samples.length x.csS) (hQ : w.ownsRow 0 52 3 x.vQ x.p.Queues.length x.csQ) : Kd.part.K w (fun _ => True) x.p x.cs := by
  obtain ⟨⟨A3, c3, A4, c4, A5, c5, A6, c6, A7, c7, A8, c8, A12, c12, A14, c14, h, h3, h4, h5, h6, h7, h8, h12, h14, hR⟩, hRS⟩ := h
  obtain ⟨A9, c9, e9, h9⟩ := sl_of_row (d := Kd.sample) (xs := x.p.Samples) (ok := fun _ => True) hS hRS.all_ rfl (fun _ _ => trivial)
  obtain ⟨A10, c10, e10, h10⟩ := sl_of_row (d := Kd.queue) (xs := x.p.Queues) (ok := fun _ => True) hQ hR.all_ rfl (fun _ _ => trivial)
  rw [e9, e10] at h
  exact ⟨A3, c3, A4, c4, A5, c5, A6, c6, A7, c7, A8, c8, A9, c9, A10, c10, A12, c12, A14, c14, h, h3.all_ (by decide), h4.all_ (by decide), h5.all_ (by decide), h6.all_ (by decide), h7.all_ (by decide), h8.all_ (by decide), h9, h10, h12.all_ (by decide), h14.all_ (by decide)⟩
theorem reps_flat {w : World} {ok : Nat → Prop} : ∀ (xs : List OP), (∀ x ∈ xs, Kd.part.K w ok x.p x.cs) → Reps Kd.part w ok (xs.map OP.p) (xs.flatMap (·.cs)) := by
  intro xs h
  have hl : ∀ x, x ∈ xs → x.cs.length = 15 := fun x hx => Kd.part.len (h x hx)
  refine ⟨by rw [flat_len hl, List.length_map]; rfl, fun j p hj => ?_⟩
  rw [List.getElem?_map] at hj
  cases hx : xs[j]? with
  | none => rw [hx] at hj; cases hj
  | some x =>
    rw [hx] at hj
    simp only [Option.map_some, Option.some.injEq] at hj
    subst hj
    have h1 := h x (List.mem_of_getElem? hx)
    have hlx := hl x (List.mem_of_getElem? hx)
    have e : ((xs.flatMap (·.cs)).drop (j * Kd.part.sz)).take Kd.part.sz = x.cs := by
      apply List.ext_getElem?
      intro i
      rw [List.getElem?_take, List.getElem?_drop]
      split
      · rename_i hi
        exact flat_get hl hx hi
      · rename_i hi
        have : ¬ i < 15 := hi
        rw [List.getElem?_eq_none (by omega)]
    rw [e]
    exact h1
theorem ops_sl {w0 w : World} {xs : List OP} {v : Value} {F : Nat → Prop} (hs : St 0 w0 w (OPs xs v F)) : ∃ A c, v = .slice A (xs.map OP.p).length c ∧ Sl Kd.part w (fun _ => True) A c (xs.map OP.p) := by
  have hr := hs.get (r := .row 0 48 15 v xs.length (xs.flatMap (·.cs))) List.mem_cons_self
  have hok := ops_ok (R := []) hs
  refine sl_of_row (d := Kd.part) hr (reps_flat xs (fun x hx => ?_)) (by simp) (fun _ _ => trivial)
  obtain ⟨i, hi⟩ := List.mem_iff_getElem?.1 hx
  exact own_part (hok x hx) (hs.get (mem_S hi [] v F)) (hs.get (mem_Q hi [] v F))
theorem moveL_len (cf : TConfig) (ps : List TPart) : (moveL cf ps).length = ps.length := fold_len _ _
section
variable {cf : TConfig} {pl : List Value} {ps : List TPart} {A : Option Addr} {c : Nat} {ok ok2 : Nat → Prop} {part : Int}
theorem move_val (w : World) (hKl : Kd.config.K w ok cf pl) (hx : Sl Kd.part w ok2 A c ps) (hn : ps.length ≤ 100000000) (hsm : ∀ p, p ∈ ps → PartSmall p) {M : Nat} (hM : QB ps M) (hMb : M * 2 ^ cf.Channels.length ≤ 100000000) :
    Calls Try.prog 12 #[.agg pl.toArray, .slice A ps.length c] w (fun e w' => ∃ A' c', e = .returned (.slice A' (moveL cf ps).length c') ∧ Ext w w' ∧ Sl Kd.part w' (fun _ => True) A' c' (moveL cf ps)) := by
  obtain ⟨A2, c2, A3, c3, A4, c4, A5, c5, rfl, h2, h3, h4, h5⟩ := hKl
  refine (move_any w hx h5 hn hsm hM hMb).mono fun e w' ⟨v, xs, F, he, hs, hm⟩ => ?_
  obtain ⟨A', c', hv, hsl⟩ := ops_sl hs
  subst he
  rw [hm] at hv hsl
  exact ⟨A', c', by rw [hv], hs.toExt, hsl⟩
theorem refmove_val (w : World) (hKl : Kd.config.K w ok cf pl) (hx : Sl Kd.part w ok2 A c ps) (hn : ps.length ≤ 100000000) (hsm : ∀ p, p ∈ ps → PartSmall p) {M : Nat} (hM : QB ps M) (hMb : M * 2 ^ cf.Channels.length ≤ 100000000) :
    Calls Try.prog 13 #[.agg pl.toArray, .slice A ps.length c] w (fun e w' => ∃ A' c', e = .returned (.slice A' (moveL cf ps).length c') ∧ Ext w w' ∧ Sl Kd.part w' (fun _ => True) A' c' (moveL cf ps)) := by
  rw [moveL_len]
  exact refmove_all w hKl hx hn hsm hM hMb
open Classical in
noncomputable def reachV (cf : TConfig) (part : Int) : List Bool := if inR cf part then reachL cf part else []
theorem reachV_in (h : inR cf part) : reachV cf part = reachL cf part := if_pos h
theorem reachV_out (h : ¬ inR cf part) : reachV cf part = [] := if_neg h
theorem reps_bool (w : World) (ok : Nat → Prop) (xs : List Bool) : Reps Kd.bool w ok xs (xs.map Value.bool) := by
  refine ⟨by simp [Kd.bool], fun j x hj => ?_⟩
  obtain ⟨hl, rfl⟩ := List.getElem?_eq_some_iff.1 hj
  simp only [Kd.bool, Nat.mul_one]
  rw [List.drop_eq_getElem_cons (by simpa using hl)]
  simp
theorem reach_sl {w0 w : World} {b : Nat} {bs : List Bool} (hs : St 0 w0 w [.pt b (bs.map Value.bool) 4]) (hn : bs.length ≤ 9223372036854775807) : Sl Kd.bool w (fun _ => True) (some ⟨b, 0, none⟩) bs.length bs :=
  sl_of_pt (d := Kd.bool) (hs.get (r := .pt b _ 4) List.mem_cons_self) (reps_bool w _ bs) trivial hn
theorem reach_val (w : World) (hKl : Kd.config.K w ok cf pl) (hn : cf.Parts.length ≤ 2000000) :
    Calls Try.prog 14 #[.agg pl.toArray, .int .i64 part] w (fun e w' => ∃ A' c', e = .returned (.slice A' (reachV cf part).length c') ∧ Ext w w' ∧ Sl Kd.bool w' (fun _ => True) A' c' (reachV cf part)) := by
  by_cases h : inR cf part
  · rw [reachV_in h]
    refine (reach_in w hKl h hn).mono fun e w' ⟨b, he, hs⟩ => ⟨some ⟨b, 0, none⟩, (reachL cf part).length, ?_, hs.toExt, reach_sl hs (by rw [reachL_len]; omega)⟩
    rw [he, reachL_len]
  · rw [reachV_out h]
    exact (reach_out w hKl h).mono fun e w' ⟨he, hs⟩ => ⟨none, 0, he, hs.toExt, Sl.nil _ _ _ _ (by omega)⟩
theorem refreach_val (w : World) (hKl : Kd.config.K w ok cf pl) (hn : cf.Parts.length ≤ 2000000) :
    Calls Try.prog 15 #[.agg pl.toArray, .int .i64 part] w (fun e w' => ∃ A' c', e = .returned (.slice A' (reachV cf part).length c') ∧ Ext w w' ∧ Sl Kd.bool w' (fun _ => True) A' c' (reachV cf part)) := by
  by_cases h : inR cf part
  · rw [reachV_in h]
    refine (refreach_in w hKl h hn).mono fun e w' ⟨b, he, hs⟩ => ⟨some ⟨b, 0, none⟩, (reachL cf part).length, ?_, hs.toExt, reach_sl hs (by rw [reachL_len]; omega)⟩
    rw [he, reachL_len]
  · rw [reachV_out h]
    exact (refreach_out w hKl h).mono fun e w' ⟨he, hs⟩ => ⟨none, 0, he, hs.toExt, Sl.nil _ _ _ _ (by omega)⟩
end
theorem reachV_iter {cf : TConfig} {part : Int} (h : inR cf part) : reachV cf part = iterR_ cf part cf.Parts.length := by rw [reachV_in h, iterR_reach h]
theorem reachV_get {cf : TConfig} {part : Int} {i : Nat} {b : Bool} (h : (reachV cf part)[i]? = some b) : inR cf part ∧ i < cf.Parts.length ∧ (b = true ↔ Rch cf part (i : Int)) := by
  by_cases hr : inR cf part
  · rw [reachV_in hr] at h
    have hi : i < cf.Parts.length := by rw [← reachL_len cf part]; exact (List.getElem?_eq_some_iff.1 h).1
    obtain ⟨b2, h2, h3⟩ := reachL_get (part := part) hi
    rw [h] at h2
    injection h2 with h2
    subst h2
    exact ⟨hr, hi, h3⟩
  · rw [reachV_out hr] at h
    simp at h
end Go.Proofs.Ytfhghnhgcdiknaa
