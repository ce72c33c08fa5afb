/- The document's Reach tells who reaches whom: plain. -/
import Derived.Test.YtfhghnhgcdiknaaWx
set_option linter.unusedVariables false
namespace Go.Proofs.Ytfhghnhgcdiknaa
open Go.RowKit
def stepR (n : Nat) (bs : List Bool) (x : TChannel) : List Bool :=
  if x.From < 0 ∨ (n : Int) ≤ x.From ∨ x.To < 0 ∨ (n : Int) ≤ x.To then bs
  else
    let b1 := if bs[x.To.toNat]? = some true then bs.set x.From.toNat true else bs
    if x.Queuing = true ∧ b1[x.From.toNat]? = some true then b1.set x.To.toNat true else b1
def passR (cf : TConfig) (bs : List Bool) : List Bool := cf.Channels.foldl (stepR cf.Parts.length) bs
def iterR_ (cf : TConfig) (part : Int) : Nat → List Bool
  | 0 => (List.replicate cf.Parts.length false).set part.toNat true
  | k + 1 => passR cf (iterR_ cf part k)
def LeB (a b : List Bool) : Prop := a.length = b.length ∧ ∀ i : Nat, a[i]? = some true → b[i]? = some true
theorem LeB.refl (a : List Bool) : LeB a a := ⟨rfl, fun _ h => h⟩
theorem LeB.trans {a b c : List Bool} (h : LeB a b) (k : LeB b c) : LeB a c := ⟨h.1.trans k.1, fun i hi => k.2 i (h.2 i hi)⟩
theorem LeB.anti {a b : List Bool} (h : LeB a b) (k : LeB b a) : a = b := by
  refine bool_ext h.1 (fun i x y hx hy => ⟨fun e => ?_, fun e => ?_⟩)
  · subst e
    have := h.2 i hx
    rw [hy] at this
    exact Option.some.inj this
  · subst e
    have := k.2 i hy
    rw [hx] at this
    exact Option.some.inj this
theorem LeB.set (a : List Bool) (i : Nat) : LeB a (a.set i true) := by
  refine ⟨by simp, fun j hj => ?_⟩
  rw [List.getElem?_set]
  have hl := (List.getElem?_eq_some_iff.1 hj).1
  split
  · rename_i e
    subst e
    simp [hl]
  · exact hj
theorem stepR_le (n : Nat) (bs : List Bool) (x : TChannel) : LeB bs (stepR n bs x) := by
  unfold stepR
  split
  · exact .refl _
  · have h1 : LeB bs (if bs[x.To.toNat]? = some true then bs.set x.From.toNat true else bs) := by
      split
      · exact .set _ _
      · exact .refl _
    simp only
    generalize (if bs[x.To.toNat]? = some true then bs.set x.From.toNat true else bs) = b1 at h1 ⊢
    split
    · exact h1.trans (.set _ _)
    · exact h1
theorem foldR_le (n : Nat) (ys : List TChannel) : ∀ bs : List Bool, LeB bs (ys.foldl (stepR n) bs) := by
  induction ys with
  | nil => intro bs; exact .refl _
  | cons y ys ih => intro bs; exact (stepR_le n bs y).trans (ih _)
theorem foldR_same (n : Nat) (ys : List TChannel) : ∀ bs : List Bool, ys.foldl (stepR n) bs = bs → ∀ x ∈ ys, stepR n bs x = bs := by
  induction ys with
  | nil => intro bs _ x hx; cases hx
  | cons y ys ih =>
    intro bs h x hx
    rw [List.foldl_cons] at h
    have h1 := foldR_le n ys (stepR n bs y)
    rw [h] at h1
    have h2 : stepR n bs y = bs := h1.anti (stepR_le n bs y)
    rcases List.mem_cons.1 hx with rfl | hx
    · exact h2
    · rw [h2] at h
      exact ih bs h x hx
theorem foldR_id (n : Nat) (ys : List TChannel) : ∀ bs : List Bool, (∀ x ∈ ys, stepR n bs x = bs) → ys.foldl (stepR n) bs = bs := by
  induction ys with
  | nil => intro bs _; rfl
  | cons y ys ih =>
    intro bs h
    rw [List.foldl_cons, h y List.mem_cons_self]
    exact ih bs (fun x hx => h x (List.mem_cons_of_mem _ hx))
def cntB : List Bool → Nat
  | [] => 0
  | b :: bs => (if b then 1 else 0) + cntB bs
theorem cntB_le : ∀ bs : List Bool, cntB bs ≤ bs.length
  | [] => Nat.le_refl _
  | b :: bs => by
    have := cntB_le bs
    simp only [cntB, List.length_cons]
    split <;> omega
theorem cntB_lt : ∀ (a b : List Bool), LeB a b → cntB a ≤ cntB b ∧ (cntB a = cntB b → a = b)
  | [], [], _ => ⟨Nat.le_refl _, fun _ => rfl⟩
  | [], y :: b, h => by have := h.1; simp at this
  | x :: a, [], h => by have := h.1; simp at this
  | x :: a, y :: b, h => by
    have h1 : LeB a b := ⟨by have := h.1; simpa using this, fun i hi => by have := h.2 (i + 1); simpa using this (by simpa using hi)⟩
    obtain ⟨h2, h3⟩ := cntB_lt a b h1
    have h4 : x = true → y = true := fun e => by have := h.2 0; simp [e] at this; exact this
    cases x <;> cases y <;> simp [cntB] at h4 ⊢
    · exact ⟨h2, h3⟩
    · exact ⟨by omega, by omega⟩
    · exact ⟨h2, h3⟩
def TB (bs : List Bool) (p : Int) : Prop := 0 ≤ p ∧ bs[p.toNat]? = some true
def ClosedT (cf : TConfig) (T : Int → Prop) : Prop := ∀ x ∈ cf.Channels, (T x.To → inR cf x.From → T x.From) ∧ (x.Queuing = true → T x.From → inR cf x.To → T x.To)
theorem rch_closedT {cf : TConfig} {part p : Int} {T : Int → Prop} (h : Rch cf part p) (hp : T part) (hc : ClosedT cf T) : T p := by
  induction h with
  | self => exact hp
  | from_ hx _ hr ih => exact (hc _ hx).1 ih hr
  | to_ hx hq _ hr ih => exact (hc _ hx).2 hq ih hr
theorem set_self {bs : List Bool} {i : Nat} (h : bs[i]? = some true) : bs.set i true = bs := by
  apply List.ext_getElem?
  intro j
  rw [List.getElem?_set]
  split
  · rename_i e
    subst e
    obtain ⟨hl, hv⟩ := List.getElem?_eq_some_iff.1 h
    simp [hl, hv]
  · rfl
theorem step_closed {cf : TConfig} {bs : List Bool} (hl : bs.length = cf.Parts.length) (hc : ClosedT cf (TB bs)) : ∀ x ∈ cf.Channels, stepR cf.Parts.length bs x = bs := by
  intro x hx
  unfold stepR
  split
  · rfl
  · rename_i hr
    have h1 : (if bs[x.To.toNat]? = some true then bs.set x.From.toNat true else bs) = bs := by
      split
      · rename_i ht
        exact set_self ((hc x hx).1 ⟨by omega, ht⟩ ⟨by omega, by omega⟩).2
      · rfl
    simp only [h1]
    split
    · rename_i hq
      exact set_self ((hc x hx).2 hq.1 ⟨by omega, hq.2⟩ ⟨by omega, by omega⟩).2
    · rfl
theorem same_closed {cf : TConfig} {bs : List Bool} (hl : bs.length = cf.Parts.length) (h : ∀ x ∈ cf.Channels, stepR cf.Parts.length bs x = bs) : ClosedT cf (TB bs) := by
  intro x hx
  have h1 := h x hx
  have inb : ∀ p : Int, TB bs p → p < (cf.Parts.length : Int) := fun p hp => by
    have := (List.getElem?_eq_some_iff.1 hp.2).1
    have := hp.1
    omega
  have key : 0 ≤ x.From → x.From < (cf.Parts.length : Int) → 0 ≤ x.To → x.To < (cf.Parts.length : Int) → (bs[x.To.toNat]? = some true → bs[x.From.toNat]? = some true) ∧ (x.Queuing = true → bs[x.From.toNat]? = some true → bs[x.To.toNat]? = some true) := by
    intro a0 a1 b0 b1
    unfold stepR at h1
    rw [if_neg (by omega)] at h1
    have hF : x.From.toNat < bs.length := by omega
    have hT : x.To.toNat < bs.length := by omega
    have e1 : LeB bs (if bs[x.To.toNat]? = some true then bs.set x.From.toNat true else bs) := by
      split
      · exact .set _ _
      · exact .refl _
    have e2 : LeB (if bs[x.To.toNat]? = some true then bs.set x.From.toNat true else bs) bs := by
      simp only at h1
      generalize (if bs[x.To.toNat]? = some true then bs.set x.From.toNat true else bs) = b1 at h1 e1 ⊢
      split at h1
      · have := LeB.set b1 x.To.toNat
        rwa [h1] at this
      · rw [h1]; exact .refl _
    have e3 := e1.anti e2
    refine ⟨fun ht => ?_, fun hq hf => ?_⟩
    · rw [if_pos ht] at e3
      rw [e3]
      simp [hF]
    · simp only [← e3] at h1
      rw [if_pos ⟨hq, hf⟩] at h1
      rw [← h1]
      simp [hT]
  refine ⟨fun ht hr => ⟨hr.1, (key hr.1 hr.2 ht.1 (inb _ ht)).1 ht.2⟩, fun hq hf hr => ⟨hr.1, (key hf.1 (inb _ hf) hr.1 hr.2).2 hq hf.2⟩⟩
theorem iterR_len (cf : TConfig) (part : Int) : ∀ k, (iterR_ cf part k).length = cf.Parts.length
  | 0 => by simp [iterR_]
  | k + 1 => by
    have := (foldR_le cf.Parts.length cf.Channels (iterR_ cf part k)).1
    rw [iterR_len cf part k] at this
    exact this.symm
theorem set_true {bs : List Bool} {i j : Nat} (h : (bs.set i true)[j]? = some true) : j = i ∨ bs[j]? = some true := by
  rw [List.getElem?_set] at h
  split at h
  · rename_i e; exact .inl e.symm
  · exact .inr h
theorem stepR_sound {cf : TConfig} {part : Int} {bs : List Bool} {x : TChannel} (hx : x ∈ cf.Channels) (h : ∀ i : Nat, bs[i]? = some true → Rch cf part (i : Int)) : ∀ i : Nat, (stepR cf.Parts.length bs x)[i]? = some true → Rch cf part (i : Int) := by
  unfold stepR
  split
  · exact h
  · rename_i hr
    have hF : inR cf x.From := ⟨by omega, by omega⟩
    have hT : inR cf x.To := ⟨by omega, by omega⟩
    have h1 : ∀ i : Nat, (if bs[x.To.toNat]? = some true then bs.set x.From.toNat true else bs)[i]? = some true → Rch cf part (i : Int) := by
      split
      · rename_i ht
        intro i hi
        rcases set_true hi with rfl | hi
        · have h2 := h _ ht
          rw [Int.toNat_of_nonneg hT.1] at h2
          rw [Int.toNat_of_nonneg hF.1]
          exact .from_ hx h2 hF
        · exact h i hi
      · exact h
    simp only
    generalize (if bs[x.To.toNat]? = some true then bs.set x.From.toNat true else bs) = b1 at h1 ⊢
    split
    · rename_i hq
      intro i hi
      rcases set_true hi with rfl | hi
      · have h2 := h1 _ hq.2
        rw [Int.toNat_of_nonneg hF.1] at h2
        rw [Int.toNat_of_nonneg hT.1]
        exact .to_ hx hq.1 h2 hT
      · exact h1 i hi
    · exact h1
theorem foldR_sound {cf : TConfig} {part : Int} : ∀ (ys : List TChannel) (bs : List Bool), (∀ x ∈ ys, x ∈ cf.Channels) → (∀ i : Nat, bs[i]? = some true → Rch cf part (i : Int)) → ∀ i : Nat, (ys.foldl (stepR cf.Parts.length) bs)[i]? = some true → Rch cf part (i : Int)
  | [], bs, _, h => h
  | y :: ys, bs, hy, h => foldR_sound ys _ (fun x hx => hy x (List.mem_cons_of_mem _ hx)) (stepR_sound (hy y List.mem_cons_self) h)
theorem iterR_sound {cf : TConfig} {part : Int} (hp : inR cf part) : ∀ (k i : Nat), (iterR_ cf part k)[i]? = some true → Rch cf part (i : Int)
  | 0, i, h => by
    rcases set_true h with rfl | h
    · rw [Int.toNat_of_nonneg hp.1]; exact .self
    · rw [List.getElem?_replicate] at h
      split at h
      · simp at h
      · cases h
  | k + 1, i, h => foldR_sound cf.Channels _ (fun _ h => h) (fun i h => iterR_sound hp k i h) i h
theorem iterR_part {cf : TConfig} {part : Int} (hp : inR cf part) : ∀ k, TB (iterR_ cf part k) part
  | 0 => by
    have h1 := hp.1
    have h2 := hp.2
    exact ⟨hp.1, by rw [iterR_, List.getElem?_set_self (by rw [List.length_replicate]; omega)]⟩
  | k + 1 => ⟨hp.1, (foldR_le cf.Parts.length cf.Channels (iterR_ cf part k)).2 _ (iterR_part hp k).2⟩
theorem cnt_pos {bs : List Bool} {i : Nat} (h : bs[i]? = some true) : 1 ≤ cntB bs := by
  induction bs generalizing i with
  | nil => simp at h
  | cons b bs ih =>
    cases i with
    | zero => simp at h; subst h; simp [cntB]
    | succ i => have := ih (by simpa using h); simp only [cntB]; omega
theorem iterR_grows {cf : TConfig} {part : Int} (hp : inR cf part) : ∀ k, ClosedT cf (TB (iterR_ cf part k)) ∨ k + 1 ≤ cntB (iterR_ cf part k)
  | 0 => .inr (cnt_pos (iterR_part hp 0).2)
  | k + 1 => by
    have hl := iterR_len cf part k
    rcases iterR_grows hp k with h | h
    · left
      have h1 : iterR_ cf part (k + 1) = iterR_ cf part k := foldR_id _ _ _ (step_closed hl h)
      rw [h1]
      exact h
    · have hle := foldR_le cf.Parts.length cf.Channels (iterR_ cf part k)
      obtain ⟨h1, h2⟩ := cntB_lt _ _ hle
      by_cases e : cntB (iterR_ cf part k) = cntB (cf.Channels.foldl (stepR cf.Parts.length) (iterR_ cf part k))
      · left
        have h3 := h2 e
        have h4 : iterR_ cf part (k + 1) = iterR_ cf part k := h3.symm
        rw [h4]
        exact same_closed hl (foldR_same _ _ _ h3.symm)
      · right
        have h5 : cntB (iterR_ cf part (k + 1)) = cntB (cf.Channels.foldl (stepR cf.Parts.length) (iterR_ cf part k)) := rfl
        omega
theorem iterR_reach {cf : TConfig} {part : Int} (hp : inR cf part) : iterR_ cf part cf.Parts.length = reachL cf part := by
  have hl := iterR_len cf part cf.Parts.length
  have hc : ClosedT cf (TB (iterR_ cf part cf.Parts.length)) := by
    rcases iterR_grows hp cf.Parts.length with h | h
    · exact h
    · have := cntB_le (iterR_ cf part cf.Parts.length)
      omega
  refine bool_ext (by rw [hl, reachL_len]) (fun i b b' h1 h2 => ?_)
  have hlt : i < cf.Parts.length := by rw [← hl]; exact (List.getElem?_eq_some_iff.1 h1).1
  obtain ⟨b2, h3, h4⟩ := reachL_get (part := part) hlt
  rw [h3] at h2
  injection h2 with h2
  subst h2
  rw [h4]
  constructor
  · intro e
    subst e
    exact iterR_sound hp _ i h1
  · intro hr
    have := (rch_closedT hr (iterR_part hp _) hc).2
    simp only [Int.toNat_natCast] at this
    rw [h1] at this
    exact Option.some.inj this
theorem foldR_take {cf : TConfig} {k : Nat} {x : TChannel} (h : cf.Channels[k]? = some x) (n : Nat) (bs : List Bool) : (cf.Channels.take (k + 1)).foldl (stepR n) bs = stepR n ((cf.Channels.take k).foldl (stepR n) bs) x := by
  rw [List.take_add_one, h]
  simp
end Go.Proofs.Ytfhghnhgcdiknaa
