/- Who reaches whom: the plain law. -/
import Derived.Test.YtfhghnhgcdiknaaWr
import Derived.Test.YtfhghnhgcdiknaaMap
set_option linter.unusedVariables false
namespace Go.Proofs.Ytfhghnhgcdiknaa
open Go.RowKit
def inR (cf : TConfig) (p : Int) : Prop := 0 ≤ p ∧ p < (cf.Parts.length : Int)
inductive Rch (cf : TConfig) (part : Int) : Int → Prop
  | self : Rch cf part part
  | from_ {x : TChannel} : x ∈ cf.Channels → Rch cf part x.To → inR cf x.From → Rch cf part x.From
  | to_ {x : TChannel} : x ∈ cf.Channels → x.Queuing = true → Rch cf part x.From → inR cf x.To → Rch cf part x.To
def Closed (cf : TConfig) (K : List Int) : Prop := ∀ x ∈ cf.Channels, (x.To ∈ K → inR cf x.From → x.From ∈ K) ∧ (x.Queuing = true → x.From ∈ K → inR cf x.To → x.To ∈ K)
theorem rch_closed {cf : TConfig} {part p : Int} {K : List Int} (h : Rch cf part p) (hp : part ∈ K) (hc : Closed cf K) : p ∈ K := by
  induction h with
  | self => exact hp
  | from_ hx _ hr ih => exact (hc _ hx).1 ih hr
  | to_ hx hq _ hr ih => exact (hc _ hx).2 hq ih hr
def Cand (cf : TConfig) (K : List Int) (y : Int) : Prop := ∃ x ∈ cf.Channels, (x.To ∈ K ∧ y = x.From) ∨ (x.Queuing = true ∧ x.From ∈ K ∧ y = x.To)
theorem cand_rch {cf : TConfig} {part y : Int} {K : List Int} (hK : ∀ p ∈ K, Rch cf part p) (h : Cand cf K y) (hr : inR cf y) : Rch cf part y := by
  obtain ⟨x, hx, ⟨h1, rfl⟩ | ⟨hq, h1, rfl⟩⟩ := h
  · exact .from_ hx (hK _ h1) hr
  · exact .to_ hx hq (hK _ h1) hr
theorem nodup_le : ∀ (n : Nat) (l : List Int), l.Nodup → (∀ p ∈ l, 0 ≤ p ∧ p < (n : Int)) → l.length ≤ n
  | 0, l, _, h => by
    cases l with
    | nil => simp
    | cons p l => have := h p List.mem_cons_self; omega
  | n + 1, l, hd, h => by
    by_cases hm : (n : Int) ∈ l
    · have h1 := nodup_le n (l.erase (n : Int)) (hd.erase _) (fun p hp => by
        have h2 := (hd.mem_erase_iff).1 hp
        have := h p h2.2
        have : p ≠ (n : Int) := h2.1
        omega)
      rw [List.length_erase_of_mem hm] at h1
      omega
    · have h1 := nodup_le n l hd (fun p hp => by
        have := h p hp
        have : p ≠ (n : Int) := fun e => hm (e ▸ hp)
        omega)
      omega
abbrev keys (L : List (Int × Nat)) : List Int := L.map (·.1)
structure KInv (cf : TConfig) (part : Int) (L : List (Int × Nat)) (c : Nat) : Prop where
  good : Good L c
  self : part ∈ keys L
  all : ∀ p ∈ keys L, inR cf p ∧ Rch cf part p
theorem KInv.le {cf : TConfig} {part : Int} {L : List (Int × Nat)} {c : Nat} (h : KInv cf part L c) : L.length ≤ cf.Parts.length := by
  have := nodup_le cf.Parts.length (keys L) h.good.2.2 (fun p hp => (h.all p hp).1)
  simpa using this
theorem KInv.first {cf : TConfig} {part : Int} (h : inR cf part) : KInv cf part (addL [] 0 part) (addC [] 0 part) := by
  refine ⟨Good.nil.add part, by simp [addL], fun p hp => ?_⟩
  have : p = part := by simpa [addL] using hp
  subst this
  exact ⟨h, .self⟩
theorem KInv.add {cf : TConfig} {part y : Int} {L : List (Int × Nat)} {c : Nat} (h : KInv cf part L c) (hr : inR cf y) (hy : Rch cf part y) : KInv cf part (addL L c y) (addC L c y) := by
  refine ⟨h.good.add y, mem_addL.2 (.inr h.self), fun p hp => ?_⟩
  rcases mem_addL.1 hp with rfl | hp
  · exact ⟨hr, hy⟩
  · exact h.all p hp
/-- What the round over the channels has laid by. -/
def M1 (cf : TConfig) (K : List Int) (k : Nat) (M : List Int) : Prop := (∀ y ∈ M, Cand cf K y) ∧ ∀ j x, j < k → cf.Channels[j]? = some x → (x.To ∈ K → x.From ∈ M) ∧ (x.Queuing = true → x.From ∈ K → x.To ∈ M)
theorem M1.nil (cf : TConfig) (K : List Int) : M1 cf K 0 [] := ⟨fun y h => (by cases h), fun j x h => (by omega)⟩
theorem M1.step {cf : TConfig} {K M M' : List Int} {k : Nat} {x : TChannel} (h : M1 cf K k M) (hx : cf.Channels[k]? = some x) (h1 : x.To ∈ K → x.From ∈ M') (h2 : x.Queuing = true → x.From ∈ K → x.To ∈ M') (hs : ∀ y ∈ M, y ∈ M') (hc : ∀ y ∈ M', y ∈ M ∨ (x.To ∈ K ∧ y = x.From) ∨ (x.Queuing = true ∧ x.From ∈ K ∧ y = x.To)) : M1 cf K (k + 1) M' := by
  refine ⟨fun y hy => ?_, fun j z hj hz => ?_⟩
  · rcases hc y hy with h3 | h3
    · exact h.1 y h3
    · exact ⟨x, List.mem_of_getElem? hx, h3⟩
  · by_cases e : j = k
    · subst e
      rw [hx] at hz
      injection hz with hz
      subst hz
      exact ⟨h1, h2⟩
    · have h3 := h.2 j z (by omega) hz
      exact ⟨fun h4 => hs _ (h3.1 h4), fun h4 h5 => hs _ (h3.2 h4 h5)⟩
theorem M1.same {cf : TConfig} {K M : List Int} {k : Nat} {x : TChannel} (h : M1 cf K k M) (hx : cf.Channels[k]? = some x) (h1 : ¬ x.To ∈ K) (h2 : ¬ (x.Queuing = true ∧ x.From ∈ K)) : M1 cf K (k + 1) M :=
  h.step hx (fun h3 => absurd h3 h1) (fun h3 h4 => absurd ⟨h3, h4⟩ h2) (fun _ h => h) (fun _ h => .inl h)
theorem M1.add1 {cf : TConfig} {K : List Int} {M : List (Int × Nat)} {c k : Nat} {x : TChannel} (h : M1 cf K k (keys M)) (hx : cf.Channels[k]? = some x) (h1 : x.To ∈ K) (h2 : ¬ (x.Queuing = true ∧ x.From ∈ K)) : M1 cf K (k + 1) (keys (addL M c x.From)) :=
  h.step hx (fun _ => mem_addL.2 (.inl rfl)) (fun h3 h4 => absurd ⟨h3, h4⟩ h2) (fun _ h => mem_addL.2 (.inr h)) (fun y hy => (mem_addL.1 hy).elim (fun e => .inr (.inl ⟨h1, e⟩)) .inl)
theorem M1.add2 {cf : TConfig} {K : List Int} {M : List (Int × Nat)} {c k : Nat} {x : TChannel} (h : M1 cf K k (keys M)) (hx : cf.Channels[k]? = some x) (h1 : ¬ x.To ∈ K) (hq : x.Queuing = true) (h2 : x.From ∈ K) : M1 cf K (k + 1) (keys (addL M c x.To)) :=
  h.step hx (fun h3 => absurd h3 h1) (fun _ _ => mem_addL.2 (.inl rfl)) (fun _ h => mem_addL.2 (.inr h)) (fun y hy => (mem_addL.1 hy).elim (fun e => .inr (.inr ⟨hq, h2, e⟩)) .inl)
theorem M1.add3 {cf : TConfig} {K : List Int} {M : List (Int × Nat)} {c c2 k : Nat} {x : TChannel} (h : M1 cf K k (keys M)) (hx : cf.Channels[k]? = some x) (h1 : x.To ∈ K) (hq : x.Queuing = true) (h2 : x.From ∈ K) : M1 cf K (k + 1) (keys (addL (addL M c x.From) c2 x.To)) :=
  h.step hx (fun _ => mem_addL.2 (.inr (mem_addL.2 (.inl rfl)))) (fun _ _ => mem_addL.2 (.inl rfl)) (fun _ h => mem_addL.2 (.inr (mem_addL.2 (.inr h)))) (fun y hy => (mem_addL.1 hy).elim (fun e => .inr (.inr ⟨hq, h2, e⟩)) (fun hy => (mem_addL.1 hy).elim (fun e => .inr (.inl ⟨h1, e⟩)) .inl))
/-- The round over what was laid by. -/
structure L2 (cf : TConfig) (part : Int) (K0 M K : List (Int × Nat)) (c : Nat) (seen : Array Nat) (b : Bool) : Prop where
  inv : KInv cf part K c
  done : ∀ p ∈ M, seen.contains p.2 = true → inR cf p.1 → p.1 ∈ keys K
  same : b = false → K = K0
  more : b = true → K0.length < K.length
  ge : K0.length ≤ K.length
theorem L2.first {cf : TConfig} {part : Int} {K0 M : List (Int × Nat)} {c : Nat} (h : KInv cf part K0 c) : L2 cf part K0 M K0 c #[] false := ⟨h, fun p _ hs => by simp at hs, fun _ => rfl, fun h => (by cases h), Nat.le_refl _⟩
theorem born_inj {α : Type} [DecidableEq α] {M : List (α × Nat)} {c : Nat} (hg : Good M c) : ∀ {p q : α × Nat}, p ∈ M → q ∈ M → p.2 = q.2 → p = q := by
  intro p q hp hq e
  have h := hg.1
  clear hg
  induction M with
  | nil => cases hp
  | cons x M ih =>
    rw [List.map_cons, List.nodup_cons] at h
    rcases List.mem_cons.1 hp with rfl | hp'
    · rcases List.mem_cons.1 hq with rfl | hq'
      · rfl
      · exact absurd (List.mem_map.2 ⟨q, hq', e.symm⟩) h.1
    · rcases List.mem_cons.1 hq with rfl | hq'
      · exact absurd (List.mem_map.2 ⟨p, hp', e⟩) h.1
      · exact ih hp' hq' h.2
theorem seen_push {α : Type} [DecidableEq α] {M : List (α × Nat)} {c : Nat} (hg : Good M c) {p q : α × Nat} {seen : Array Nat} (hp : p ∈ M) (hq : q ∈ M) (h : (seen.push p.2).contains q.2 = true) : seen.contains q.2 = true ∨ q = p := by
  rw [Array.contains_push, Bool.or_eq_true] at h
  rcases h with h | h
  · exact .inl h
  · exact .inr (born_inj hg hq hp (by simpa using h))
theorem push_seen {seen : Array Nat} {a b : Nat} (h : seen.contains b = true) : (seen.push a).contains b = true := by
  rw [Array.contains_push, h]; rfl
theorem push_self {seen : Array Nat} {a : Nat} : (seen.push a).contains a = true := by simp
theorem L2.skip {cf : TConfig} {part : Int} {K0 M K : List (Int × Nat)} {c cm : Nat} {seen : Array Nat} {b : Bool} (h : L2 cf part K0 M K c seen b) (hg : Good M cm) {p : Int × Nat} (hp : p ∈ M) (hn : inR cf p.1 → p.1 ∈ keys K) : L2 cf part K0 M K c (seen.push p.2) b :=
  ⟨h.inv, fun q hq hs hr => (seen_push hg hp hq hs).elim (fun h1 => h.done q hq h1 hr) (fun e => by subst e; exact hn hr), h.same, h.more, h.ge⟩
theorem L2.take {cf : TConfig} {part : Int} {K0 M K : List (Int × Nat)} {c cm : Nat} {seen : Array Nat} {b : Bool} (h : L2 cf part K0 M K c seen b) (hg : Good M cm) {p : Int × Nat} (hp : p ∈ M) (hr : inR cf p.1) (hn : ¬ p.1 ∈ keys K) (hc : Cand cf (keys K0) p.1) (h0 : ∀ q ∈ keys K0, Rch cf part q) : L2 cf part K0 M (addL K c p.1) (addC K c p.1) (seen.push p.2) true := by
  have hlen : (addL K c p.1).length = K.length + 1 := by simp only [addL]; rw [if_neg hn]; simp
  refine ⟨h.inv.add hr (cand_rch h0 hc hr), fun q hq hs hrq => ?_, fun e => (by cases e), fun _ => (by rw [hlen]; have := h.ge; omega), (by rw [hlen]; have := h.ge; omega)⟩
  rcases seen_push hg hp hq hs with h1 | rfl
  · exact mem_addL.2 (.inr (h.done q hq h1 hrq))
  · exact mem_addL.2 (.inl rfl)
theorem L2.closed {cf : TConfig} {part : Int} {K0 M K : List (Int × Nat)} {c : Nat} {seen : Array Nat} (h : L2 cf part K0 M K c seen false) (hm : M1 cf (keys K0) cf.Channels.length (keys M)) (hs : ∀ p ∈ M, seen.contains p.2 = true) : Closed cf (keys K) := by
  have e := h.same rfl
  intro x hx
  obtain ⟨j, hj⟩ := List.mem_iff_getElem?.1 hx
  have hjl := (List.getElem?_eq_some_iff.1 hj).1
  obtain ⟨h1, h2⟩ := hm.2 j x hjl hj
  refine ⟨fun h3 hr => ?_, fun hq h3 hr => ?_⟩
  · rw [e] at h3
    obtain ⟨p, hp, hpx⟩ := List.mem_map.1 (h1 h3)
    have := h.done p hp (hs p hp) (by rw [hpx]; exact hr)
    rwa [hpx] at this
  · rw [e] at h3
    obtain ⟨p, hp, hpx⟩ := List.mem_map.1 (h2 hq h3)
    have := h.done p hp (hs p hp) (by rw [hpx]; exact hr)
    rwa [hpx] at this
/-- The slice that is filled. -/
def Fill (K : List (Int × Nat)) (seen : Array Nat) (n : Nat) (bs : List Bool) : Prop := bs.length = n ∧ ∀ (i : Nat) (b : Bool), bs[i]? = some b → (b = true ↔ ∃ p ∈ K, seen.contains p.2 = true ∧ p.1 = (i : Int))
theorem Fill.nil (K : List (Int × Nat)) (n : Nat) : Fill K #[] n (List.replicate n false) := by
  refine ⟨by simp, fun i b h => ?_⟩
  rw [List.getElem?_replicate] at h
  split at h
  · injection h with h
    subst h
    simp
  · cases h
theorem Fill.step {K : List (Int × Nat)} {seen : Array Nat} {n c : Nat} {bs : List Bool} (h : Fill K seen n bs) (hg : Good K c) {p : Int × Nat} (hp : p ∈ K) (h0 : 0 ≤ p.1) : Fill K (seen.push p.2) n (bs.set p.1.toNat true) := by
  refine ⟨by rw [List.length_set]; exact h.1, fun i b hb => ?_⟩
  rw [List.getElem?_set] at hb
  split at hb
  · rename_i e
    split at hb
    · injection hb with hb
      subst hb
      simp only [true_iff]
      exact ⟨p, hp, push_self, by omega⟩
    · cases hb
  · rename_i e
    rw [h.2 i b hb]
    constructor
    · rintro ⟨q, hq, hs, hi⟩
      exact ⟨q, hq, push_seen hs, hi⟩
    · rintro ⟨q, hq, hs, hi⟩
      rcases seen_push hg hp hq hs with h1 | rfl
      · exact ⟨q, hq, h1, hi⟩
      · omega
open Classical in
noncomputable def reachL (cf : TConfig) (part : Int) : List Bool := (List.range cf.Parts.length).map (fun (i : Nat) => decide (Rch cf part (i : Int)))
theorem reachL_len (cf : TConfig) (part : Int) : (reachL cf part).length = cf.Parts.length := by simp [reachL]
theorem reachL_get {cf : TConfig} {part : Int} {i : Nat} (hi : i < cf.Parts.length) : ∃ b, (reachL cf part)[i]? = some b ∧ (b = true ↔ Rch cf part (i : Int)) := by
  refine ⟨_, by simp [reachL, hi]; rfl, by simp⟩
theorem bool_ext {bs cs : List Bool} (hl : bs.length = cs.length) (h : ∀ (i : Nat) b c, bs[i]? = some b → cs[i]? = some c → (b = true ↔ c = true)) : bs = cs := by
  apply List.ext_getElem?
  intro i
  by_cases hi : i < bs.length
  · have h1 := List.getElem?_eq_getElem hi
    have h2 := List.getElem?_eq_getElem (show i < cs.length by omega)
    have := h i _ _ h1 h2
    rw [h1, h2]
    congr 1
    exact Bool.eq_iff_iff.2 this
  · rw [List.getElem?_eq_none (by omega), List.getElem?_eq_none (by omega)]
theorem Fill.reach {cf : TConfig} {part : Int} {K : List (Int × Nat)} {c : Nat} {seen : Array Nat} {bs : List Bool} (h : Fill K seen cf.Parts.length bs) (hi : KInv cf part K c) (hc : Closed cf (keys K)) (hs : ∀ p ∈ K, seen.contains p.2 = true) : bs = reachL cf part := by
  refine bool_ext (by rw [h.1, reachL_len]) (fun i b b' h1 h2 => ?_)
  have hlt : i < cf.Parts.length := by rw [← h.1]; exact (List.getElem?_eq_some_iff.1 h1).1
  obtain ⟨b2, h3, h4⟩ := reachL_get (part := part) hlt
  rw [h3] at h2
  injection h2 with h2
  subst h2
  rw [h.2 i b h1, h4]
  constructor
  · rintro ⟨p, hp, _, hpi⟩
    have := (hi.all p.1 (List.mem_map.2 ⟨p, hp, rfl⟩)).2
    rwa [hpi] at this
  · intro hr
    obtain ⟨p, hp, hpi⟩ := List.mem_map.1 (rch_closed hr hi.self hc)
    exact ⟨p, hp, hs p hp, hpi⟩
end Go.Proofs.Ytfhghnhgcdiknaa
