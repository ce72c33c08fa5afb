/- A small logic for walking the program: frames as lists of slots, own blocks as a list of resources. Our own words; no condition. -/
import Derived.WalkKit
import Derived.WalkSpells
import Derived.WalkLawsBesides
import Derived.Laws.CopyRow
import Derived.Laws.IdiomCopy
import Derived.Orders
namespace Go.Proofs.Ytfhghnhgcdiknaa
open Go.RowKit

/-! ### Frames -/
abbrev Slots := List (Nat × Value)
def get : Slots → Nat → Option Value
  | [], _ => none
  | (k, v) :: r, t => if Nat.beq k t then some v else get r t
structure Fr (a : Act) (n : Nat) (L : Slots) : Prop where
  size : a.tmps.size = n
  defers : a.defers = []
  at_ : ∀ t v, get L t = some v → a.tmps.getD t undef = v
def ev (L : Slots) : Operand → Option Value
  | .tmp t => get L t
  | .const v => some v
  | .global g => some (.pointer (some ⟨g, 0, none⟩))
  | .func f => some (.func (.func f) #[] #[])
def evs (L : Slots) : List Operand → Option (List Value)
  | [] => some []
  | x :: r => match ev L x, evs L r with
    | some v, some vs => some (v :: vs)
    | _, _ => none
theorem Fr.ev {a : Act} {n : Nat} {L : Slots} (h : Fr a n L) {x : Operand} {v : Value} (hx : ev L x = some v) : a.eval x = v := by
  cases x with
  | tmp t => exact h.at_ t v hx
  | const u => simpa [Go.Proofs.Ytfhghnhgcdiknaa.ev, Act.eval] using hx
  | global g => simpa [Go.Proofs.Ytfhghnhgcdiknaa.ev, Act.eval] using hx
  | func f => simpa [Go.Proofs.Ytfhghnhgcdiknaa.ev, Act.eval] using hx
theorem Fr.evs {a : Act} {n : Nat} {L : Slots} (h : Fr a n L) : ∀ {xs : List Operand} {vs : List Value}, evs L xs = some vs → xs.map a.eval = vs
  | [], vs, hx => by simpa [Go.Proofs.Ytfhghnhgcdiknaa.evs] using hx
  | x :: r, vs, hx => by
    unfold Go.Proofs.Ytfhghnhgcdiknaa.evs at hx
    cases h1 : Go.Proofs.Ytfhghnhgcdiknaa.ev L x with
    | none => rw [h1] at hx; simp at hx
    | some v =>
      cases h2 : Go.Proofs.Ytfhghnhgcdiknaa.evs L r with
      | none => rw [h1, h2] at hx; simp at hx
      | some vs' =>
        rw [h1, h2] at hx
        simp only [Option.some.injEq] at hx
        rw [← hx, List.map_cons, h.ev h1, h.evs h2]
theorem Fr.put {a : Act} {n : Nat} {L : Slots} (h : Fr a n L) {d : Nat} (hd : Nat.blt d n = true) (v : Value) : Fr (a.put (some d) v) n ((d, v) :: L) := by
  have hd' : d < a.tmps.size := by rw [h.size]; simpa using hd
  refine ⟨by simpa [Act.put] using h.size, h.defers, fun t u ht => ?_⟩
  simp only [get] at ht
  simp only [Act.put]
  by_cases e : d = t
  · subst e
    simp at ht
    subst ht
    simp [Array.getD_eq_getD_getElem?, hd']
  · have : Nat.beq d t = false := by cases hb : Nat.beq d t with
      | false => rfl
      | true => exact absurd (Nat.eq_of_beq_eq_true hb) e
    rw [this] at ht
    have h1 := h.at_ t u (by simpa using ht)
    simpa [Array.getD_eq_getD_getElem?, Array.getElem?_setIfInBounds, e] using h1
theorem Fr.put0 {a : Act} {n : Nat} {L : Slots} (h : Fr a n L) (v : Value) : Fr (a.put none v) n L := h
/-- Fewer slots. -/
inductive Sub : Slots → Slots → Prop
  | nil {L} : Sub [] L
  | cons {t v L0 L} : get L t = some v → Sub L0 L → Sub ((t, v) :: L0) L
theorem Sub.get {L0 L : Slots} (h : Sub L0 L) : ∀ t v, get L0 t = some v → get L t = some v := by
  induction h with
  | nil => intro t v h; simp [Go.Proofs.Ytfhghnhgcdiknaa.get] at h
  | cons h _ ih =>
    intro t v hg
    simp only [Go.Proofs.Ytfhghnhgcdiknaa.get] at hg
    split at hg
    · rename_i e
      have e' := Nat.eq_of_beq_eq_true e
      subst e'
      injection hg with hg
      subst hg
      exact h
    · exact ih t v hg
theorem Fr.sub {a : Act} {n : Nat} {L0 L : Slots} (h : Fr a n L) (hs : Sub L0 L) : Fr a n L0 := ⟨h.size, h.defers, fun t v ht => h.at_ t v (hs.get t v ht)⟩

/-! ### Code -/
abbrev Post := Exit → Slots → World → Prop
/-- From every frame that holds the slots L, in w, the code comes to Q. -/
def Wp (P : Program) (n : Nat) (c : Code) (Q : Post) (L : Slots) (w : World) : Prop :=
  ∀ a, Fr a n L → c.wp P (fun e a' w' => ∃ L', Fr a' n L' ∧ Q e L' w') a w
/-- The same for the rest of a region's operations; they end normally. -/
def Wl (P : Program) (n : Nat) (all : Array Oper) (l : List Oper) (K : Slots → World → Prop) (L : Slots) (w : World) : Prop :=
  ∀ a, Fr a n L → wpList P all (fun e a' w' => e = .normal ∧ ∃ L', Fr a' n L' ∧ K L' w') l a w
section
variable {P : Program} {n : Nat} {Q : Post} {K : Slots → World → Prop} {L L0 : Slots} {w : World} {x y z : Code} {all : Array Oper} {l : List Oper}
theorem Wp.mono {c : Code} {Q' : Post} (h : Wp P n c Q L w) (hq : ∀ e L w, Q e L w → Q' e L w) : Wp P n c Q' L w :=
  fun a ha => Code.wp_mono (fun _ _ _ ⟨L', h1, h2⟩ => ⟨L', h1, hq _ _ _ h2⟩) (h a ha)
theorem c_sub {c : Code} (L0 : Slots) (hs : Sub L0 L) (h : Wp P n c Q L0 w) : Wp P n c Q L w := fun a ha => h a (ha.sub hs)
end

/-! ### What is left to do -/
inductive It where
  | c (c : Code)
  | m (id : Nat)
  | again (J : Slots → World → Prop)
  | jump (l : Nat) (J : Slots → World → Prop)
def post (P : Program) (n : Nat) : List It → Post → Post
  | [], Q => Q
  | .c c :: s, Q => fun e L w => match e with
    | .normal => Wp P n c (post P n s Q) L w
    | e => post P n s Q e L w
  | .m id :: s, Q => fun e L w => match e with
    | .exit j => if j = id then post P n s Q .normal L w else post P n s Q (.exit j) L w
    | e => post P n s Q e L w
  | .again J :: s, Q => fun e L w => match e with
    | .normal => J L w
    | e => post P n s Q e L w
  | .jump l J :: s, Q => fun e L w => match e with
    | .goto l' => l' = l ∧ J L w
    | e => post P n s Q e L w
def Wps (P : Program) (n : Nat) (s : List It) (Q : Post) (L : Slots) (w : World) : Prop := post P n s Q .normal L w
/-- What is left behind 'exit id'. -/
def popTo (id : Nat) : List It → Option (List It)
  | [] => none
  | .m j :: s => if Nat.beq id j then some s else popTo id s
  | .c _ :: s => popTo id s
  | .again _ :: s => popTo id s
  | .jump _ _ :: s => popTo id s
/-- What is asked at 'goto l'. -/
def jumpTo (l : Nat) : List It → Option (Slots → World → Prop)
  | [] => none
  | .m _ :: s => jumpTo l s
  | .c _ :: s => jumpTo l s
  | .again _ :: s => jumpTo l s
  | .jump l' J :: _ => if Nat.beq l l' then some J else none
section
variable {P : Program} {n : Nat} {Q : Post} {K : Slots → World → Prop} {L L0 : Slots} {w : World} {x y z : Code} {all : Array Oper} {l : List Oper} {s : List It}
theorem post_exit {id : Nat} {s s' : List It} (h : popTo id s = some s') (hq : post P n s' Q .normal L w) : post P n s Q (.exit id) L w := by
  induction s with
  | nil => simp [popTo] at h
  | cons i s ih =>
    cases i with
    | c _ => exact ih (by simpa only [popTo] using h)
    | again _ => exact ih (by simpa only [popTo] using h)
    | jump _ _ => exact ih (by simpa only [popTo] using h)
    | m j =>
      simp only [popTo] at h
      simp only [post]
      split at h
      · rename_i e
        injection h with h
        subst h
        rw [if_pos (Nat.eq_of_beq_eq_true e)]
        exact hq
      · rename_i e
        rw [if_neg (fun e' => e (by rw [e']; simp))]
        exact ih h
theorem least {p : Nat → Prop} (h : ∃ m, p m) : ∃ m, p m ∧ ∀ k, p k → m ≤ k := by
  obtain ⟨m, hm⟩ := h
  induction m using Nat.strongRecOn with
  | _ m ih =>
    by_cases hx : ∃ k, k < m ∧ p k
    · obtain ⟨k, hk, hp⟩ := hx
      exact ih k hk hp
    · exact ⟨m, hm, fun k hp => Nat.le_of_not_lt fun hlt => hx ⟨k, hlt, hp⟩⟩
theorem post_ret : ∀ {s : List It}, Q .ret L w → post P n s Q .ret L w
  | [], h => h
  | .c _ :: s, h => post_ret (s := s) h
  | .m _ :: s, h => post_ret (s := s) h
  | .again _ :: s, h => post_ret (s := s) h
  | .jump _ _ :: s, h => post_ret (s := s) h
theorem post_goto {l : Nat} {J : Slots → World → Prop} : ∀ {s : List It}, jumpTo l s = some J → J L w → post P n s Q (.goto l) L w
  | [], h, _ => by simp [jumpTo] at h
  | .c _ :: s, h, hj => post_goto (s := s) h hj
  | .m _ :: s, h, hj => post_goto (s := s) h hj
  | .again _ :: s, h, hj => post_goto (s := s) h hj
  | .jump l' J' :: s, h, hj => by
    simp only [jumpTo] at h
    split at h
    · rename_i e
      injection h with h
      subst h
      exact ⟨Nat.eq_of_beq_eq_true e, hj⟩
    · cases h
theorem s_start {c : Code} (h : Wps P n [.c c] Q L w) : Wp P n c Q L w := h
theorem s_nil (h : Q .normal L w) : Wps P n [] Q L w := h
theorem s_sub (L0 : Slots) (hs : Sub L0 L) {c : Code} (h : Wps P n (.c c :: s) Q L0 w) : Wps P n (.c c :: s) Q L w := fun a ha => h a (ha.sub hs)
theorem s_seq (h : Wps P n (.c x :: .c y :: s) Q L w) : Wps P n (.c (.seq x y) :: s) Q L w := by
  intro a ha
  refine wp_seq (Code.wp_mono ?_ (h a ha))
  intro e a' w' ⟨L', h1, h2⟩
  cases e with
  | normal => exact h2 a' h1
  | exit id => exact ⟨L', h1, h2⟩
  | goto l => exact ⟨L', h1, h2⟩
  | ret => exact ⟨L', h1, h2⟩
  | panic ch => exact ⟨L', h1, h2⟩
  | outgrown => exact ⟨L', h1, h2⟩
theorem s_skip (h : Wps P n s Q L w) : Wps P n (.c .skip :: s) Q L w := fun _ ha => wp_skip ⟨L, ha, h⟩
theorem s_ret (h : Q .ret L w) : Wps P n (.c .ret :: s) Q L w := fun _ ha => wp_ret ⟨L, ha, post_ret h⟩
theorem s_exit {id : Nat} {s' : List It} (hp : popTo id s = some s') (h : Wps P n s' Q L w) : Wps P n (.c (.exit id) :: s) Q L w := fun _ ha => wp_exit ⟨L, ha, post_exit hp h⟩
theorem s_mark {id : Nat} (h : Wps P n s Q L w) : Wps P n (.m id :: s) Q L w := h
theorem s_again {J : Slots → World → Prop} (h : J L w) : Wps P n (.again J :: s) Q L w := h
theorem s_cond {o : Operand} {b : Bool} (ho : ev L o = some (.bool b)) (ht : b = true → Wps P n (.c x :: s) Q L w) (hf : b = false → Wps P n (.c y :: s) Q L w) : Wps P n (.c (.cond o x y) :: s) Q L w := by
  intro a ha
  refine wp_cond (ha.ev ho) ?_
  cases b with
  | true => exact ht rfl a ha
  | false => exact hf rfl a ha
theorem s_then {o : Operand} (ho : ev L o = some (.bool true)) (h : Wps P n (.c x :: s) Q L w) : Wps P n (.c (.cond o x y) :: s) Q L w := fun a ha => wp_cond (ha.ev ho) (h a ha)
theorem s_else {o : Operand} (ho : ev L o = some (.bool false)) (h : Wps P n (.c y :: s) Q L w) : Wps P n (.c (.cond o x y) :: s) Q L w := fun a ha => wp_cond (ha.ev ho) (h a ha)
theorem s_block {id : Nat} {c : Code} (h : Wps P n (.c c :: .m id :: s) Q L w) : Wps P n (.c (.block id c) :: s) Q L w := by
  intro a ha
  refine wp_block (Code.wp_mono ?_ (h a ha))
  intro e a' w' ⟨L', h1, h2⟩
  cases e with
  | normal => exact ⟨L', h1, h2⟩
  | exit j =>
    simp only [post] at h2
    simp only [Exit.inBlock]
    split at h2
    · rename_i hj
      rw [if_pos hj]
      exact ⟨L', h1, h2⟩
    · rename_i hj
      rw [if_neg hj]
      exact ⟨L', h1, h2⟩
  | goto l => exact ⟨L', h1, h2⟩
  | ret => exact ⟨L', h1, h2⟩
  | panic ch => exact ⟨L', h1, h2⟩
  | outgrown => exact ⟨L', h1, h2⟩
open Classical in
theorem s_loop {c : Code} (I : Nat → Slots → World → Prop) (m : Nat) (L0 : Slots) (hs : Sub L0 L) (h0 : I m L0 w)
    (round : ∀ m L w, I m L w → Wps P n (.c c :: .again (fun L' w' => ∃ m' L0, m' < m ∧ Sub L0 L' ∧ I m' L0 w') :: s) Q L w) : Wps P n (.c (.loop c) :: s) Q L w := by
  intro a ha
  let J : Act → World → Nat → Prop := fun a w m => ∃ L, Fr a n L ∧ I m L w
  let μ : Act → World → Nat := fun a w => if h : ∃ m, J a w m then Classical.choose (least h) else 0
  refine wp_loop (fun a w => ∃ m, J a w m) μ ⟨m, L0, ha.sub hs, h0⟩ ?_
  intro a1 w1 h1
  have hμ : μ a1 w1 = Classical.choose (least h1) := dif_pos h1
  obtain ⟨L1, hL1, hI1⟩ := (Classical.choose_spec (least h1)).1
  refine Code.wp_mono ?_ (round _ L1 w1 hI1 a1 hL1)
  intro e a' w' ⟨L', h2, h3⟩
  cases e with
  | normal =>
    obtain ⟨m', L2, hm, hsub, hI⟩ := h3
    have hx : ∃ m, J a' w' m := ⟨m', L2, h2.sub hsub, hI⟩
    refine ⟨hx, ?_⟩
    have h4 : μ a' w' = Classical.choose (least hx) := dif_pos hx
    rw [h4, hμ]
    exact Nat.lt_of_le_of_lt ((Classical.choose_spec (least hx)).2 m' ⟨L2, h2.sub hsub, hI⟩) hm
  | exit id => exact ⟨L', h2, h3⟩
  | goto l => exact ⟨L', h2, h3⟩
  | ret => exact ⟨L', h2, h3⟩
  | panic ch => exact ⟨L', h2, h3⟩
  | outgrown => exact ⟨L', h2, h3⟩
theorem s_leave {l : Nat} {J : Slots → World → Prop} (h : Wps P n s Q L w) : Wps P n (.jump l J :: s) Q L w := h
theorem s_label {l : Nat} (h : Wps P n s Q L w) : Wps P n (.c (.label l) :: s) Q L w := fun _ ha => wp_label ⟨L, ha, h⟩
theorem s_goto {l : Nat} {J : Slots → World → Prop} (hj : jumpTo l s = some J) (h : J L w) : Wps P n (.c (.goto l) :: s) Q L w := fun _ ha => wp_goto ⟨L, ha, post_goto hj h⟩
open Classical in
theorem s_scope {c rest : Code} (l : Nat) (hf : findLabel c l = some rest) (I : Nat → Slots → World → Prop)
    (first : Wps P n (.c c :: .jump l (fun L' w' => ∃ m L0, Sub L0 L' ∧ I m L0 w') :: s) Q L w)
    (pass : ∀ m L w, I m L w → Wps P n (.c rest :: .jump l (fun L' w' => ∃ m' L0, m' < m ∧ Sub L0 L' ∧ I m' L0 w') :: s) Q L w) : Wps P n (.c (.scope c) :: s) Q L w := by
  intro a ha
  let J : Act → World → Nat → Prop := fun a w m => ∃ L, Fr a n L ∧ I m L w
  let μ : Act → World → Nat := fun a w => if h : ∃ m, J a w m then Classical.choose (least h) else 0
  refine wp_scope_jumps l (fun a w => ∃ m, J a w m) μ hf ?_ ?_
  · refine Code.wp_mono ?_ (first a ha)
    intro e a' w' ⟨L', h2, h3⟩
    cases e with
    | normal => exact ⟨L', h2, h3⟩
    | exit id => exact ⟨L', h2, h3⟩
    | goto l' =>
      obtain ⟨rfl, m, L0, hsub, hI⟩ := h3
      exact ⟨rfl, m, L0, h2.sub hsub, hI⟩
    | ret => exact ⟨L', h2, h3⟩
    | panic ch => exact ⟨L', h2, h3⟩
    | outgrown => exact ⟨L', h2, h3⟩
  · intro a1 w1 h1
    have hμ : μ a1 w1 = Classical.choose (least h1) := dif_pos h1
    obtain ⟨L1, hL1, hI1⟩ := (Classical.choose_spec (least h1)).1
    refine Code.wp_mono ?_ (pass _ L1 w1 hI1 a1 hL1)
    intro e a' w' ⟨L', h2, h3⟩
    cases e with
    | normal => exact ⟨L', h2, h3⟩
    | exit id => exact ⟨L', h2, h3⟩
    | goto l' =>
      obtain ⟨rfl, m', L2, hm, hsub, hI⟩ := h3
      have hx : ∃ m, J a' w' m := ⟨m', L2, h2.sub hsub, hI⟩
      refine ⟨rfl, hx, ?_⟩
      have h4 : μ a' w' = Classical.choose (least hx) := dif_pos hx
      rw [h4, hμ]
      exact Nat.lt_of_le_of_lt ((Classical.choose_spec (least hx)).2 m' ⟨L2, h2.sub hsub, hI⟩) hm
    | ret => exact ⟨L', h2, h3⟩
    | panic ch => exact ⟨L', h2, h3⟩
    | outgrown => exact ⟨L', h2, h3⟩
theorem s_region {id : Nat} (h : Wl P n all all.toList (fun L w => Wps P n s Q L w) L w) : Wps P n (.c (.region id all false) :: s) Q L w := by
  intro a ha
  refine Code.wp_mono ?_ (wp_region_list (h a ha))
  intro e a' w' ⟨he, L', h1, h2⟩
  subst he
  exact ⟨L', h1, h2⟩
theorem l_nil (h : K L w) : Wl P n all [] K L w := fun _ ha => ⟨rfl, L, ha, h⟩
end

/-! ### The world: own blocks and rows, apart from each other -/
inductive Res where
  | pt (b : Nat) (cs : List Value) (T : TypeId)
  | row (base : Nat) (e : TypeId) (sz : Nat) (v : Value) (m : Nat) (cs : List Value)
  | ro (fp : Nat → Prop) (φ : World → Prop)
def Res.fp : Res → Nat → Prop
  | .pt b _ _ => fun k => k = b
  | .row _ _ _ v _ _ => fun k => v.ownBlock = some k
  | .ro fp _ => fp
def Res.φ : Res → World → Prop
  | .pt b cs T => fun w => w.heap[b]? = some (.cells cs.toArray T (0, 0))
  | .row base e sz v m cs => fun w => w.ownsRow base e sz v m cs
  | .ro _ φ => φ
/-- φ holds in w and in each world that has w's blocks of fp. -/
def Foot (φ : World → Prop) (w : World) (fp : Nat → Prop) : Prop := ∀ w' : World, (∀ k, fp k → k < w.heap.size → w'.heap[k]? = w.heap[k]?) → φ w'
theorem Foot.now {φ : World → Prop} {w : World} {fp : Nat → Prop} (h : Foot φ w fp) : φ w := h w (fun _ _ _ => rfl)
theorem heap_lt {w w1 : World} {k : Nat} (h : w1.heap[k]? = w.heap[k]?) (hlt : k < w.heap.size) : k < w1.heap.size := by
  rw [Array.getElem?_eq_getElem hlt] at h
  exact (Array.getElem?_eq_some_iff.1 h).1
theorem Foot.step {φ : World → Prop} {w w1 : World} {fp : Nat → Prop} (h : Foot φ w fp) (hm : ∀ k, fp k → k < w.heap.size → w1.heap[k]? = w.heap[k]?) : Foot φ w1 fp :=
  fun w' hw => h w' (fun k hk hlt => (hw k hk (heap_lt (hm k hk hlt) hlt)).trans (hm k hk hlt))
theorem Foot.mono {φ : World → Prop} {w : World} {fp fp' : Nat → Prop} (h : Foot φ w fp) (hi : ∀ k, fp k → fp' k) : Foot φ w fp' := fun w' hw => h w' (fun k hk => hw k (hi k hk))
theorem Foot.imp {φ ψ : World → Prop} {w : World} {fp : Nat → Prop} (h : Foot φ w fp) (hi : ∀ w', φ w' → ψ w') : Foot ψ w fp := fun w' hw => hi w' (h w' hw)
theorem Foot.and {φ ψ : World → Prop} {w : World} {fp : Nat → Prop} (h : Foot φ w fp) (k : Foot ψ w fp) : Foot (fun w => φ w ∧ ψ w) w fp := fun w' hw => ⟨h w' hw, k w' hw⟩
theorem Foot.bound {φ : World → Prop} {w : World} {fp : Nat → Prop} (h : Foot φ w fp) : Foot φ w (fun k => fp k ∧ k < w.heap.size) := fun w' hw => h w' (fun k hk hlt => hw k ⟨hk, hlt⟩ hlt)
/-- All that lay lies, and no draw is taken back. -/
structure Ext (w w' : World) : Prop where
  bel : Below w.heap.size w w'
  drawn : w.drawn ≤ w'.drawn
theorem Ext.refl (w : World) : Ext w w := ⟨Below.refl _ _, Nat.le_refl _⟩
theorem Ext.size {w w' : World} (h : Ext w w') : w.heap.size ≤ w'.heap.size := h.bel.size
theorem Ext.trans {a b c : World} (h : Ext a b) (k : Ext b c) : Ext a c := ⟨h.bel.trans (k.bel.mono h.bel.size), Nat.le_trans h.drawn k.drawn⟩
theorem Ext.alloc (w : World) (o : Obj) : Ext w (w.alloc o) := ⟨(Below.refl _ _).alloc (Nat.le_refl _) _, Nat.le_refl _⟩
theorem Ext.drew (w : World) : Ext w w.drew := ⟨(Below.refl _ _).drew, Nat.le_succ _⟩
structure St (G : Nat) (w0 w : World) (H : List Res) : Prop where
  below : Below w0.heap.size w0 w
  drawn : w0.drawn ≤ w.drawn
  foot : ∀ r ∈ H, Foot r.φ w (fun k => k < G ∨ r.fp k)
  dom : ∀ r ∈ H, ∀ b, r.fp b → w0.heap.size ≤ b ∧ b < w.heap.size
  sep : H.Pairwise (fun r s => ∀ b, r.fp b → s.fp b → False)
section
variable {G : Nat} {w0 w w1 : World} {H H' R : List Res} {r r' : Res}
theorem St.refl (G : Nat) (w : World) : St G w w [] := ⟨Below.refl _ _, Nat.le_refl _, (fun _ h => by cases h), (fun _ h => by cases h), List.Pairwise.nil⟩
theorem St.sub (h : St G w0 w H) (hs : H'.Sublist H) : St G w0 w H' := ⟨h.below, h.drawn, fun r hr => h.foot r (hs.subset hr), fun r hr => h.dom r (hs.subset hr), h.sep.sublist hs⟩
theorem St.nil (h : St G w0 w H) : St G w0 w [] := h.sub (List.nil_sublist _)
theorem St.tail (h : St G w0 w (r :: H)) : St G w0 w H := h.sub (List.sublist_cons_self _ _)
theorem St.one (h : St G w0 w (r :: H)) : St G w0 w [r] := h.sub (by simp)
theorem St.mono {G' : Nat} (h : St G w0 w H) (hG : G ≤ G') : St G' w0 w H := ⟨h.below, h.drawn, fun r hr => (h.foot r hr).mono (fun k hk => hk.imp (fun h => by omega) id), h.dom, h.sep⟩
theorem St.get (h : St G w0 w H) (hr : r ∈ H) : r.φ w := (h.foot r hr).now
theorem St.size (h : St G w0 w H) : w0.heap.size ≤ w.heap.size := h.below.size
theorem St.perm (h : St G w0 w H) (hp : H.Perm H') : St G w0 w H' := ⟨h.below, h.drawn, fun r hr => h.foot r (hp.mem_iff.2 hr), fun r hr => h.dom r (hp.mem_iff.2 hr), (hp.pairwise_iff (fun hab b h1 h2 => hab b h2 h1)).1 h.sep⟩
theorem St.swap (h : St G w0 w (r :: r' :: H)) : St G w0 w (r' :: r :: H) := h.perm (.swap _ _ _)
/-- What doesn't touch what is there. -/
theorem St.toExt (h : St G w0 w H) : Ext w0 w := ⟨h.below, h.drawn⟩
theorem St.ext (h : St G w0 w H) (hb : Ext w w1) : St G w0 w1 H :=
  ⟨h.below.trans (hb.bel.mono h.size), Nat.le_trans h.drawn hb.drawn, fun r hr => (h.foot r hr).step (fun k _ hlt => hb.bel.block k hlt), fun r hr b hb' => ⟨(h.dom r hr b hb').1, Nat.lt_of_lt_of_le (h.dom r hr b hb').2 hb.size⟩, h.sep⟩
/-- A call that made R, out of what lies below G alone or of nothing. -/
theorem St.call (h : St G w0 w H) (hc : St 0 w w1 R) : St G w0 w1 (R ++ H) := by
  have h1 := h.ext hc.toExt
  refine ⟨h1.below, h1.drawn, fun r hr => ?_, fun r hr => ?_, ?_⟩
  · rcases List.mem_append.1 hr with hr | hr
    · exact (hc.foot r hr).mono (fun k hk => hk.elim (fun h => absurd h (Nat.not_lt_zero _)) .inr)
    · exact h1.foot r hr
  · rcases List.mem_append.1 hr with hr | hr
    · exact fun b hb => ⟨Nat.le_trans h.size (hc.dom r hr b hb).1, (hc.dom r hr b hb).2⟩
    · exact h1.dom r hr
  · refine List.pairwise_append.2 ⟨hc.sep, h1.sep, fun r hr s hs b h2 h3 => ?_⟩
    have := (hc.dom r hr b h2).1
    have := (h.dom s hs b h3).2
    omega
theorem St.call0 (h : St G w0 w H) (hc : St 0 w w1 []) : St G w0 w1 H := h.call hc
theorem St.call1 (h : St G w0 w H) (hc : St 0 w w1 [r]) : St G w0 w1 (r :: H) := h.call hc
/-- Something new that needs no block of its own. -/
theorem St.pure_ (h : St G w0 w H) (φ : World → Prop) (hp : Foot φ w (fun k => k < G)) : St G w0 w (.ro (fun _ => False) φ :: H) :=
  ⟨h.below, h.drawn, fun r hr => by rcases List.mem_cons.1 hr with rfl | hr; exact hp.mono (fun k hk => .inl hk); exact h.foot r hr, fun r hr => by rcases List.mem_cons.1 hr with rfl | hr; exact fun b hb => hb.elim; exact h.dom r hr,
    List.pairwise_cons.2 ⟨fun _ _ _ hb => hb.elim, h.sep⟩⟩
/-- One of them said otherwise. -/
theorem St.turn (h : St G w0 w (r :: H)) (hf : Foot r'.φ w (fun k => k < G ∨ r.fp k) → Foot r'.φ w (fun k => k < G ∨ r'.fp k)) (hi : Foot r'.φ w (fun k => k < G ∨ r.fp k)) (hd : ∀ k, r'.fp k → r.fp k) : St G w0 w (r' :: H) :=
  ⟨h.below, h.drawn, fun s hs => by rcases List.mem_cons.1 hs with rfl | hs; exact hf hi; exact h.foot s (List.mem_cons_of_mem _ hs), fun s hs => by rcases List.mem_cons.1 hs with rfl | hs; exact fun b hb => h.dom r List.mem_cons_self b (hd b hb); exact h.dom s (List.mem_cons_of_mem _ hs),
    List.pairwise_cons.2 ⟨fun s hs b h1 h2 => (List.pairwise_cons.1 h.sep).1 s hs b (hd b h1) h2, (List.pairwise_cons.1 h.sep).2⟩⟩
theorem St.hide (h : St G w0 w (r :: H)) (φ : World → Prop) (hi : ∀ w', r.φ w' → φ w') : St G w0 w (.ro r.fp φ :: H) :=
  h.turn (r' := .ro r.fp φ) id ((h.foot r List.mem_cons_self).imp hi) (fun _ h => h)
/-- Two become one. -/
theorem St.join (h : St G w0 w (r :: r' :: H)) (φ : World → Prop) (hi : ∀ w', r.φ w' → r'.φ w' → φ w') : St G w0 w (.ro (fun k => r.fp k ∨ r'.fp k) φ :: H) := by
  have h1 := h.foot r List.mem_cons_self
  have h2 := h.foot r' (List.mem_cons_of_mem _ List.mem_cons_self)
  have hs := List.pairwise_cons.1 h.sep
  have hs2 := List.pairwise_cons.1 hs.2
  refine ⟨h.below, h.drawn, fun s hs => ?_, fun s hs => ?_, List.pairwise_cons.2 ⟨fun s hs' b hb hb' => ?_, hs2.2⟩⟩
  · rcases List.mem_cons.1 hs with rfl | hs
    · exact fun w' hw => hi w' (h1 w' (fun k hk => hw k (hk.imp id .inl))) (h2 w' (fun k hk => hw k (hk.imp id .inr)))
    · exact h.foot s (by simp [hs])
  · rcases List.mem_cons.1 hs with rfl | hs
    · exact fun b hb => hb.elim (h.dom r (by simp) b) (h.dom r' (by simp) b)
    · exact h.dom s (by simp [hs])
  · rcases hb with hb | hb
    · exact hs.1 s (by simp [hs']) b hb hb'
    · exact hs2.1 s hs' b hb hb'
/-- One of them is written (and blocks may be new): it is r' now. -/
theorem St.write (h : St G w0 w (r :: H)) (hG : G ≤ w0.heap.size) (hdr : w.drawn ≤ w1.drawn) (hos : w1.os = w.os) (htape : w1.tape = w.tape) (hout : w1.output = w.output) (hsize : w.heap.size ≤ w1.heap.size)
    (hm : ∀ k, k < w.heap.size → ¬ r.fp k → w1.heap[k]? = w.heap[k]?) (hd : ∀ k, r'.fp k → k < w1.heap.size ∧ (r.fp k ∨ w.heap.size ≤ k)) (hf : Foot r'.φ w1 (fun k => k < G ∨ r'.fp k)) : St G w0 w1 (r' :: H) := by
  have hsep := List.pairwise_cons.1 h.sep
  have hk : ∀ s ∈ H, ∀ k, (k < G ∨ s.fp k) → k < w.heap.size → w1.heap[k]? = w.heap[k]? := fun s hs k hk hlt => hm k hlt (fun hr => by
    rcases hk with hk | hk
    · have := (h.dom r List.mem_cons_self k hr).1; omega
    · exact hsep.1 s hs k hr hk)
  refine ⟨⟨hos.trans h.below.os, htape.trans h.below.tape, hout.trans h.below.output, Nat.le_trans h.size hsize, fun k hlt => ?_⟩, Nat.le_trans h.drawn hdr, fun s hs => ?_, fun s hs => ?_, List.pairwise_cons.2 ⟨fun s hs b h1 h2 => ?_, hsep.2⟩⟩
  · exact (hm k (Nat.lt_of_lt_of_le hlt h.size) (fun hr => by have := (h.dom r List.mem_cons_self k hr).1; omega)).trans (h.below.block k hlt)
  · rcases List.mem_cons.1 hs with rfl | hs
    · exact hf
    · exact (h.foot s (List.mem_cons_of_mem _ hs)).step (hk s hs)
  · rcases List.mem_cons.1 hs with rfl | hs
    · intro b hb
      obtain ⟨h1, h2⟩ := hd b hb
      refine ⟨?_, h1⟩
      rcases h2 with h2 | h2
      · exact (h.dom r List.mem_cons_self b h2).1
      · exact Nat.le_trans h.size h2
    · exact fun b hb => ⟨(h.dom s (List.mem_cons_of_mem _ hs) b hb).1, Nat.lt_of_lt_of_le (h.dom s (List.mem_cons_of_mem _ hs) b hb).2 hsize⟩
  · rcases (hd b h1).2 with h3 | h3
    · exact hsep.1 s hs b h3 h2
    · have := (h.dom s (List.mem_cons_of_mem _ hs) b h2).2
      omega
end
/-- H' is H with r' in the place of r. -/
inductive Repl (r r' : Res) : List Res → List Res → Prop
  | here {H} : Repl r r' (r :: H) (r' :: H)
  | there {x H H'} : Repl r r' H H' → Repl r r' (x :: H) (x :: H')
theorem Repl.mem {r r' : Res} {H H' : List Res} (h : Repl r r' H H') : r ∈ H := by
  induction h with
  | here => exact List.mem_cons_self
  | there _ ih => exact List.mem_cons_of_mem _ ih
theorem Repl.front {r r' : Res} {H H' : List Res} (h : Repl r r' H H') : ∃ H0, H.Perm (r :: H0) ∧ H'.Perm (r' :: H0) := by
  induction h with
  | here => exact ⟨_, .refl _, .refl _⟩
  | there _ ih =>
    obtain ⟨H0, h1, h2⟩ := ih
    exact ⟨_ :: H0, (h1.cons _).trans (.swap _ _ _), (h2.cons _).trans (.swap _ _ _)⟩
end Go.Proofs.Ytfhghnhgcdiknaa
