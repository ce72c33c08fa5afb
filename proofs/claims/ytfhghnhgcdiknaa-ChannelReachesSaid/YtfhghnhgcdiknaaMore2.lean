/- Append onto what may be cut; messages from one queue to another. No condition. -/
import Derived.Test.YtfhghnhgcdiknaaMore
import Derived.LaidEqlPtr
import Derived.Laws.StructEq
set_option linter.unusedVariables false
namespace Go.Proofs.Ytfhghnhgcdiknaa
open Go.RowKit
theorem Sl.cap {α : Type} {d : Kd α} {w : World} {ok : Nat → Prop} {A : Option Addr} {c c' : Nat} {xs : List α} (h : Sl d w ok A c xs) (h1 : xs.length ≤ c') (h2 : c' ≤ c) : Sl d w ok A c' xs := ⟨h1, Nat.le_trans h2 h.2.1, h.2.2⟩
theorem sl_head {w : World} {ok : Nat → Prop} {b o c : Nat} {f : Int} {fs : List Int} (h : Sl Kd.int w ok (some ⟨b, o, none⟩) c (f :: fs)) : w.cell? ⟨b, o, none⟩ = some (.int .i64 f) := by
  obtain ⟨b', o', cs, hA, _, hK, hc⟩ := h.at_ (i := 0) (by simp)
  injection hA with hA
  injection hA with e1 e2
  subst e1 e2
  have hK : cs = [.int .i64 f] := hK
  subst hK
  have := hc 0 _ rfl
  simpa using this
theorem cap_le {ct e m : Nat} (h : ct = e ∨ ct = m) (hm : m ≤ e) : m ≤ ct ∧ ct ≤ e := by omega
theorem l_appendQ {P : Program} {n : Nat} {K : Slots → World → Prop} {L : Slots} {G : Nat} {w0 w : World} {H : List Res} {all : Array Oper} {l : List Oper} {dst ty : Nat} {pos : String} {af : Array Edge} {s x : Operand} {t e sz bytes m j c ct e' : Nat} {z : Value} {A : Option Addr} {cs news : List Value} {p : Addr} {H' : Value → List Res}
    (ht : P.underlying t = some (.slice e)) (hi : (P.info? e).map (fun i => (i.zero, i.size, i.bytes)) = some (some z, sz, bytes)) (hzs : z.cells.size = sz) (hsz : Nat.blt 0 sz = true)
    (hv : ev L s = some (.slice A m ct)) (hct : ct = e' ∨ ct = m) (hx : ev L x = some (.slice (some p) j c)) (hl : news.length = j * sz) (hnews : ∀ i u, news[i]? = some u → w.cell? (p.add i) = some u) (h1 : ∀ u ∈ news, u.oneCell' = true) (hj : 0 < j)
    (hbytes : (m + j) * bytes ≤ 140737488355328) (hby : Nat.blt 0 bytes = true) (hG : G ≤ w0.heap.size) (hs : St G w0 w H) (hm : ∀ v', Repl (.row 0 e sz (.slice A m e') m cs) (.row 0 e sz v' (m + j) (cs ++ news)) H (H' v')) (hd : Nat.blt dst n = true)
    (k : ∀ D c2 w1, St G w0 w1 (H' (.slice D (m + j) c2)) → Wl P n all l K ((dst, .slice D (m + j) c2) :: L) w1) :
    Wl P n all (⟨some dst, .call { callee := .builtin .append, args := #[s, x], argTypes := #[t, t] }, ty, pos, af, none⟩ :: l) K L w := by
  have hrow := hs.get (hm (.slice none 0 0)).mem
  by_cases h : ct = e'
  · subst h
    refine l_append ht hi hzs hsz hv hx hl hnews h1 hbytes hby hG (Nat.zero_le _) hs hm hd (fun v' w1 _ _ hs1 => ?_)
    obtain ⟨D, c2, rfl, _⟩ := row_slice (hs1.get (r := .row 0 e sz v' (m + j) (cs ++ news)) (by
      obtain ⟨H0, _, hp⟩ := (hm v').front
      exact hp.mem_iff.2 List.mem_cons_self))
    exact k D c2 w1 hs1
  · have h : ct = m := hct.resolve_left h
    subst h
    have hcl : cs.length = ct * sz := hrow.1
    refine l_appendF ht hi hzs hv hcl (fun hA => ?_) (fun b hA i u hu => ?_) hx hl hnews hj hbytes hby hs hd (fun v' w1 _ hs1 => ?_)
    · subst hA
      rcases hrow.2 with ⟨_, h0⟩ | ⟨g, cap, cur, hv, _⟩
      · exact h0
      · simp at hv
    · rcases hrow.2 with ⟨hv, _⟩ | ⟨g, cap, cur, hv, hb, hg, hnc, hcm, hcs, htake⟩
      · simp only [Value.slice.injEq] at hv
        rw [hv.1] at hA
        cases hA
      · simp only [Value.slice.injEq] at hv
        rw [hv.1] at hA
        injection hA with hA
        subst hA
        have := World.ownsRow.cells (g := g) hrow (by rw [hv.1]; rfl) i u hu
        exact this
    · obtain ⟨H0, hp1, hp2⟩ := (hm v').front
      have hs2 := ((hs1.perm (hp1.cons _)).swap.tail).perm hp2.symm
      obtain ⟨D, c2, rfl, _⟩ := row_slice (hs2.get (r := .row 0 e sz v' (ct + j) (cs ++ news)) (hp2.mem_iff.2 List.mem_cons_self))
      exact k D c2 w1 hs2
theorem s_scope2 {P : Program} {n : Nat} {Q : Post} {L : Slots} {w : World} {s : List It} {c R : Code} (l : Nat) (hf : findLabel c l = some (.seq .skip R)) (I : Nat → Slots → World → Prop)
    (round : ∀ (J : Slots → World → Prop) (m : Nat) (L : Slots) (w : World), I m L w → (∀ m' L0 L' w', m' < m → Sub L0 L' → I m' L0 w' → J L' w') → Wps P n (.c R :: .jump l J :: s) Q L w)
    (first : ∀ (J : Slots → World → Prop), (∀ m L0 L' w', Sub L0 L' → I m L0 w' → Wps P n (.c R :: .jump l J :: s) Q L' w') → Wps P n (.c c :: .jump l J :: s) Q L w) : Wps P n (.c (.scope c) :: s) Q L w :=
  s_scope l hf I (first _ (fun m L0 L' w' hsub hI => s_sub L0 hsub (round _ m L0 w' hI (fun m' L1 L2 w2 _ h1 h2 => ⟨m', L1, h1, h2⟩))))
    (fun m L w hI => s_seq (s_skip (round _ m L w hI (fun m' L1 L2 w2 hlt h1 h2 => ⟨m', L1, hlt, h1, h2⟩))))
theorem r_eqp_same {P : Program} {n : Nat} {L : Slots} {w : World} {dst ty : Nat} {pos : String} {af : Array Edge} {x y : Operand} {t t' te : TypeId} {p : Addr} (hx : ev L x = some (.pointer (some p))) (hy : ev L y = some (.pointer (some p))) (hp : P.underlying t = some (.pointer te)) (hsz : (P.info? te).isSome = true) :
    Runs P n L ⟨some dst, .binOp .eql t x y t', ty, pos, af, none⟩ (.bool true) w := by
  obtain ⟨j, hj⟩ := Option.isSome_iff_exists.1 hsz
  have h : ∀ d : Nat, (Op.equalIn (d + 1) t (.pointer (some p)) (.pointer (some p))).run P w = .ok true w := fun d => by
    simp [Op.equalIn, run_underlying hp, sizeOf, typeInfo, hj, run_sameAddr_same]
  exact r_eq hx hy rfl rfl (h 9999)
theorem r_eqp_other {P : Program} {n : Nat} {L : Slots} {w : World} {dst ty : Nat} {pos : String} {af : Array Edge} {x y : Operand} {t t' te sz : TypeId} {p q : Addr} {ca cb : Array Value} {ta tb : TypeId} (hx : ev L x = some (.pointer (some p))) (hy : ev L y = some (.pointer (some q))) (hp : P.underlying t = some (.pointer te)) (hsz : szOf P te = some sz) (h0 : sz ≠ 0)
    (hne : p ≠ q) (ha : w.heap[p.block]? = some (.cells ca ta (0, 0))) (hb : w.heap[q.block]? = some (.cells cb tb (0, 0))) :
    Runs P n L ⟨some dst, .binOp .eql t x y t', ty, pos, af, none⟩ (.bool false) w := by
  obtain ⟨j, hj, hjs⟩ := Option.map_eq_some_iff.1 hsz
  have h : ∀ d : Nat, (Op.equalIn (d + 1) t (.pointer (some p)) (.pointer (some q))).run P w = .ok false w := fun d => by
    simp [Op.equalIn, run_underlying hp, sizeOf, typeInfo, hj, hjs, h0, run_sameAddr_other w hne ha hb]
  exact r_eq hx hy rfl rfl (h 9999)
/-- What is brought: as many of fs as fit behind ts. -/
def moveQ : List Int → List Int → Int → List Int × List Int
  | [], ts, _ => ([], ts)
  | f :: fs, ts, d => if (ts.length : Int) < d then moveQ fs (ts ++ [f]) d else (f :: fs, ts)
theorem moveQ_nil (ts : List Int) (d : Int) : moveQ [] ts d = ([], ts) := rfl
theorem moveQ_step {f : Int} {fs ts : List Int} {d : Int} (h : (ts.length : Int) < d) : moveQ (f :: fs) ts d = moveQ fs (ts ++ [f]) d := by simp only [moveQ, if_pos h]
theorem moveQ_full {fs ts : List Int} {d : Int} (h : ¬ (ts.length : Int) < d) : moveQ fs ts d = (fs, ts) := by
  cases fs with
  | nil => rfl
  | cons f fs => simp only [moveQ, if_neg h]
end Go.Proofs.Ytfhghnhgcdiknaa
