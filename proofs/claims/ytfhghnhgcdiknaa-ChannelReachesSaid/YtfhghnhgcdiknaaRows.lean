/-
  No cell of these rows narrows 'for every input' (looked for: loops, veiled, ifaces, maps, wideKeys, modest, calm, conditions, laid).
  DERIVED. THE GIVEN ROWS OF THIS SEAT. 6 by the template 'for every input the law returns true; each argument reads behind the call as it read before'; 0 by the template 'total and deterministic' (their statements: YtfhghnhgcdiknaaTotals.lean).
  GIVEN WITH THE SEED: the statements are not yours to turn. If you find one false, say at which input.
  Laid BY PROGRAM, IN A SANDBOX (cutbox-rows.mjs): the forced cells as the released guide's own fill.sh prints them over the translation ae1d44b83e5ffd2f… (all of the seat's roots in one cut). By AI agents, Wed Nov 11 2026. No macro, syntax, notation, axiom, sorry.
-/
import Derived.Test.YtfhghnhgcdiknaaChecked
import GoSem.Claim
import GoSem.ClaimJoined
import GoSem.ClaimMapViews
import Derived.JoinedTies
import Derived.KernelRfl
namespace Go.Proofs.Ytfhghnhgcdiknaa
/- THE CELL 'sum', in the pinned program and in every row, IS THE sha256 OF THE DUMP (.gsa) THAT YtfhghnhgcdiknaaProg.lean LOADS. Nothing in Lean hashes anything: it is a label: what it is worth is what the hold of that sum in a sandbox is worth. -/
noncomputable def Try.pinned : Pinned := { name := "ytfhghnhgcdiknaa", sum := "ae1d44b83e5ffd2fa8764a78669da1893909cd4992408e7d466b0b5ff876080d", checked := Try.checked }
namespace Rows
def none {H : Type} : Left H := { results := [], args := [] }

/-- 'quarterdecklaw19.ChannelMoves': WHATEVER THE INPUT: true; the input reads as it did. -/
def channelMovesSpec : ChangeSpec := { name := "channelMoves", fn := fun _ => fun
  | [d1, d2, d3] => { results := [.lit (.bool true)], args := [d1, d2, d3] }
  | _ => none }
def channelMovesRow : OpenClaim := { program := "ytfhghnhgcdiknaa", sum := "ae1d44b83e5ffd2fa8764a78669da1893909cd4992408e7d466b0b5ff876080d", func := "quarterdeck/quarterdecklaw19.ChannelMoves", spec := "channelMoves", unfollowed := true, recurses := true, plainKeys := false, apart := false }
def ChannelMovesSaid : Prop := channelMovesRow.holds Try.pinned (OpenSpec.ofChange channelMovesSpec)

/-- ITS FALSE NEIGHBOUR: 'it returns false'. Refute it at one input. -/
def channelMovesWrong : ChangeSpec := { name := "channelMoves", fn := fun _ => fun
  | [d1, d2, d3] => { results := [.lit (.bool false)], args := [d1, d2, d3] }
  | _ => none }
def ChannelMovesWrongFalsely : Prop := channelMovesRow.holds Try.pinned (OpenSpec.ofChange channelMovesWrong)

/-- 'quarterdecklaw19.ChannelBlind': WHATEVER THE INPUT: true; the input reads as it did. -/
def channelBlindSpec : ChangeSpec := { name := "channelBlind", fn := fun _ => fun
  | [d1, d2, d3, d4] => { results := [.lit (.bool true)], args := [d1, d2, d3, d4] }
  | _ => none }
def channelBlindRow : OpenClaim := { program := "ytfhghnhgcdiknaa", sum := "ae1d44b83e5ffd2fa8764a78669da1893909cd4992408e7d466b0b5ff876080d", func := "quarterdeck/quarterdecklaw19.ChannelBlind", spec := "channelBlind", unfollowed := true, recurses := true, plainKeys := false, apart := false }
def ChannelBlindSaid : Prop := channelBlindRow.holds Try.pinned (OpenSpec.ofChange channelBlindSpec)

/-- ITS FALSE NEIGHBOUR: 'it returns false'. Refute it at one input. -/
def channelBlindWrong : ChangeSpec := { name := "channelBlind", fn := fun _ => fun
  | [d1, d2, d3, d4] => { results := [.lit (.bool false)], args := [d1, d2, d3, d4] }
  | _ => none }
def ChannelBlindWrongFalsely : Prop := channelBlindRow.holds Try.pinned (OpenSpec.ofChange channelBlindWrong)

/-- 'quarterdecklaw19.ChannelKeeps': WHATEVER THE INPUT: true; the input reads as it did. -/
def channelKeepsSpec : ChangeSpec := { name := "channelKeeps", fn := fun _ => fun
  | [d1, d2] => { results := [.lit (.bool true)], args := [d1, d2] }
  | _ => none }
def channelKeepsRow : OpenClaim := { program := "ytfhghnhgcdiknaa", sum := "ae1d44b83e5ffd2fa8764a78669da1893909cd4992408e7d466b0b5ff876080d", func := "quarterdeck/quarterdecklaw19.ChannelKeeps", spec := "channelKeeps", unfollowed := true, recurses := true, plainKeys := false, apart := false }
def ChannelKeepsSaid : Prop := channelKeepsRow.holds Try.pinned (OpenSpec.ofChange channelKeepsSpec)

/-- ITS FALSE NEIGHBOUR: 'it returns false'. Refute it at one input. -/
def channelKeepsWrong : ChangeSpec := { name := "channelKeeps", fn := fun _ => fun
  | [d1, d2] => { results := [.lit (.bool false)], args := [d1, d2] }
  | _ => none }
def ChannelKeepsWrongFalsely : Prop := channelKeepsRow.holds Try.pinned (OpenSpec.ofChange channelKeepsWrong)

/-- 'quarterdecklaw19.ChannelRest': WHATEVER THE INPUT: true; the input reads as it did. -/
def channelRestSpec : ChangeSpec := { name := "channelRest", fn := fun _ => fun
  | [d1, d2] => { results := [.lit (.bool true)], args := [d1, d2] }
  | _ => none }
def channelRestRow : OpenClaim := { program := "ytfhghnhgcdiknaa", sum := "ae1d44b83e5ffd2fa8764a78669da1893909cd4992408e7d466b0b5ff876080d", func := "quarterdeck/quarterdecklaw19.ChannelRest", spec := "channelRest", unfollowed := true, recurses := true, plainKeys := false, apart := false }
def ChannelRestSaid : Prop := channelRestRow.holds Try.pinned (OpenSpec.ofChange channelRestSpec)

/-- ITS FALSE NEIGHBOUR: 'it returns false'. Refute it at one input. -/
def channelRestWrong : ChangeSpec := { name := "channelRest", fn := fun _ => fun
  | [d1, d2] => { results := [.lit (.bool false)], args := [d1, d2] }
  | _ => none }
def ChannelRestWrongFalsely : Prop := channelRestRow.holds Try.pinned (OpenSpec.ofChange channelRestWrong)

/-- 'quarterdecklaw19.ChannelNone': WHATEVER THE INPUT: true; the input reads as it did. -/
def channelNoneSpec : ChangeSpec := { name := "channelNone", fn := fun _ => fun
  | [d1, d2, d3] => { results := [.lit (.bool true)], args := [d1, d2, d3] }
  | _ => none }
def channelNoneRow : OpenClaim := { program := "ytfhghnhgcdiknaa", sum := "ae1d44b83e5ffd2fa8764a78669da1893909cd4992408e7d466b0b5ff876080d", func := "quarterdeck/quarterdecklaw19.ChannelNone", spec := "channelNone", unfollowed := true, recurses := true, plainKeys := false, apart := false }
def ChannelNoneSaid : Prop := channelNoneRow.holds Try.pinned (OpenSpec.ofChange channelNoneSpec)

/-- ITS FALSE NEIGHBOUR: 'it returns false'. Refute it at one input. -/
def channelNoneWrong : ChangeSpec := { name := "channelNone", fn := fun _ => fun
  | [d1, d2, d3] => { results := [.lit (.bool false)], args := [d1, d2, d3] }
  | _ => none }
def ChannelNoneWrongFalsely : Prop := channelNoneRow.holds Try.pinned (OpenSpec.ofChange channelNoneWrong)

/-- 'quarterdecklaw19.ChannelReaches': WHATEVER THE INPUT: true; the input reads as it did. -/
def channelReachesSpec : ChangeSpec := { name := "channelReaches", fn := fun _ => fun
  | [d1, d2, d3, d4] => { results := [.lit (.bool true)], args := [d1, d2, d3, d4] }
  | _ => none }
def channelReachesRow : OpenClaim := { program := "ytfhghnhgcdiknaa", sum := "ae1d44b83e5ffd2fa8764a78669da1893909cd4992408e7d466b0b5ff876080d", func := "quarterdeck/quarterdecklaw19.ChannelReaches", spec := "channelReaches", unfollowed := true, recurses := true, plainKeys := false, apart := false }
def ChannelReachesSaid : Prop := channelReachesRow.holds Try.pinned (OpenSpec.ofChange channelReachesSpec)

/-- ITS FALSE NEIGHBOUR: 'it returns false'. Refute it at one input. -/
def channelReachesWrong : ChangeSpec := { name := "channelReaches", fn := fun _ => fun
  | [d1, d2, d3, d4] => { results := [.lit (.bool false)], args := [d1, d2, d3, d4] }
  | _ => none }
def ChannelReachesWrongFalsely : Prop := channelReachesRow.holds Try.pinned (OpenSpec.ofChange channelReachesWrong)

/- THE SECOND FORM. 'bulk': how many values and letters a reading holds, each counted each time it is reached (what is shared counts as often as it is met; a slice's spare places count too). A statement '..UptoSaid' is the law's where the arguments, and the package variables that the reading takes, are together of bulk at most 1048576: NARROWER than '..Said'. Prove '..Said' where nothing that the law and all that it calls make is longer than what came in: it says more and counts as full. Else prove '..UptoSaid'. A law counts once. -/
mutual
def uptoBulk {H : Type} : DataW H → Nat
  | .lit (.string bytes) => bytes.length + 1
  | .lit _ => 1
  | .nil => 1
  | .ptr d => uptoBulk d + 1
  | .slice elems spare => uptoBulkAll elems + uptoBulkAll spare + 1
  | .agg parts => uptoBulkAll parts + 1
  | .iface _ d => uptoBulk d + 1
  | .map entries => uptoBulkEntries entries + 1
  | .held _ => 1
def uptoBulkAll {H : Type} : List (DataW H) → Nat
  | [] => 0
  | d :: r => uptoBulk d + uptoBulkAll r
def uptoBulkEntries {H : Type} : List (Lit × DataW H) → Nat
  | [] => 0
  | x :: r => uptoBulkEntry x + uptoBulkEntries r
def uptoBulkEntry {H : Type} : Lit × DataW H → Nat
  | (.string bytes, d) => bytes.length + uptoBulk d + 1
  | (_, d) => uptoBulk d + 1
 end
def uptoSmall : (H : Type) → List (DataW H) → Bool := fun _ ds => decide (uptoBulkAll ds ≤ 1048576)
def OpenSpec.upto (s : _root_.Go.ChangeSpec) : _root_.Go.OpenSpec := { _root_.Go.OpenSpec.ofChange s with cond := some uptoSmall }

/-- 'quarterdecklaw19.ChannelMoves', WHERE WHAT IT READS IS OF BULK AT MOST 1048576: true; the input reads as it did. -/
def channelMovesUptoRow : OpenClaim := { program := "ytfhghnhgcdiknaa", sum := "ae1d44b83e5ffd2fa8764a78669da1893909cd4992408e7d466b0b5ff876080d", func := "quarterdeck/quarterdecklaw19.ChannelMoves", spec := "channelMoves", unfollowed := true, recurses := true, plainKeys := false, apart := false, narrowed := true }
def ChannelMovesUptoSaid : Prop := channelMovesUptoRow.holds Try.pinned (OpenSpec.upto channelMovesSpec)

/-- 'quarterdecklaw19.ChannelBlind', WHERE WHAT IT READS IS OF BULK AT MOST 1048576: true; the input reads as it did. -/
def channelBlindUptoRow : OpenClaim := { program := "ytfhghnhgcdiknaa", sum := "ae1d44b83e5ffd2fa8764a78669da1893909cd4992408e7d466b0b5ff876080d", func := "quarterdeck/quarterdecklaw19.ChannelBlind", spec := "channelBlind", unfollowed := true, recurses := true, plainKeys := false, apart := false, narrowed := true }
def ChannelBlindUptoSaid : Prop := channelBlindUptoRow.holds Try.pinned (OpenSpec.upto channelBlindSpec)

/-- 'quarterdecklaw19.ChannelKeeps', WHERE WHAT IT READS IS OF BULK AT MOST 1048576: true; the input reads as it did. -/
def channelKeepsUptoRow : OpenClaim := { program := "ytfhghnhgcdiknaa", sum := "ae1d44b83e5ffd2fa8764a78669da1893909cd4992408e7d466b0b5ff876080d", func := "quarterdeck/quarterdecklaw19.ChannelKeeps", spec := "channelKeeps", unfollowed := true, recurses := true, plainKeys := false, apart := false, narrowed := true }
def ChannelKeepsUptoSaid : Prop := channelKeepsUptoRow.holds Try.pinned (OpenSpec.upto channelKeepsSpec)

/-- 'quarterdecklaw19.ChannelRest', WHERE WHAT IT READS IS OF BULK AT MOST 1048576: true; the input reads as it did. -/
def channelRestUptoRow : OpenClaim := { program := "ytfhghnhgcdiknaa", sum := "ae1d44b83e5ffd2fa8764a78669da1893909cd4992408e7d466b0b5ff876080d", func := "quarterdeck/quarterdecklaw19.ChannelRest", spec := "channelRest", unfollowed := true, recurses := true, plainKeys := false, apart := false, narrowed := true }
def ChannelRestUptoSaid : Prop := channelRestUptoRow.holds Try.pinned (OpenSpec.upto channelRestSpec)

/-- 'quarterdecklaw19.ChannelNone', WHERE WHAT IT READS IS OF BULK AT MOST 1048576: true; the input reads as it did. -/
def channelNoneUptoRow : OpenClaim := { program := "ytfhghnhgcdiknaa", sum := "ae1d44b83e5ffd2fa8764a78669da1893909cd4992408e7d466b0b5ff876080d", func := "quarterdeck/quarterdecklaw19.ChannelNone", spec := "channelNone", unfollowed := true, recurses := true, plainKeys := false, apart := false, narrowed := true }
def ChannelNoneUptoSaid : Prop := channelNoneUptoRow.holds Try.pinned (OpenSpec.upto channelNoneSpec)

/-- 'quarterdecklaw19.ChannelReaches', WHERE WHAT IT READS IS OF BULK AT MOST 1048576: true; the input reads as it did. -/
def channelReachesUptoRow : OpenClaim := { program := "ytfhghnhgcdiknaa", sum := "ae1d44b83e5ffd2fa8764a78669da1893909cd4992408e7d466b0b5ff876080d", func := "quarterdeck/quarterdecklaw19.ChannelReaches", spec := "channelReaches", unfollowed := true, recurses := true, plainKeys := false, apart := false, narrowed := true }
def ChannelReachesUptoSaid : Prop := channelReachesUptoRow.holds Try.pinned (OpenSpec.upto channelReachesSpec)

end Rows
end Go.Proofs.Ytfhghnhgcdiknaa
