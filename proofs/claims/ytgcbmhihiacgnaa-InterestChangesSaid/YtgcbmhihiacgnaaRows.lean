/-
  No cell of these rows narrows 'for every input' (looked for: loops, veiled, ifaces, maps, wideKeys, modest, calm, conditions, laid).
  DERIVED. THE GIVEN ROWS OF THIS SEAT. 4 by the template 'for every input the law returns true; each argument reads behind the call as it read before'; 0 by the template 'total and deterministic' (their statements: YtgcbmhihiacgnaaTotals.lean).
  GIVEN WITH THE SEED: the statements are not yours to turn. If you find one false, say at which input.
  Laid BY PROGRAM, IN A SANDBOX (cutbox-rows.mjs): the forced cells as the released guide's own fill.sh prints them over the translation 4f888f15bfb7b9d0… (all of the seat's roots in one cut). By AI agents, Wed Nov 11 2026. No macro, syntax, notation, axiom, sorry.
-/
import Derived.Test.YtgcbmhihiacgnaaChecked
import GoSem.Claim
import GoSem.ClaimJoined
import GoSem.ClaimMapViews
import Derived.JoinedTies
import Derived.KernelRfl
namespace Go.Proofs.Ytgcbmhihiacgnaa
/- THE CELL 'sum', in the pinned program and in every row, IS THE sha256 OF THE DUMP (.gsa) THAT YtgcbmhihiacgnaaProg.lean LOADS. Nothing in Lean hashes anything: it is a label: what it is worth is what the hold of that sum in a sandbox is worth. -/
noncomputable def Try.pinned : Pinned := { name := "ytgcbmhihiacgnaa", sum := "4f888f15bfb7b9d0a0deeae2d090f17901b5fe868e537a00bad5f9d626b2e349", checked := Try.checked }
namespace Rows
def none {H : Type} : Left H := { results := [], args := [] }

/-- 'barrowlaw24.InterestSets': WHATEVER THE INPUT: true; the input reads as it did. -/
def interestSetsSpec : ChangeSpec := { name := "interestSets", fn := fun _ => fun
  | [d1, d2, d3, d4, d5] => { results := [.lit (.bool true)], args := [d1, d2, d3, d4, d5] }
  | _ => none }
def interestSetsRow : OpenClaim := { program := "ytgcbmhihiacgnaa", sum := "4f888f15bfb7b9d0a0deeae2d090f17901b5fe868e537a00bad5f9d626b2e349", func := "barrow/barrowlaw24.InterestSets", spec := "interestSets", unfollowed := true, recurses := true, apart := false }
def InterestSetsSaid : Prop := interestSetsRow.holds Try.pinned (OpenSpec.ofChange interestSetsSpec)

/-- ITS FALSE NEIGHBOUR: 'it returns false'. Refute it at one input. -/
def interestSetsWrong : ChangeSpec := { name := "interestSets", fn := fun _ => fun
  | [d1, d2, d3, d4, d5] => { results := [.lit (.bool false)], args := [d1, d2, d3, d4, d5] }
  | _ => none }
def InterestSetsWrongFalsely : Prop := interestSetsRow.holds Try.pinned (OpenSpec.ofChange interestSetsWrong)

/-- 'barrowlaw24.InterestTurns': WHATEVER THE INPUT: true; the input reads as it did. -/
def interestTurnsSpec : ChangeSpec := { name := "interestTurns", fn := fun _ => fun
  | [d1, d2, d3, d4] => { results := [.lit (.bool true)], args := [d1, d2, d3, d4] }
  | _ => none }
def interestTurnsRow : OpenClaim := { program := "ytgcbmhihiacgnaa", sum := "4f888f15bfb7b9d0a0deeae2d090f17901b5fe868e537a00bad5f9d626b2e349", func := "barrow/barrowlaw24.InterestTurns", spec := "interestTurns", unfollowed := true, recurses := true, apart := false }
def InterestTurnsSaid : Prop := interestTurnsRow.holds Try.pinned (OpenSpec.ofChange interestTurnsSpec)

/-- ITS FALSE NEIGHBOUR: 'it returns false'. Refute it at one input. -/
def interestTurnsWrong : ChangeSpec := { name := "interestTurns", fn := fun _ => fun
  | [d1, d2, d3, d4] => { results := [.lit (.bool false)], args := [d1, d2, d3, d4] }
  | _ => none }
def InterestTurnsWrongFalsely : Prop := interestTurnsRow.holds Try.pinned (OpenSpec.ofChange interestTurnsWrong)

/-- 'barrowlaw24.InterestMutual': WHATEVER THE INPUT: true; the input reads as it did. -/
def interestMutualSpec : ChangeSpec := { name := "interestMutual", fn := fun _ => fun
  | [d1, d2, d3, d4, d5] => { results := [.lit (.bool true)], args := [d1, d2, d3, d4, d5] }
  | _ => none }
def interestMutualRow : OpenClaim := { program := "ytgcbmhihiacgnaa", sum := "4f888f15bfb7b9d0a0deeae2d090f17901b5fe868e537a00bad5f9d626b2e349", func := "barrow/barrowlaw24.InterestMutual", spec := "interestMutual", unfollowed := true, recurses := true, apart := false }
def InterestMutualSaid : Prop := interestMutualRow.holds Try.pinned (OpenSpec.ofChange interestMutualSpec)

/-- ITS FALSE NEIGHBOUR: 'it returns false'. Refute it at one input. -/
def interestMutualWrong : ChangeSpec := { name := "interestMutual", fn := fun _ => fun
  | [d1, d2, d3, d4, d5] => { results := [.lit (.bool false)], args := [d1, d2, d3, d4, d5] }
  | _ => none }
def InterestMutualWrongFalsely : Prop := interestMutualRow.holds Try.pinned (OpenSpec.ofChange interestMutualWrong)

/-- 'barrowlaw24.InterestChanges': WHATEVER THE INPUT: true; the input reads as it did. -/
def interestChangesSpec : ChangeSpec := { name := "interestChanges", fn := fun _ => fun
  | [d1, d2] => { results := [.lit (.bool true)], args := [d1, d2] }
  | _ => none }
def interestChangesRow : OpenClaim := { program := "ytgcbmhihiacgnaa", sum := "4f888f15bfb7b9d0a0deeae2d090f17901b5fe868e537a00bad5f9d626b2e349", func := "barrow/barrowlaw24.InterestChanges", spec := "interestChanges", unfollowed := true, recurses := true, apart := false }
def InterestChangesSaid : Prop := interestChangesRow.holds Try.pinned (OpenSpec.ofChange interestChangesSpec)

/-- ITS FALSE NEIGHBOUR: 'it returns false'. Refute it at one input. -/
def interestChangesWrong : ChangeSpec := { name := "interestChanges", fn := fun _ => fun
  | [d1, d2] => { results := [.lit (.bool false)], args := [d1, d2] }
  | _ => none }
def InterestChangesWrongFalsely : Prop := interestChangesRow.holds Try.pinned (OpenSpec.ofChange interestChangesWrong)

/- THE SECOND FORM. 'bulk': how many values and letters a reading holds, each counted each time it is reached (what is shared counts as often as it is met; a slice's spare places count too). A statement '..UptoSaid' is the law's where the arguments, and the package variables that the reading takes, are together of bulk at most 1048576: NARROWER than '..Said'. Prove '..Said' where nothing that the law and all that it calls make is longer than what came in: it says more and counts as full. Else prove '..UptoSaid'. A law counts once. -/
mutual
def uptoBulk {H : Type} : DataW H → Nat
  | .lit (.string bytes) => bytes.length + 1
  | .lit _ => 1
  | .nil => 1
  | .ptr d => uptoBulk d + 1
  | .slice elems spare => uptoBulkAll elems + uptoBulkAll spare + 1
  | .agg parts => uptoBulkAll parts + 1
  | .iface _ d => uptoBulk d + 1
  | .map entries => uptoBulkEntries entries + 1
  | .held _ => 1
def uptoBulkAll {H : Type} : List (DataW H) → Nat
  | [] => 0
  | d :: r => uptoBulk d + uptoBulkAll r
def uptoBulkEntries {H : Type} : List (Lit × DataW H) → Nat
  | [] => 0
  | x :: r => uptoBulkEntry x + uptoBulkEntries r
def uptoBulkEntry {H : Type} : Lit × DataW H → Nat
  | (.string bytes, d) => bytes.length + uptoBulk d + 1
  | (_, d) => uptoBulk d + 1
 end
def uptoSmall : (H : Type) → List (DataW H) → Bool := fun _ ds => decide (uptoBulkAll ds ≤ 1048576)
def OpenSpec.upto (s : _root_.Go.ChangeSpec) : _root_.Go.OpenSpec := { _root_.Go.OpenSpec.ofChange s with cond := some uptoSmall }

/-- 'barrowlaw24.InterestSets', WHERE WHAT IT READS IS OF BULK AT MOST 1048576: true; the input reads as it did. -/
def interestSetsUptoRow : OpenClaim := { program := "ytgcbmhihiacgnaa", sum := "4f888f15bfb7b9d0a0deeae2d090f17901b5fe868e537a00bad5f9d626b2e349", func := "barrow/barrowlaw24.InterestSets", spec := "interestSets", unfollowed := true, recurses := true, apart := false, narrowed := true }
def InterestSetsUptoSaid : Prop := interestSetsUptoRow.holds Try.pinned (OpenSpec.upto interestSetsSpec)

/-- 'barrowlaw24.InterestTurns', WHERE WHAT IT READS IS OF BULK AT MOST 1048576: true; the input reads as it did. -/
def interestTurnsUptoRow : OpenClaim := { program := "ytgcbmhihiacgnaa", sum := "4f888f15bfb7b9d0a0deeae2d090f17901b5fe868e537a00bad5f9d626b2e349", func := "barrow/barrowlaw24.InterestTurns", spec := "interestTurns", unfollowed := true, recurses := true, apart := false, narrowed := true }
def InterestTurnsUptoSaid : Prop := interestTurnsUptoRow.holds Try.pinned (OpenSpec.upto interestTurnsSpec)

/-- 'barrowlaw24.InterestMutual', WHERE WHAT IT READS IS OF BULK AT MOST 1048576: true; the input reads as it did. -/
def interestMutualUptoRow : OpenClaim := { program := "ytgcbmhihiacgnaa", sum := "4f888f15bfb7b9d0a0deeae2d090f17901b5fe868e537a00bad5f9d626b2e349", func := "barrow/barrowlaw24.InterestMutual", spec := "interestMutual", unfollowed := true, recurses := true, apart := false, narrowed := true }
def InterestMutualUptoSaid : Prop := interestMutualUptoRow.holds Try.pinned (OpenSpec.upto interestMutualSpec)

/-- 'barrowlaw24.InterestChanges', WHERE WHAT IT READS IS OF BULK AT MOST 1048576: true; the input reads as it did. -/
def interestChangesUptoRow : OpenClaim := { program := "ytgcbmhihiacgnaa", sum := "4f888f15bfb7b9d0a0deeae2d090f17901b5fe868e537a00bad5f9d626b2e349", func := "barrow/barrowlaw24.InterestChanges", spec := "interestChanges", unfollowed := true, recurses := true, apart := false, narrowed := true }
def InterestChangesUptoSaid : Prop := interestChangesUptoRow.holds Try.pinned (OpenSpec.upto interestChangesSpec)

end Rows
end Go.Proofs.Ytgcbmhihiacgnaa
