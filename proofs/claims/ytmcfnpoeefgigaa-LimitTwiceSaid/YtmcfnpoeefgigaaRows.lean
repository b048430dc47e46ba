/-
  No cell of these rows narrows 'for every input' (looked for: loops, veiled, ifaces, maps, wideKeys, modest, calm, conditions, laid).
  DERIVED. THE GIVEN ROWS OF THIS SEAT. 4 by the template 'for every input the law returns true; each argument reads behind the call as it read before'; 0 by the template 'total and deterministic' (their statements: YtmcfnpoeefgigaaTotals.lean).
  GIVEN WITH THE SEED: the statements are not yours to turn. If you find one false, say at which input.
  Laid BY PROGRAM, IN A SANDBOX (cutbox-rows.mjs): the forced cells as the released guide's own fill.sh prints them over the translation 015644e79ffdb091… (all of the seat's roots in one cut). By AI agents, Wed Nov 11 2026. No macro, syntax, notation, axiom, sorry.
-/
import Derived.Test.YtmcfnpoeefgigaaChecked
import GoSem.Claim
import GoSem.ClaimJoined
import GoSem.ClaimMapViews
import Derived.JoinedTies
import Derived.KernelRfl
namespace Go.Proofs.Ytmcfnpoeefgigaa
/- THE CELL 'sum', in the pinned program and in every row, IS THE sha256 OF THE DUMP (.gsa) THAT YtmcfnpoeefgigaaProg.lean LOADS. Nothing in Lean hashes anything: it is a label: what it is worth is what the hold of that sum in a sandbox is worth. -/
noncomputable def Try.pinned : Pinned := { name := "ytmcfnpoeefgigaa", sum := "015644e79ffdb0916a5a246801ea044a44537c44a3990470581ef606016451bc", checked := Try.checked }
namespace Rows
def none {H : Type} : Left H := { results := [], args := [] }

/-- 'barrowlaw23.LimitTells': WHATEVER THE INPUT: true; the input reads as it did. -/
def limitTellsSpec : ChangeSpec := { name := "limitTells", fn := fun _ => fun
  | [d1, d2, d3, d4, d5] => { results := [.lit (.bool true)], args := [d1, d2, d3, d4, d5] }
  | _ => none }
def limitTellsRow : OpenClaim := { program := "ytmcfnpoeefgigaa", sum := "015644e79ffdb0916a5a246801ea044a44537c44a3990470581ef606016451bc", func := "barrow/barrowlaw23.LimitTells", spec := "limitTells", unfollowed := true, recurses := true, apart := false }
def LimitTellsSaid : Prop := limitTellsRow.holds Try.pinned (OpenSpec.ofChange limitTellsSpec)

/-- ITS FALSE NEIGHBOUR: 'it returns false'. Refute it at one input. -/
def limitTellsWrong : ChangeSpec := { name := "limitTells", fn := fun _ => fun
  | [d1, d2, d3, d4, d5] => { results := [.lit (.bool false)], args := [d1, d2, d3, d4, d5] }
  | _ => none }
def LimitTellsWrongFalsely : Prop := limitTellsRow.holds Try.pinned (OpenSpec.ofChange limitTellsWrong)

/-- 'barrowlaw23.LimitWaits': WHATEVER THE INPUT: true; the input reads as it did. -/
def limitWaitsSpec : ChangeSpec := { name := "limitWaits", fn := fun _ => fun
  | [d1, d2, d3, d4, d5] => { results := [.lit (.bool true)], args := [d1, d2, d3, d4, d5] }
  | _ => none }
def limitWaitsRow : OpenClaim := { program := "ytmcfnpoeefgigaa", sum := "015644e79ffdb0916a5a246801ea044a44537c44a3990470581ef606016451bc", func := "barrow/barrowlaw23.LimitWaits", spec := "limitWaits", unfollowed := true, recurses := true, apart := false }
def LimitWaitsSaid : Prop := limitWaitsRow.holds Try.pinned (OpenSpec.ofChange limitWaitsSpec)

/-- ITS FALSE NEIGHBOUR: 'it returns false'. Refute it at one input. -/
def limitWaitsWrong : ChangeSpec := { name := "limitWaits", fn := fun _ => fun
  | [d1, d2, d3, d4, d5] => { results := [.lit (.bool false)], args := [d1, d2, d3, d4, d5] }
  | _ => none }
def LimitWaitsWrongFalsely : Prop := limitWaitsRow.holds Try.pinned (OpenSpec.ofChange limitWaitsWrong)

/-- 'barrowlaw23.LimitHolds': WHATEVER THE INPUT: true; the input reads as it did. -/
def limitHoldsSpec : ChangeSpec := { name := "limitHolds", fn := fun _ => fun
  | [d1, d2, d3, d4] => { results := [.lit (.bool true)], args := [d1, d2, d3, d4] }
  | _ => none }
def limitHoldsRow : OpenClaim := { program := "ytmcfnpoeefgigaa", sum := "015644e79ffdb0916a5a246801ea044a44537c44a3990470581ef606016451bc", func := "barrow/barrowlaw23.LimitHolds", spec := "limitHolds", unfollowed := true, recurses := true, apart := false }
def LimitHoldsSaid : Prop := limitHoldsRow.holds Try.pinned (OpenSpec.ofChange limitHoldsSpec)

/-- ITS FALSE NEIGHBOUR: 'it returns false'. Refute it at one input. -/
def limitHoldsWrong : ChangeSpec := { name := "limitHolds", fn := fun _ => fun
  | [d1, d2, d3, d4] => { results := [.lit (.bool false)], args := [d1, d2, d3, d4] }
  | _ => none }
def LimitHoldsWrongFalsely : Prop := limitHoldsRow.holds Try.pinned (OpenSpec.ofChange limitHoldsWrong)

/-- 'barrowlaw23.LimitTwice': WHATEVER THE INPUT: true; the input reads as it did. -/
def limitTwiceSpec : ChangeSpec := { name := "limitTwice", fn := fun _ => fun
  | [d1, d2, d3, d4, d5, d6] => { results := [.lit (.bool true)], args := [d1, d2, d3, d4, d5, d6] }
  | _ => none }
def limitTwiceRow : OpenClaim := { program := "ytmcfnpoeefgigaa", sum := "015644e79ffdb0916a5a246801ea044a44537c44a3990470581ef606016451bc", func := "barrow/barrowlaw23.LimitTwice", spec := "limitTwice", unfollowed := true, recurses := true, apart := false }
def LimitTwiceSaid : Prop := limitTwiceRow.holds Try.pinned (OpenSpec.ofChange limitTwiceSpec)

/-- ITS FALSE NEIGHBOUR: 'it returns false'. Refute it at one input. -/
def limitTwiceWrong : ChangeSpec := { name := "limitTwice", fn := fun _ => fun
  | [d1, d2, d3, d4, d5, d6] => { results := [.lit (.bool false)], args := [d1, d2, d3, d4, d5, d6] }
  | _ => none }
def LimitTwiceWrongFalsely : Prop := limitTwiceRow.holds Try.pinned (OpenSpec.ofChange limitTwiceWrong)

/- THE SECOND FORM. 'bulk': how many values and letters a reading holds, each counted each time it is reached (what is shared counts as often as it is met; a slice's spare places count too). A statement '..UptoSaid' is the law's where the arguments, and the package variables that the reading takes, are together of bulk at most 1048576: NARROWER than '..Said'. Prove '..Said' where nothing that the law and all that it calls make is longer than what came in: it says more and counts as full. Else prove '..UptoSaid'. A law counts once. -/
mutual
def uptoBulk {H : Type} : DataW H → Nat
  | .lit (.string bytes) => bytes.length + 1
  | .lit _ => 1
  | .nil => 1
  | .ptr d => uptoBulk d + 1
  | .slice elems spare => uptoBulkAll elems + uptoBulkAll spare + 1
  | .agg parts => uptoBulkAll parts + 1
  | .iface _ d => uptoBulk d + 1
  | .map entries => uptoBulkEntries entries + 1
  | .held _ => 1
def uptoBulkAll {H : Type} : List (DataW H) → Nat
  | [] => 0
  | d :: r => uptoBulk d + uptoBulkAll r
def uptoBulkEntries {H : Type} : List (Lit × DataW H) → Nat
  | [] => 0
  | x :: r => uptoBulkEntry x + uptoBulkEntries r
def uptoBulkEntry {H : Type} : Lit × DataW H → Nat
  | (.string bytes, d) => bytes.length + uptoBulk d + 1
  | (_, d) => uptoBulk d + 1
 end
def uptoSmall : (H : Type) → List (DataW H) → Bool := fun _ ds => decide (uptoBulkAll ds ≤ 1048576)
def OpenSpec.upto (s : _root_.Go.ChangeSpec) : _root_.Go.OpenSpec := { _root_.Go.OpenSpec.ofChange s with cond := some uptoSmall }

/-- 'barrowlaw23.LimitTells', WHERE WHAT IT READS IS OF BULK AT MOST 1048576: true; the input reads as it did. -/
def limitTellsUptoRow : OpenClaim := { program := "ytmcfnpoeefgigaa", sum := "015644e79ffdb0916a5a246801ea044a44537c44a3990470581ef606016451bc", func := "barrow/barrowlaw23.LimitTells", spec := "limitTells", unfollowed := true, recurses := true, apart := false, narrowed := true }
def LimitTellsUptoSaid : Prop := limitTellsUptoRow.holds Try.pinned (OpenSpec.upto limitTellsSpec)

/-- 'barrowlaw23.LimitWaits', WHERE WHAT IT READS IS OF BULK AT MOST 1048576: true; the input reads as it did. -/
def limitWaitsUptoRow : OpenClaim := { program := "ytmcfnpoeefgigaa", sum := "015644e79ffdb0916a5a246801ea044a44537c44a3990470581ef606016451bc", func := "barrow/barrowlaw23.LimitWaits", spec := "limitWaits", unfollowed := true, recurses := true, apart := false, narrowed := true }
def LimitWaitsUptoSaid : Prop := limitWaitsUptoRow.holds Try.pinned (OpenSpec.upto limitWaitsSpec)

/-- 'barrowlaw23.LimitHolds', WHERE WHAT IT READS IS OF BULK AT MOST 1048576: true; the input reads as it did. -/
def limitHoldsUptoRow : OpenClaim := { program := "ytmcfnpoeefgigaa", sum := "015644e79ffdb0916a5a246801ea044a44537c44a3990470581ef606016451bc", func := "barrow/barrowlaw23.LimitHolds", spec := "limitHolds", unfollowed := true, recurses := true, apart := false, narrowed := true }
def LimitHoldsUptoSaid : Prop := limitHoldsUptoRow.holds Try.pinned (OpenSpec.upto limitHoldsSpec)

/-- 'barrowlaw23.LimitTwice', WHERE WHAT IT READS IS OF BULK AT MOST 1048576: true; the input reads as it did. -/
def limitTwiceUptoRow : OpenClaim := { program := "ytmcfnpoeefgigaa", sum := "015644e79ffdb0916a5a246801ea044a44537c44a3990470581ef606016451bc", func := "barrow/barrowlaw23.LimitTwice", spec := "limitTwice", unfollowed := true, recurses := true, apart := false, narrowed := true }
def LimitTwiceUptoSaid : Prop := limitTwiceUptoRow.holds Try.pinned (OpenSpec.upto limitTwiceSpec)

end Rows
end Go.Proofs.Ytmcfnpoeefgigaa
