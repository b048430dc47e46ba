/-
  No cell of these rows narrows 'for every input' (looked for: loops, veiled, ifaces, maps, wideKeys, modest, calm, conditions, laid).
  DERIVED. THE GIVEN ROWS OF THIS SEAT. 4 by the template 'for every input the law returns true; each argument reads behind the call as it read before'; 0 by the template 'total and deterministic' (their statements: YtljmecjciifceaaTotals.lean).
  GIVEN WITH THE SEED: the statements are not yours to turn. If you find one false, say at which input.
  Laid BY PROGRAM, IN A SANDBOX (cutbox-rows.mjs): the forced cells as the released guide's own fill.sh prints them over the translation ccf96ba6715abe90… (all of the seat's roots in one cut). By AI agents, Wed Nov 11 2026. No macro, syntax, notation, axiom, sorry.
-/
import Derived.Test.YtljmecjciifceaaChecked
import GoSem.Claim
import GoSem.ClaimJoined
import GoSem.ClaimMapViews
import Derived.JoinedTies
import Derived.KernelRfl
namespace Go.Proofs.Ytljmecjciifceaa
/- THE CELL 'sum', in the pinned program and in every row, IS THE sha256 OF THE DUMP (.gsa) THAT YtljmecjciifceaaProg.lean LOADS. Nothing in Lean hashes anything: it is a label: what it is worth is what the hold of that sum in a sandbox is worth. -/
noncomputable def Try.pinned : Pinned := { name := "ytljmecjciifceaa", sum := "ccf96ba6715abe906a41606b1c7f0bc3f1e12c01d1ce1ddcbd26b607542d836b", checked := Try.checked }
namespace Rows
def none {H : Type} : Left H := { results := [], args := [] }

/-- 'barrowlaw07.SightLines': WHATEVER THE INPUT: true; the input reads as it did. -/
def sightLinesSpec : ChangeSpec := { name := "sightLines", fn := fun _ => fun
  | [d1, d2, d3] => { results := [.lit (.bool true)], args := [d1, d2, d3] }
  | _ => none }
def sightLinesRow : OpenClaim := { program := "ytljmecjciifceaa", sum := "ccf96ba6715abe906a41606b1c7f0bc3f1e12c01d1ce1ddcbd26b607542d836b", func := "barrow/barrowlaw07.SightLines", spec := "sightLines", unfollowed := true, recurses := true, apart := false }
def SightLinesSaid : Prop := sightLinesRow.holds Try.pinned (OpenSpec.ofChange sightLinesSpec)

/-- ITS FALSE NEIGHBOUR: 'it returns false'. Refute it at one input. -/
def sightLinesWrong : ChangeSpec := { name := "sightLines", fn := fun _ => fun
  | [d1, d2, d3] => { results := [.lit (.bool false)], args := [d1, d2, d3] }
  | _ => none }
def SightLinesWrongFalsely : Prop := sightLinesRow.holds Try.pinned (OpenSpec.ofChange sightLinesWrong)

/-- 'barrowlaw07.SightAlike': WHATEVER THE INPUT: true; the input reads as it did. -/
def sightAlikeSpec : ChangeSpec := { name := "sightAlike", fn := fun _ => fun
  | [d1, d2, d3] => { results := [.lit (.bool true)], args := [d1, d2, d3] }
  | _ => none }
def sightAlikeRow : OpenClaim := { program := "ytljmecjciifceaa", sum := "ccf96ba6715abe906a41606b1c7f0bc3f1e12c01d1ce1ddcbd26b607542d836b", func := "barrow/barrowlaw07.SightAlike", spec := "sightAlike", unfollowed := true, recurses := true, apart := false }
def SightAlikeSaid : Prop := sightAlikeRow.holds Try.pinned (OpenSpec.ofChange sightAlikeSpec)

/-- ITS FALSE NEIGHBOUR: 'it returns false'. Refute it at one input. -/
def sightAlikeWrong : ChangeSpec := { name := "sightAlike", fn := fun _ => fun
  | [d1, d2, d3] => { results := [.lit (.bool false)], args := [d1, d2, d3] }
  | _ => none }
def SightAlikeWrongFalsely : Prop := sightAlikeRow.holds Try.pinned (OpenSpec.ofChange sightAlikeWrong)

/-- 'barrowlaw07.SightWalls': WHATEVER THE INPUT: true; the input reads as it did. -/
def sightWallsSpec : ChangeSpec := { name := "sightWalls", fn := fun _ => fun
  | [d1, d2, d3, d4] => { results := [.lit (.bool true)], args := [d1, d2, d3, d4] }
  | _ => none }
def sightWallsRow : OpenClaim := { program := "ytljmecjciifceaa", sum := "ccf96ba6715abe906a41606b1c7f0bc3f1e12c01d1ce1ddcbd26b607542d836b", func := "barrow/barrowlaw07.SightWalls", spec := "sightWalls", unfollowed := true, recurses := true, apart := false }
def SightWallsSaid : Prop := sightWallsRow.holds Try.pinned (OpenSpec.ofChange sightWallsSpec)

/-- ITS FALSE NEIGHBOUR: 'it returns false'. Refute it at one input. -/
def sightWallsWrong : ChangeSpec := { name := "sightWalls", fn := fun _ => fun
  | [d1, d2, d3, d4] => { results := [.lit (.bool false)], args := [d1, d2, d3, d4] }
  | _ => none }
def SightWallsWrongFalsely : Prop := sightWallsRow.holds Try.pinned (OpenSpec.ofChange sightWallsWrong)

/-- 'barrowlaw07.SightAround': WHATEVER THE INPUT: true; the input reads as it did. -/
def sightAroundSpec : ChangeSpec := { name := "sightAround", fn := fun _ => fun
  | [d1, d2, d3] => { results := [.lit (.bool true)], args := [d1, d2, d3] }
  | _ => none }
def sightAroundRow : OpenClaim := { program := "ytljmecjciifceaa", sum := "ccf96ba6715abe906a41606b1c7f0bc3f1e12c01d1ce1ddcbd26b607542d836b", func := "barrow/barrowlaw07.SightAround", spec := "sightAround", unfollowed := true, recurses := true, apart := false }
def SightAroundSaid : Prop := sightAroundRow.holds Try.pinned (OpenSpec.ofChange sightAroundSpec)

/-- ITS FALSE NEIGHBOUR: 'it returns false'. Refute it at one input. -/
def sightAroundWrong : ChangeSpec := { name := "sightAround", fn := fun _ => fun
  | [d1, d2, d3] => { results := [.lit (.bool false)], args := [d1, d2, d3] }
  | _ => none }
def SightAroundWrongFalsely : Prop := sightAroundRow.holds Try.pinned (OpenSpec.ofChange sightAroundWrong)

/- THE SECOND FORM. 'bulk': how many values and letters a reading holds, each counted each time it is reached (what is shared counts as often as it is met; a slice's spare places count too). A statement '..UptoSaid' is the law's where the arguments, and the package variables that the reading takes, are together of bulk at most 1048576: NARROWER than '..Said'. Prove '..Said' where nothing that the law and all that it calls make is longer than what came in: it says more and counts as full. Else prove '..UptoSaid'. A law counts once. -/
mutual
def uptoBulk {H : Type} : DataW H → Nat
  | .lit (.string bytes) => bytes.length + 1
  | .lit _ => 1
  | .nil => 1
  | .ptr d => uptoBulk d + 1
  | .slice elems spare => uptoBulkAll elems + uptoBulkAll spare + 1
  | .agg parts => uptoBulkAll parts + 1
  | .iface _ d => uptoBulk d + 1
  | .map entries => uptoBulkEntries entries + 1
  | .held _ => 1
def uptoBulkAll {H : Type} : List (DataW H) → Nat
  | [] => 0
  | d :: r => uptoBulk d + uptoBulkAll r
def uptoBulkEntries {H : Type} : List (Lit × DataW H) → Nat
  | [] => 0
  | x :: r => uptoBulkEntry x + uptoBulkEntries r
def uptoBulkEntry {H : Type} : Lit × DataW H → Nat
  | (.string bytes, d) => bytes.length + uptoBulk d + 1
  | (_, d) => uptoBulk d + 1
 end
def uptoSmall : (H : Type) → List (DataW H) → Bool := fun _ ds => decide (uptoBulkAll ds ≤ 1048576)
def OpenSpec.upto (s : _root_.Go.ChangeSpec) : _root_.Go.OpenSpec := { _root_.Go.OpenSpec.ofChange s with cond := some uptoSmall }

/-- 'barrowlaw07.SightLines', WHERE WHAT IT READS IS OF BULK AT MOST 1048576: true; the input reads as it did. -/
def sightLinesUptoRow : OpenClaim := { program := "ytljmecjciifceaa", sum := "ccf96ba6715abe906a41606b1c7f0bc3f1e12c01d1ce1ddcbd26b607542d836b", func := "barrow/barrowlaw07.SightLines", spec := "sightLines", unfollowed := true, recurses := true, apart := false, narrowed := true }
def SightLinesUptoSaid : Prop := sightLinesUptoRow.holds Try.pinned (OpenSpec.upto sightLinesSpec)

/-- 'barrowlaw07.SightAlike', WHERE WHAT IT READS IS OF BULK AT MOST 1048576: true; the input reads as it did. -/
def sightAlikeUptoRow : OpenClaim := { program := "ytljmecjciifceaa", sum := "ccf96ba6715abe906a41606b1c7f0bc3f1e12c01d1ce1ddcbd26b607542d836b", func := "barrow/barrowlaw07.SightAlike", spec := "sightAlike", unfollowed := true, recurses := true, apart := false, narrowed := true }
def SightAlikeUptoSaid : Prop := sightAlikeUptoRow.holds Try.pinned (OpenSpec.upto sightAlikeSpec)

/-- 'barrowlaw07.SightWalls', WHERE WHAT IT READS IS OF BULK AT MOST 1048576: true; the input reads as it did. -/
def sightWallsUptoRow : OpenClaim := { program := "ytljmecjciifceaa", sum := "ccf96ba6715abe906a41606b1c7f0bc3f1e12c01d1ce1ddcbd26b607542d836b", func := "barrow/barrowlaw07.SightWalls", spec := "sightWalls", unfollowed := true, recurses := true, apart := false, narrowed := true }
def SightWallsUptoSaid : Prop := sightWallsUptoRow.holds Try.pinned (OpenSpec.upto sightWallsSpec)

/-- 'barrowlaw07.SightAround', WHERE WHAT IT READS IS OF BULK AT MOST 1048576: true; the input reads as it did. -/
def sightAroundUptoRow : OpenClaim := { program := "ytljmecjciifceaa", sum := "ccf96ba6715abe906a41606b1c7f0bc3f1e12c01d1ce1ddcbd26b607542d836b", func := "barrow/barrowlaw07.SightAround", spec := "sightAround", unfollowed := true, recurses := true, apart := false, narrowed := true }
def SightAroundUptoSaid : Prop := sightAroundUptoRow.holds Try.pinned (OpenSpec.upto sightAroundSpec)

end Rows
end Go.Proofs.Ytljmecjciifceaa
