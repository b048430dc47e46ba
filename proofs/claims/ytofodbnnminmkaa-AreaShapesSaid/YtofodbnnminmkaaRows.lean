/-
  No cell of these rows narrows 'for every input' (looked for: loops, veiled, ifaces, maps, wideKeys, modest, calm, conditions, laid).
  DERIVED. THE GIVEN ROWS OF THIS SEAT. 4 by the template 'for every input the law returns true; each argument reads behind the call as it read before'; 0 by the template 'total and deterministic' (their statements: YtofodbnnminmkaaTotals.lean).
  GIVEN WITH THE SEED: the statements are not yours to turn. If you find one false, say at which input.
  Laid BY PROGRAM, IN A SANDBOX (cutbox-rows.mjs): the forced cells as the released guide's own fill.sh prints them over the translation a45c52b1f5fb9069… (all of the seat's roots in one cut). By AI agents, Wed Nov 11 2026. No macro, syntax, notation, axiom, sorry.
-/
import Derived.Test.YtofodbnnminmkaaChecked
import GoSem.Claim
import GoSem.ClaimJoined
import GoSem.ClaimMapViews
import Derived.JoinedTies
import Derived.KernelRfl
namespace Go.Proofs.Ytofodbnnminmkaa
/- THE CELL 'sum', in the pinned program and in every row, IS THE sha256 OF THE DUMP (.gsa) THAT YtofodbnnminmkaaProg.lean LOADS. Nothing in Lean hashes anything: it is a label: what it is worth is what the hold of that sum in a sandbox is worth. -/
noncomputable def Try.pinned : Pinned := { name := "ytofodbnnminmkaa", sum := "a45c52b1f5fb906952aaa1997632a8c8d80c68db1856906faec281a5ce46d13e", checked := Try.checked }
namespace Rows
def none {H : Type} : Left H := { results := [], args := [] }

/-- 'barrowlaw32.AreaTells': WHATEVER THE INPUT: true; the input reads as it did. -/
def areaTellsSpec : ChangeSpec := { name := "areaTells", fn := fun _ => fun
  | [d1, d2, d3] => { results := [.lit (.bool true)], args := [d1, d2, d3] }
  | _ => none }
def areaTellsRow : OpenClaim := { program := "ytofodbnnminmkaa", sum := "a45c52b1f5fb906952aaa1997632a8c8d80c68db1856906faec281a5ce46d13e", func := "barrow/barrowlaw32.AreaTells", spec := "areaTells", unfollowed := true, recurses := true, apart := false }
def AreaTellsSaid : Prop := areaTellsRow.holds Try.pinned (OpenSpec.ofChange areaTellsSpec)

/-- ITS FALSE NEIGHBOUR: 'it returns false'. Refute it at one input. -/
def areaTellsWrong : ChangeSpec := { name := "areaTells", fn := fun _ => fun
  | [d1, d2, d3] => { results := [.lit (.bool false)], args := [d1, d2, d3] }
  | _ => none }
def AreaTellsWrongFalsely : Prop := areaTellsRow.holds Try.pinned (OpenSpec.ofChange areaTellsWrong)

/-- 'barrowlaw32.AreaUnits': WHATEVER THE INPUT: true; the input reads as it did. -/
def areaUnitsSpec : ChangeSpec := { name := "areaUnits", fn := fun _ => fun
  | [d1, d2, d3, d4] => { results := [.lit (.bool true)], args := [d1, d2, d3, d4] }
  | _ => none }
def areaUnitsRow : OpenClaim := { program := "ytofodbnnminmkaa", sum := "a45c52b1f5fb906952aaa1997632a8c8d80c68db1856906faec281a5ce46d13e", func := "barrow/barrowlaw32.AreaUnits", spec := "areaUnits", unfollowed := true, recurses := true, apart := false }
def AreaUnitsSaid : Prop := areaUnitsRow.holds Try.pinned (OpenSpec.ofChange areaUnitsSpec)

/-- ITS FALSE NEIGHBOUR: 'it returns false'. Refute it at one input. -/
def areaUnitsWrong : ChangeSpec := { name := "areaUnits", fn := fun _ => fun
  | [d1, d2, d3, d4] => { results := [.lit (.bool false)], args := [d1, d2, d3, d4] }
  | _ => none }
def AreaUnitsWrongFalsely : Prop := areaUnitsRow.holds Try.pinned (OpenSpec.ofChange areaUnitsWrong)

/-- 'barrowlaw32.AreaShapes': WHATEVER THE INPUT: true; the input reads as it did. -/
def areaShapesSpec : ChangeSpec := { name := "areaShapes", fn := fun _ => fun
  | [d1, d2, d3, d4, d5] => { results := [.lit (.bool true)], args := [d1, d2, d3, d4, d5] }
  | _ => none }
def areaShapesRow : OpenClaim := { program := "ytofodbnnminmkaa", sum := "a45c52b1f5fb906952aaa1997632a8c8d80c68db1856906faec281a5ce46d13e", func := "barrow/barrowlaw32.AreaShapes", spec := "areaShapes", unfollowed := true, recurses := true, apart := false }
def AreaShapesSaid : Prop := areaShapesRow.holds Try.pinned (OpenSpec.ofChange areaShapesSpec)

/-- ITS FALSE NEIGHBOUR: 'it returns false'. Refute it at one input. -/
def areaShapesWrong : ChangeSpec := { name := "areaShapes", fn := fun _ => fun
  | [d1, d2, d3, d4, d5] => { results := [.lit (.bool false)], args := [d1, d2, d3, d4, d5] }
  | _ => none }
def AreaShapesWrongFalsely : Prop := areaShapesRow.holds Try.pinned (OpenSpec.ofChange areaShapesWrong)

/-- 'barrowlaw32.AreaMoves': WHATEVER THE INPUT: true; the input reads as it did. -/
def areaMovesSpec : ChangeSpec := { name := "areaMoves", fn := fun _ => fun
  | [d1, d2, d3, d4] => { results := [.lit (.bool true)], args := [d1, d2, d3, d4] }
  | _ => none }
def areaMovesRow : OpenClaim := { program := "ytofodbnnminmkaa", sum := "a45c52b1f5fb906952aaa1997632a8c8d80c68db1856906faec281a5ce46d13e", func := "barrow/barrowlaw32.AreaMoves", spec := "areaMoves", unfollowed := true, recurses := true, apart := false }
def AreaMovesSaid : Prop := areaMovesRow.holds Try.pinned (OpenSpec.ofChange areaMovesSpec)

/-- ITS FALSE NEIGHBOUR: 'it returns false'. Refute it at one input. -/
def areaMovesWrong : ChangeSpec := { name := "areaMoves", fn := fun _ => fun
  | [d1, d2, d3, d4] => { results := [.lit (.bool false)], args := [d1, d2, d3, d4] }
  | _ => none }
def AreaMovesWrongFalsely : Prop := areaMovesRow.holds Try.pinned (OpenSpec.ofChange areaMovesWrong)

/- THE SECOND FORM. 'bulk': how many values and letters a reading holds, each counted each time it is reached (what is shared counts as often as it is met; a slice's spare places count too). A statement '..UptoSaid' is the law's where the arguments, and the package variables that the reading takes, are together of bulk at most 1048576: NARROWER than '..Said'. Prove '..Said' where nothing that the law and all that it calls make is longer than what came in: it says more and counts as full. Else prove '..UptoSaid'. A law counts once. -/
mutual
def uptoBulk {H : Type} : DataW H → Nat
  | .lit (.string bytes) => bytes.length + 1
  | .lit _ => 1
  | .nil => 1
  | .ptr d => uptoBulk d + 1
  | .slice elems spare => uptoBulkAll elems + uptoBulkAll spare + 1
  | .agg parts => uptoBulkAll parts + 1
  | .iface _ d => uptoBulk d + 1
  | .map entries => uptoBulkEntries entries + 1
  | .held _ => 1
def uptoBulkAll {H : Type} : List (DataW H) → Nat
  | [] => 0
  | d :: r => uptoBulk d + uptoBulkAll r
def uptoBulkEntries {H : Type} : List (Lit × DataW H) → Nat
  | [] => 0
  | x :: r => uptoBulkEntry x + uptoBulkEntries r
def uptoBulkEntry {H : Type} : Lit × DataW H → Nat
  | (.string bytes, d) => bytes.length + uptoBulk d + 1
  | (_, d) => uptoBulk d + 1
 end
def uptoSmall : (H : Type) → List (DataW H) → Bool := fun _ ds => decide (uptoBulkAll ds ≤ 1048576)
def OpenSpec.upto (s : _root_.Go.ChangeSpec) : _root_.Go.OpenSpec := { _root_.Go.OpenSpec.ofChange s with cond := some uptoSmall }

/-- 'barrowlaw32.AreaTells', WHERE WHAT IT READS IS OF BULK AT MOST 1048576: true; the input reads as it did. -/
def areaTellsUptoRow : OpenClaim := { program := "ytofodbnnminmkaa", sum := "a45c52b1f5fb906952aaa1997632a8c8d80c68db1856906faec281a5ce46d13e", func := "barrow/barrowlaw32.AreaTells", spec := "areaTells", unfollowed := true, recurses := true, apart := false, narrowed := true }
def AreaTellsUptoSaid : Prop := areaTellsUptoRow.holds Try.pinned (OpenSpec.upto areaTellsSpec)

/-- 'barrowlaw32.AreaUnits', WHERE WHAT IT READS IS OF BULK AT MOST 1048576: true; the input reads as it did. -/
def areaUnitsUptoRow : OpenClaim := { program := "ytofodbnnminmkaa", sum := "a45c52b1f5fb906952aaa1997632a8c8d80c68db1856906faec281a5ce46d13e", func := "barrow/barrowlaw32.AreaUnits", spec := "areaUnits", unfollowed := true, recurses := true, apart := false, narrowed := true }
def AreaUnitsUptoSaid : Prop := areaUnitsUptoRow.holds Try.pinned (OpenSpec.upto areaUnitsSpec)

/-- 'barrowlaw32.AreaShapes', WHERE WHAT IT READS IS OF BULK AT MOST 1048576: true; the input reads as it did. -/
def areaShapesUptoRow : OpenClaim := { program := "ytofodbnnminmkaa", sum := "a45c52b1f5fb906952aaa1997632a8c8d80c68db1856906faec281a5ce46d13e", func := "barrow/barrowlaw32.AreaShapes", spec := "areaShapes", unfollowed := true, recurses := true, apart := false, narrowed := true }
def AreaShapesUptoSaid : Prop := areaShapesUptoRow.holds Try.pinned (OpenSpec.upto areaShapesSpec)

/-- 'barrowlaw32.AreaMoves', WHERE WHAT IT READS IS OF BULK AT MOST 1048576: true; the input reads as it did. -/
def areaMovesUptoRow : OpenClaim := { program := "ytofodbnnminmkaa", sum := "a45c52b1f5fb906952aaa1997632a8c8d80c68db1856906faec281a5ce46d13e", func := "barrow/barrowlaw32.AreaMoves", spec := "areaMoves", unfollowed := true, recurses := true, apart := false, narrowed := true }
def AreaMovesUptoSaid : Prop := areaMovesUptoRow.holds Try.pinned (OpenSpec.upto areaMovesSpec)

end Rows
end Go.Proofs.Ytofodbnnminmkaa
