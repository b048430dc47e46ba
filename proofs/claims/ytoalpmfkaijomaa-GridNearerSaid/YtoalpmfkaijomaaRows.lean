/-
  No cell of these rows narrows 'for every input' (looked for: loops, veiled, ifaces, maps, wideKeys, modest, calm, conditions, laid).
  DERIVED. THE GIVEN ROWS OF THIS SEAT. 4 by the template 'for every input the law returns true; each argument reads behind the call as it read before'; 0 by the template 'total and deterministic' (their statements: YtoalpmfkaijomaaTotals.lean).
  GIVEN WITH THE SEED: the statements are not yours to turn. If you find one false, say at which input.
  Laid BY PROGRAM, IN A SANDBOX (cutbox-rows.mjs): the forced cells as the released guide's own fill.sh prints them over the translation e5ae33b8c1977bad… (all of the seat's roots in one cut). By AI agents, Wed Nov 11 2026. No macro, syntax, notation, axiom, sorry.
-/
import Derived.Test.YtoalpmfkaijomaaChecked
import GoSem.Claim
import GoSem.ClaimJoined
import GoSem.ClaimMapViews
import Derived.JoinedTies
import Derived.KernelRfl
namespace Go.Proofs.Ytoalpmfkaijomaa
/- THE CELL 'sum', in the pinned program and in every row, IS THE sha256 OF THE DUMP (.gsa) THAT YtoalpmfkaijomaaProg.lean LOADS. Nothing in Lean hashes anything: it is a label: what it is worth is what the hold of that sum in a sandbox is worth. -/
noncomputable def Try.pinned : Pinned := { name := "ytoalpmfkaijomaa", sum := "e5ae33b8c1977bad47645ffceb53f59b91b28e848983f4d45c0c0d0df563b523", checked := Try.checked }
namespace Rows
def none {H : Type} : Left H := { results := [], args := [] }

/-- 'barrowlaw06.GridFar': WHATEVER THE INPUT: true; the input reads as it did. -/
def gridFarSpec : ChangeSpec := { name := "gridFar", fn := fun _ => fun
  | [d1, d2, d3] => { results := [.lit (.bool true)], args := [d1, d2, d3] }
  | _ => none }
def gridFarRow : OpenClaim := { program := "ytoalpmfkaijomaa", sum := "e5ae33b8c1977bad47645ffceb53f59b91b28e848983f4d45c0c0d0df563b523", func := "barrow/barrowlaw06.GridFar", spec := "gridFar", unfollowed := true, recurses := true, apart := false }
def GridFarSaid : Prop := gridFarRow.holds Try.pinned (OpenSpec.ofChange gridFarSpec)

/-- ITS FALSE NEIGHBOUR: 'it returns false'. Refute it at one input. -/
def gridFarWrong : ChangeSpec := { name := "gridFar", fn := fun _ => fun
  | [d1, d2, d3] => { results := [.lit (.bool false)], args := [d1, d2, d3] }
  | _ => none }
def GridFarWrongFalsely : Prop := gridFarRow.holds Try.pinned (OpenSpec.ofChange gridFarWrong)

/-- 'barrowlaw06.GridWalks': WHATEVER THE INPUT: true; the input reads as it did. -/
def gridWalksSpec : ChangeSpec := { name := "gridWalks", fn := fun _ => fun
  | [d1, d2, d3, d4] => { results := [.lit (.bool true)], args := [d1, d2, d3, d4] }
  | _ => none }
def gridWalksRow : OpenClaim := { program := "ytoalpmfkaijomaa", sum := "e5ae33b8c1977bad47645ffceb53f59b91b28e848983f4d45c0c0d0df563b523", func := "barrow/barrowlaw06.GridWalks", spec := "gridWalks", unfollowed := true, recurses := true, apart := false }
def GridWalksSaid : Prop := gridWalksRow.holds Try.pinned (OpenSpec.ofChange gridWalksSpec)

/-- ITS FALSE NEIGHBOUR: 'it returns false'. Refute it at one input. -/
def gridWalksWrong : ChangeSpec := { name := "gridWalks", fn := fun _ => fun
  | [d1, d2, d3, d4] => { results := [.lit (.bool false)], args := [d1, d2, d3, d4] }
  | _ => none }
def GridWalksWrongFalsely : Prop := gridWalksRow.holds Try.pinned (OpenSpec.ofChange gridWalksWrong)

/-- 'barrowlaw06.GridAlike': WHATEVER THE INPUT: true; the input reads as it did. -/
def gridAlikeSpec : ChangeSpec := { name := "gridAlike", fn := fun _ => fun
  | [d1, d2, d3] => { results := [.lit (.bool true)], args := [d1, d2, d3] }
  | _ => none }
def gridAlikeRow : OpenClaim := { program := "ytoalpmfkaijomaa", sum := "e5ae33b8c1977bad47645ffceb53f59b91b28e848983f4d45c0c0d0df563b523", func := "barrow/barrowlaw06.GridAlike", spec := "gridAlike", unfollowed := true, recurses := true, apart := false }
def GridAlikeSaid : Prop := gridAlikeRow.holds Try.pinned (OpenSpec.ofChange gridAlikeSpec)

/-- ITS FALSE NEIGHBOUR: 'it returns false'. Refute it at one input. -/
def gridAlikeWrong : ChangeSpec := { name := "gridAlike", fn := fun _ => fun
  | [d1, d2, d3] => { results := [.lit (.bool false)], args := [d1, d2, d3] }
  | _ => none }
def GridAlikeWrongFalsely : Prop := gridAlikeRow.holds Try.pinned (OpenSpec.ofChange gridAlikeWrong)

/-- 'barrowlaw06.GridNearer': WHATEVER THE INPUT: true; the input reads as it did. -/
def gridNearerSpec : ChangeSpec := { name := "gridNearer", fn := fun _ => fun
  | [d1, d2, d3, d4, d5] => { results := [.lit (.bool true)], args := [d1, d2, d3, d4, d5] }
  | _ => none }
def gridNearerRow : OpenClaim := { program := "ytoalpmfkaijomaa", sum := "e5ae33b8c1977bad47645ffceb53f59b91b28e848983f4d45c0c0d0df563b523", func := "barrow/barrowlaw06.GridNearer", spec := "gridNearer", unfollowed := true, recurses := true, apart := false }
def GridNearerSaid : Prop := gridNearerRow.holds Try.pinned (OpenSpec.ofChange gridNearerSpec)

/-- ITS FALSE NEIGHBOUR: 'it returns false'. Refute it at one input. -/
def gridNearerWrong : ChangeSpec := { name := "gridNearer", fn := fun _ => fun
  | [d1, d2, d3, d4, d5] => { results := [.lit (.bool false)], args := [d1, d2, d3, d4, d5] }
  | _ => none }
def GridNearerWrongFalsely : Prop := gridNearerRow.holds Try.pinned (OpenSpec.ofChange gridNearerWrong)

/- THE SECOND FORM. 'bulk': how many values and letters a reading holds, each counted each time it is reached (what is shared counts as often as it is met; a slice's spare places count too). A statement '..UptoSaid' is the law's where the arguments, and the package variables that the reading takes, are together of bulk at most 1048576: NARROWER than '..Said'. Prove '..Said' where nothing that the law and all that it calls make is longer than what came in: it says more and counts as full. Else prove '..UptoSaid'. A law counts once. -/
mutual
def uptoBulk {H : Type} : DataW H → Nat
  | .lit (.string bytes) => bytes.length + 1
  | .lit _ => 1
  | .nil => 1
  | .ptr d => uptoBulk d + 1
  | .slice elems spare => uptoBulkAll elems + uptoBulkAll spare + 1
  | .agg parts => uptoBulkAll parts + 1
  | .iface _ d => uptoBulk d + 1
  | .map entries => uptoBulkEntries entries + 1
  | .held _ => 1
def uptoBulkAll {H : Type} : List (DataW H) → Nat
  | [] => 0
  | d :: r => uptoBulk d + uptoBulkAll r
def uptoBulkEntries {H : Type} : List (Lit × DataW H) → Nat
  | [] => 0
  | x :: r => uptoBulkEntry x + uptoBulkEntries r
def uptoBulkEntry {H : Type} : Lit × DataW H → Nat
  | (.string bytes, d) => bytes.length + uptoBulk d + 1
  | (_, d) => uptoBulk d + 1
 end
def uptoSmall : (H : Type) → List (DataW H) → Bool := fun _ ds => decide (uptoBulkAll ds ≤ 1048576)
def OpenSpec.upto (s : _root_.Go.ChangeSpec) : _root_.Go.OpenSpec := { _root_.Go.OpenSpec.ofChange s with cond := some uptoSmall }

/-- 'barrowlaw06.GridFar', WHERE WHAT IT READS IS OF BULK AT MOST 1048576: true; the input reads as it did. -/
def gridFarUptoRow : OpenClaim := { program := "ytoalpmfkaijomaa", sum := "e5ae33b8c1977bad47645ffceb53f59b91b28e848983f4d45c0c0d0df563b523", func := "barrow/barrowlaw06.GridFar", spec := "gridFar", unfollowed := true, recurses := true, apart := false, narrowed := true }
def GridFarUptoSaid : Prop := gridFarUptoRow.holds Try.pinned (OpenSpec.upto gridFarSpec)

/-- 'barrowlaw06.GridWalks', WHERE WHAT IT READS IS OF BULK AT MOST 1048576: true; the input reads as it did. -/
def gridWalksUptoRow : OpenClaim := { program := "ytoalpmfkaijomaa", sum := "e5ae33b8c1977bad47645ffceb53f59b91b28e848983f4d45c0c0d0df563b523", func := "barrow/barrowlaw06.GridWalks", spec := "gridWalks", unfollowed := true, recurses := true, apart := false, narrowed := true }
def GridWalksUptoSaid : Prop := gridWalksUptoRow.holds Try.pinned (OpenSpec.upto gridWalksSpec)

/-- 'barrowlaw06.GridAlike', WHERE WHAT IT READS IS OF BULK AT MOST 1048576: true; the input reads as it did. -/
def gridAlikeUptoRow : OpenClaim := { program := "ytoalpmfkaijomaa", sum := "e5ae33b8c1977bad47645ffceb53f59b91b28e848983f4d45c0c0d0df563b523", func := "barrow/barrowlaw06.GridAlike", spec := "gridAlike", unfollowed := true, recurses := true, apart := false, narrowed := true }
def GridAlikeUptoSaid : Prop := gridAlikeUptoRow.holds Try.pinned (OpenSpec.upto gridAlikeSpec)

/-- 'barrowlaw06.GridNearer', WHERE WHAT IT READS IS OF BULK AT MOST 1048576: true; the input reads as it did. -/
def gridNearerUptoRow : OpenClaim := { program := "ytoalpmfkaijomaa", sum := "e5ae33b8c1977bad47645ffceb53f59b91b28e848983f4d45c0c0d0df563b523", func := "barrow/barrowlaw06.GridNearer", spec := "gridNearer", unfollowed := true, recurses := true, apart := false, narrowed := true }
def GridNearerUptoSaid : Prop := gridNearerUptoRow.holds Try.pinned (OpenSpec.upto gridNearerSpec)

end Rows
end Go.Proofs.Ytoalpmfkaijomaa
