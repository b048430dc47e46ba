/-
  No cell of these rows narrows 'for every input' (looked for: loops, veiled, ifaces, maps, wideKeys, modest, calm, conditions, laid).
  DERIVED. THE GIVEN ROWS OF THIS SEAT. 5 by the template 'for every input the law returns true; each argument reads behind the call as it read before'; 0 by the template 'total and deterministic' (their statements: YtkffeglkbpfndaaTotals.lean).
  GIVEN WITH THE SEED: the statements are not yours to turn. If you find one false, say at which input.
  Laid BY PROGRAM, IN A SANDBOX (cutbox-rows.mjs): the forced cells as the released guide's own fill.sh prints them over the translation 7fb1258cff88f906… (all of the seat's roots in one cut). By AI agents, Wed Nov 11 2026. No macro, syntax, notation, axiom, sorry.
-/
import Derived.Test.YtkffeglkbpfndaaChecked
import GoSem.Claim
import GoSem.ClaimJoined
import GoSem.ClaimMapViews
import Derived.JoinedTies
import Derived.KernelRfl
namespace Go.Proofs.Ytkffeglkbpfndaa
/- THE CELL 'sum', in the pinned program and in every row, IS THE sha256 OF THE DUMP (.gsa) THAT YtkffeglkbpfndaaProg.lean LOADS. Nothing in Lean hashes anything: it is a label: what it is worth is what the hold of that sum in a sandbox is worth. -/
noncomputable def Try.pinned : Pinned := { name := "ytkffeglkbpfndaa", sum := "7fb1258cff88f9065a9bb723f9f25ff7566de46fc1a977967c1fe1bff2dbd9d6", checked := Try.checked }
namespace Rows
def none {H : Type} : Left H := { results := [], args := [] }

/-- 'barrowlaw02.DrawFair': WHATEVER THE INPUT: true; the input reads as it did. -/
def drawFairSpec : ChangeSpec := { name := "drawFair", fn := fun _ => fun
  | [d1, d2] => { results := [.lit (.bool true)], args := [d1, d2] }
  | _ => none }
def drawFairRow : OpenClaim := { program := "ytkffeglkbpfndaa", sum := "7fb1258cff88f9065a9bb723f9f25ff7566de46fc1a977967c1fe1bff2dbd9d6", func := "barrow/barrowlaw02.DrawFair", spec := "drawFair", apart := false }
def DrawFairSaid : Prop := drawFairRow.holds Try.pinned (OpenSpec.ofChange drawFairSpec)

/-- ITS FALSE NEIGHBOUR: 'it returns false'. Refute it at one input. -/
def drawFairWrong : ChangeSpec := { name := "drawFair", fn := fun _ => fun
  | [d1, d2] => { results := [.lit (.bool false)], args := [d1, d2] }
  | _ => none }
def DrawFairWrongFalsely : Prop := drawFairRow.holds Try.pinned (OpenSpec.ofChange drawFairWrong)

/-- 'barrowlaw02.DrawParts': WHATEVER THE INPUT: true; the input reads as it did. -/
def drawPartsSpec : ChangeSpec := { name := "drawParts", fn := fun _ => fun
  | [d1, d2, d3] => { results := [.lit (.bool true)], args := [d1, d2, d3] }
  | _ => none }
def drawPartsRow : OpenClaim := { program := "ytkffeglkbpfndaa", sum := "7fb1258cff88f9065a9bb723f9f25ff7566de46fc1a977967c1fe1bff2dbd9d6", func := "barrow/barrowlaw02.DrawParts", spec := "drawParts", apart := false }
def DrawPartsSaid : Prop := drawPartsRow.holds Try.pinned (OpenSpec.ofChange drawPartsSpec)

/-- ITS FALSE NEIGHBOUR: 'it returns false'. Refute it at one input. -/
def drawPartsWrong : ChangeSpec := { name := "drawParts", fn := fun _ => fun
  | [d1, d2, d3] => { results := [.lit (.bool false)], args := [d1, d2, d3] }
  | _ => none }
def DrawPartsWrongFalsely : Prop := drawPartsRow.holds Try.pinned (OpenSpec.ofChange drawPartsWrong)

/-- 'barrowlaw02.DrawAll': WHATEVER THE INPUT: true; the input reads as it did. -/
def drawAllSpec : ChangeSpec := { name := "drawAll", fn := fun _ => fun
  | [d1, d2] => { results := [.lit (.bool true)], args := [d1, d2] }
  | _ => none }
def drawAllRow : OpenClaim := { program := "ytkffeglkbpfndaa", sum := "7fb1258cff88f9065a9bb723f9f25ff7566de46fc1a977967c1fe1bff2dbd9d6", func := "barrow/barrowlaw02.DrawAll", spec := "drawAll", apart := false }
def DrawAllSaid : Prop := drawAllRow.holds Try.pinned (OpenSpec.ofChange drawAllSpec)

/-- ITS FALSE NEIGHBOUR: 'it returns false'. Refute it at one input. -/
def drawAllWrong : ChangeSpec := { name := "drawAll", fn := fun _ => fun
  | [d1, d2] => { results := [.lit (.bool false)], args := [d1, d2] }
  | _ => none }
def DrawAllWrongFalsely : Prop := drawAllRow.holds Try.pinned (OpenSpec.ofChange drawAllWrong)

/-- 'barrowlaw02.DrawPlays': WHATEVER THE INPUT: true; the input reads as it did. -/
def drawPlaysSpec : ChangeSpec := { name := "drawPlays", fn := fun _ => fun
  | [d1, d2] => { results := [.lit (.bool true)], args := [d1, d2] }
  | _ => none }
def drawPlaysRow : OpenClaim := { program := "ytkffeglkbpfndaa", sum := "7fb1258cff88f9065a9bb723f9f25ff7566de46fc1a977967c1fe1bff2dbd9d6", func := "barrow/barrowlaw02.DrawPlays", spec := "drawPlays", apart := false }
def DrawPlaysSaid : Prop := drawPlaysRow.holds Try.pinned (OpenSpec.ofChange drawPlaysSpec)

/-- ITS FALSE NEIGHBOUR: 'it returns false'. Refute it at one input. -/
def drawPlaysWrong : ChangeSpec := { name := "drawPlays", fn := fun _ => fun
  | [d1, d2] => { results := [.lit (.bool false)], args := [d1, d2] }
  | _ => none }
def DrawPlaysWrongFalsely : Prop := drawPlaysRow.holds Try.pinned (OpenSpec.ofChange drawPlaysWrong)

/-- 'barrowlaw02.DrawDeals': WHATEVER THE INPUT: true; the input reads as it did. -/
def drawDealsSpec : ChangeSpec := { name := "drawDeals", fn := fun _ => fun
  | [d1, d2, d3] => { results := [.lit (.bool true)], args := [d1, d2, d3] }
  | _ => none }
def drawDealsRow : OpenClaim := { program := "ytkffeglkbpfndaa", sum := "7fb1258cff88f9065a9bb723f9f25ff7566de46fc1a977967c1fe1bff2dbd9d6", func := "barrow/barrowlaw02.DrawDeals", spec := "drawDeals", apart := false }
def DrawDealsSaid : Prop := drawDealsRow.holds Try.pinned (OpenSpec.ofChange drawDealsSpec)

/-- ITS FALSE NEIGHBOUR: 'it returns false'. Refute it at one input. -/
def drawDealsWrong : ChangeSpec := { name := "drawDeals", fn := fun _ => fun
  | [d1, d2, d3] => { results := [.lit (.bool false)], args := [d1, d2, d3] }
  | _ => none }
def DrawDealsWrongFalsely : Prop := drawDealsRow.holds Try.pinned (OpenSpec.ofChange drawDealsWrong)

/- THE SECOND FORM. 'bulk': how many values and letters a reading holds, each counted each time it is reached (what is shared counts as often as it is met; a slice's spare places count too). A statement '..UptoSaid' is the law's where the arguments, and the package variables that the reading takes, are together of bulk at most 1048576: NARROWER than '..Said'. Prove '..Said' where nothing that the law and all that it calls make is longer than what came in: it says more and counts as full. Else prove '..UptoSaid'. A law counts once. -/
mutual
def uptoBulk {H : Type} : DataW H → Nat
  | .lit (.string bytes) => bytes.length + 1
  | .lit _ => 1
  | .nil => 1
  | .ptr d => uptoBulk d + 1
  | .slice elems spare => uptoBulkAll elems + uptoBulkAll spare + 1
  | .agg parts => uptoBulkAll parts + 1
  | .iface _ d => uptoBulk d + 1
  | .map entries => uptoBulkEntries entries + 1
  | .held _ => 1
def uptoBulkAll {H : Type} : List (DataW H) → Nat
  | [] => 0
  | d :: r => uptoBulk d + uptoBulkAll r
def uptoBulkEntries {H : Type} : List (Lit × DataW H) → Nat
  | [] => 0
  | x :: r => uptoBulkEntry x + uptoBulkEntries r
def uptoBulkEntry {H : Type} : Lit × DataW H → Nat
  | (.string bytes, d) => bytes.length + uptoBulk d + 1
  | (_, d) => uptoBulk d + 1
 end
def uptoSmall : (H : Type) → List (DataW H) → Bool := fun _ ds => decide (uptoBulkAll ds ≤ 1048576)
def OpenSpec.upto (s : _root_.Go.ChangeSpec) : _root_.Go.OpenSpec := { _root_.Go.OpenSpec.ofChange s with cond := some uptoSmall }

/-- 'barrowlaw02.DrawFair', WHERE WHAT IT READS IS OF BULK AT MOST 1048576: true; the input reads as it did. -/
def drawFairUptoRow : OpenClaim := { program := "ytkffeglkbpfndaa", sum := "7fb1258cff88f9065a9bb723f9f25ff7566de46fc1a977967c1fe1bff2dbd9d6", func := "barrow/barrowlaw02.DrawFair", spec := "drawFair", apart := false, narrowed := true }
def DrawFairUptoSaid : Prop := drawFairUptoRow.holds Try.pinned (OpenSpec.upto drawFairSpec)

/-- 'barrowlaw02.DrawParts', WHERE WHAT IT READS IS OF BULK AT MOST 1048576: true; the input reads as it did. -/
def drawPartsUptoRow : OpenClaim := { program := "ytkffeglkbpfndaa", sum := "7fb1258cff88f9065a9bb723f9f25ff7566de46fc1a977967c1fe1bff2dbd9d6", func := "barrow/barrowlaw02.DrawParts", spec := "drawParts", apart := false, narrowed := true }
def DrawPartsUptoSaid : Prop := drawPartsUptoRow.holds Try.pinned (OpenSpec.upto drawPartsSpec)

/-- 'barrowlaw02.DrawAll', WHERE WHAT IT READS IS OF BULK AT MOST 1048576: true; the input reads as it did. -/
def drawAllUptoRow : OpenClaim := { program := "ytkffeglkbpfndaa", sum := "7fb1258cff88f9065a9bb723f9f25ff7566de46fc1a977967c1fe1bff2dbd9d6", func := "barrow/barrowlaw02.DrawAll", spec := "drawAll", apart := false, narrowed := true }
def DrawAllUptoSaid : Prop := drawAllUptoRow.holds Try.pinned (OpenSpec.upto drawAllSpec)

/-- 'barrowlaw02.DrawPlays', WHERE WHAT IT READS IS OF BULK AT MOST 1048576: true; the input reads as it did. -/
def drawPlaysUptoRow : OpenClaim := { program := "ytkffeglkbpfndaa", sum := "7fb1258cff88f9065a9bb723f9f25ff7566de46fc1a977967c1fe1bff2dbd9d6", func := "barrow/barrowlaw02.DrawPlays", spec := "drawPlays", apart := false, narrowed := true }
def DrawPlaysUptoSaid : Prop := drawPlaysUptoRow.holds Try.pinned (OpenSpec.upto drawPlaysSpec)

/-- 'barrowlaw02.DrawDeals', WHERE WHAT IT READS IS OF BULK AT MOST 1048576: true; the input reads as it did. -/
def drawDealsUptoRow : OpenClaim := { program := "ytkffeglkbpfndaa", sum := "7fb1258cff88f9065a9bb723f9f25ff7566de46fc1a977967c1fe1bff2dbd9d6", func := "barrow/barrowlaw02.DrawDeals", spec := "drawDeals", apart := false, narrowed := true }
def DrawDealsUptoSaid : Prop := drawDealsUptoRow.holds Try.pinned (OpenSpec.upto drawDealsSpec)

end Rows
end Go.Proofs.Ytkffeglkbpfndaa
