/-
  No cell of these rows narrows 'for every input' (looked for: loops, veiled, ifaces, maps, wideKeys, modest, calm, conditions, laid).
  DERIVED. THE GIVEN ROWS OF THIS SEAT. 5 by the template 'for every input the law returns true; each argument reads behind the call as it read before'; 0 by the template 'total and deterministic' (their statements: YtgffgmkfafdjjaaTotals.lean).
  GIVEN WITH THE SEED: the statements are not yours to turn. If you find one false, say at which input.
  Laid BY PROGRAM, IN A SANDBOX (cutbox-rows.mjs): the forced cells as the released guide's own fill.sh prints them over the translation 6e64becca7a2015d… (all of the seat's roots in one cut). By AI agents, Wed Nov 11 2026. No macro, syntax, notation, axiom, sorry.
-/
import Derived.Test.YtgffgmkfafdjjaaChecked
import GoSem.Claim
import GoSem.ClaimJoined
import GoSem.ClaimMapViews
import Derived.JoinedTies
import Derived.KernelRfl
namespace Go.Proofs.Ytgffgmkfafdjjaa
/- THE CELL 'sum', in the pinned program and in every row, IS THE sha256 OF THE DUMP (.gsa) THAT YtgffgmkfafdjjaaProg.lean LOADS. Nothing in Lean hashes anything: it is a label: what it is worth is what the hold of that sum in a sandbox is worth. -/
noncomputable def Try.pinned : Pinned := { name := "ytgffgmkfafdjjaa", sum := "6e64becca7a2015d0bca48a78f63883cdbbb50d429788afa860bafb1e4d44367", checked := Try.checked }
namespace Rows
def none {H : Type} : Left H := { results := [], args := [] }

/-- 'barrowlaw01.SatReckons': WHATEVER THE INPUT: true; the input reads as it did. -/
def satReckonsSpec : ChangeSpec := { name := "satReckons", fn := fun _ => fun
  | [d1, d2] => { results := [.lit (.bool true)], args := [d1, d2] }
  | _ => none }
def satReckonsRow : OpenClaim := { program := "ytgffgmkfafdjjaa", sum := "6e64becca7a2015d0bca48a78f63883cdbbb50d429788afa860bafb1e4d44367", func := "barrow/barrowlaw01.SatReckons", spec := "satReckons", unfollowed := true, recurses := true, apart := false }
def SatReckonsSaid : Prop := satReckonsRow.holds Try.pinned (OpenSpec.ofChange satReckonsSpec)

/-- ITS FALSE NEIGHBOUR: 'it returns false'. Refute it at one input. -/
def satReckonsWrong : ChangeSpec := { name := "satReckons", fn := fun _ => fun
  | [d1, d2] => { results := [.lit (.bool false)], args := [d1, d2] }
  | _ => none }
def SatReckonsWrongFalsely : Prop := satReckonsRow.holds Try.pinned (OpenSpec.ofChange satReckonsWrong)

/-- 'barrowlaw01.SatParts': WHATEVER THE INPUT: true; the input reads as it did. -/
def satPartsSpec : ChangeSpec := { name := "satParts", fn := fun _ => fun
  | [d1, d2, d3] => { results := [.lit (.bool true)], args := [d1, d2, d3] }
  | _ => none }
def satPartsRow : OpenClaim := { program := "ytgffgmkfafdjjaa", sum := "6e64becca7a2015d0bca48a78f63883cdbbb50d429788afa860bafb1e4d44367", func := "barrow/barrowlaw01.SatParts", spec := "satParts", unfollowed := true, recurses := true, apart := false }
def SatPartsSaid : Prop := satPartsRow.holds Try.pinned (OpenSpec.ofChange satPartsSpec)

/-- ITS FALSE NEIGHBOUR: 'it returns false'. Refute it at one input. -/
def satPartsWrong : ChangeSpec := { name := "satParts", fn := fun _ => fun
  | [d1, d2, d3] => { results := [.lit (.bool false)], args := [d1, d2, d3] }
  | _ => none }
def SatPartsWrongFalsely : Prop := satPartsRow.holds Try.pinned (OpenSpec.ofChange satPartsWrong)

/-- 'barrowlaw01.SatTurns': WHATEVER THE INPUT: true; the input reads as it did. -/
def satTurnsSpec : ChangeSpec := { name := "satTurns", fn := fun _ => fun
  | [d1, d2] => { results := [.lit (.bool true)], args := [d1, d2] }
  | _ => none }
def satTurnsRow : OpenClaim := { program := "ytgffgmkfafdjjaa", sum := "6e64becca7a2015d0bca48a78f63883cdbbb50d429788afa860bafb1e4d44367", func := "barrow/barrowlaw01.SatTurns", spec := "satTurns", unfollowed := true, recurses := true, apart := false }
def SatTurnsSaid : Prop := satTurnsRow.holds Try.pinned (OpenSpec.ofChange satTurnsSpec)

/-- ITS FALSE NEIGHBOUR: 'it returns false'. Refute it at one input. -/
def satTurnsWrong : ChangeSpec := { name := "satTurns", fn := fun _ => fun
  | [d1, d2] => { results := [.lit (.bool false)], args := [d1, d2] }
  | _ => none }
def SatTurnsWrongFalsely : Prop := satTurnsRow.holds Try.pinned (OpenSpec.ofChange satTurnsWrong)

/-- 'barrowlaw01.SatOrders': WHATEVER THE INPUT: true; the input reads as it did. -/
def satOrdersSpec : ChangeSpec := { name := "satOrders", fn := fun _ => fun
  | [d1, d2, d3] => { results := [.lit (.bool true)], args := [d1, d2, d3] }
  | _ => none }
def satOrdersRow : OpenClaim := { program := "ytgffgmkfafdjjaa", sum := "6e64becca7a2015d0bca48a78f63883cdbbb50d429788afa860bafb1e4d44367", func := "barrow/barrowlaw01.SatOrders", spec := "satOrders", unfollowed := true, recurses := true, apart := false }
def SatOrdersSaid : Prop := satOrdersRow.holds Try.pinned (OpenSpec.ofChange satOrdersSpec)

/-- ITS FALSE NEIGHBOUR: 'it returns false'. Refute it at one input. -/
def satOrdersWrong : ChangeSpec := { name := "satOrders", fn := fun _ => fun
  | [d1, d2, d3] => { results := [.lit (.bool false)], args := [d1, d2, d3] }
  | _ => none }
def SatOrdersWrongFalsely : Prop := satOrdersRow.holds Try.pinned (OpenSpec.ofChange satOrdersWrong)

/-- 'barrowlaw01.SatShares': WHATEVER THE INPUT: true; the input reads as it did. -/
def satSharesSpec : ChangeSpec := { name := "satShares", fn := fun _ => fun
  | [d1, d2, d3] => { results := [.lit (.bool true)], args := [d1, d2, d3] }
  | _ => none }
def satSharesRow : OpenClaim := { program := "ytgffgmkfafdjjaa", sum := "6e64becca7a2015d0bca48a78f63883cdbbb50d429788afa860bafb1e4d44367", func := "barrow/barrowlaw01.SatShares", spec := "satShares", unfollowed := true, recurses := true, apart := false }
def SatSharesSaid : Prop := satSharesRow.holds Try.pinned (OpenSpec.ofChange satSharesSpec)

/-- ITS FALSE NEIGHBOUR: 'it returns false'. Refute it at one input. -/
def satSharesWrong : ChangeSpec := { name := "satShares", fn := fun _ => fun
  | [d1, d2, d3] => { results := [.lit (.bool false)], args := [d1, d2, d3] }
  | _ => none }
def SatSharesWrongFalsely : Prop := satSharesRow.holds Try.pinned (OpenSpec.ofChange satSharesWrong)

/- THE SECOND FORM. 'bulk': how many values and letters a reading holds, each counted each time it is reached (what is shared counts as often as it is met; a slice's spare places count too). A statement '..UptoSaid' is the law's where the arguments, and the package variables that the reading takes, are together of bulk at most 1048576: NARROWER than '..Said'. Prove '..Said' where nothing that the law and all that it calls make is longer than what came in: it says more and counts as full. Else prove '..UptoSaid'. A law counts once. -/
mutual
def uptoBulk {H : Type} : DataW H → Nat
  | .lit (.string bytes) => bytes.length + 1
  | .lit _ => 1
  | .nil => 1
  | .ptr d => uptoBulk d + 1
  | .slice elems spare => uptoBulkAll elems + uptoBulkAll spare + 1
  | .agg parts => uptoBulkAll parts + 1
  | .iface _ d => uptoBulk d + 1
  | .map entries => uptoBulkEntries entries + 1
  | .held _ => 1
def uptoBulkAll {H : Type} : List (DataW H) → Nat
  | [] => 0
  | d :: r => uptoBulk d + uptoBulkAll r
def uptoBulkEntries {H : Type} : List (Lit × DataW H) → Nat
  | [] => 0
  | x :: r => uptoBulkEntry x + uptoBulkEntries r
def uptoBulkEntry {H : Type} : Lit × DataW H → Nat
  | (.string bytes, d) => bytes.length + uptoBulk d + 1
  | (_, d) => uptoBulk d + 1
 end
def uptoSmall : (H : Type) → List (DataW H) → Bool := fun _ ds => decide (uptoBulkAll ds ≤ 1048576)
def OpenSpec.upto (s : _root_.Go.ChangeSpec) : _root_.Go.OpenSpec := { _root_.Go.OpenSpec.ofChange s with cond := some uptoSmall }

/-- 'barrowlaw01.SatReckons', WHERE WHAT IT READS IS OF BULK AT MOST 1048576: true; the input reads as it did. -/
def satReckonsUptoRow : OpenClaim := { program := "ytgffgmkfafdjjaa", sum := "6e64becca7a2015d0bca48a78f63883cdbbb50d429788afa860bafb1e4d44367", func := "barrow/barrowlaw01.SatReckons", spec := "satReckons", unfollowed := true, recurses := true, apart := false, narrowed := true }
def SatReckonsUptoSaid : Prop := satReckonsUptoRow.holds Try.pinned (OpenSpec.upto satReckonsSpec)

/-- 'barrowlaw01.SatParts', WHERE WHAT IT READS IS OF BULK AT MOST 1048576: true; the input reads as it did. -/
def satPartsUptoRow : OpenClaim := { program := "ytgffgmkfafdjjaa", sum := "6e64becca7a2015d0bca48a78f63883cdbbb50d429788afa860bafb1e4d44367", func := "barrow/barrowlaw01.SatParts", spec := "satParts", unfollowed := true, recurses := true, apart := false, narrowed := true }
def SatPartsUptoSaid : Prop := satPartsUptoRow.holds Try.pinned (OpenSpec.upto satPartsSpec)

/-- 'barrowlaw01.SatTurns', WHERE WHAT IT READS IS OF BULK AT MOST 1048576: true; the input reads as it did. -/
def satTurnsUptoRow : OpenClaim := { program := "ytgffgmkfafdjjaa", sum := "6e64becca7a2015d0bca48a78f63883cdbbb50d429788afa860bafb1e4d44367", func := "barrow/barrowlaw01.SatTurns", spec := "satTurns", unfollowed := true, recurses := true, apart := false, narrowed := true }
def SatTurnsUptoSaid : Prop := satTurnsUptoRow.holds Try.pinned (OpenSpec.upto satTurnsSpec)

/-- 'barrowlaw01.SatOrders', WHERE WHAT IT READS IS OF BULK AT MOST 1048576: true; the input reads as it did. -/
def satOrdersUptoRow : OpenClaim := { program := "ytgffgmkfafdjjaa", sum := "6e64becca7a2015d0bca48a78f63883cdbbb50d429788afa860bafb1e4d44367", func := "barrow/barrowlaw01.SatOrders", spec := "satOrders", unfollowed := true, recurses := true, apart := false, narrowed := true }
def SatOrdersUptoSaid : Prop := satOrdersUptoRow.holds Try.pinned (OpenSpec.upto satOrdersSpec)

/-- 'barrowlaw01.SatShares', WHERE WHAT IT READS IS OF BULK AT MOST 1048576: true; the input reads as it did. -/
def satSharesUptoRow : OpenClaim := { program := "ytgffgmkfafdjjaa", sum := "6e64becca7a2015d0bca48a78f63883cdbbb50d429788afa860bafb1e4d44367", func := "barrow/barrowlaw01.SatShares", spec := "satShares", unfollowed := true, recurses := true, apart := false, narrowed := true }
def SatSharesUptoSaid : Prop := satSharesUptoRow.holds Try.pinned (OpenSpec.upto satSharesSpec)

end Rows
end Go.Proofs.Ytgffgmkfafdjjaa
