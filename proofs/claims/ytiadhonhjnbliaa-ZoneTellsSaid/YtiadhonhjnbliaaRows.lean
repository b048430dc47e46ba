/-
  No cell of these rows narrows 'for every input' (looked for: loops, veiled, ifaces, maps, wideKeys, modest, calm, conditions, laid).
  DERIVED. THE GIVEN ROWS OF THIS SEAT. 4 by the template 'for every input the law returns true; each argument reads behind the call as it read before'; 0 by the template 'total and deterministic' (their statements: YtiadhonhjnbliaaTotals.lean).
  GIVEN WITH THE SEED: the statements are not yours to turn. If you find one false, say at which input.
  Laid BY PROGRAM, IN A SANDBOX (cutbox-rows.mjs): the forced cells as the released guide's own fill.sh prints them over the translation a385d8350af9689f… (all of the seat's roots in one cut). By AI agents, Wed Nov 11 2026. No macro, syntax, notation, axiom, sorry.
-/
import Derived.Test.YtiadhonhjnbliaaChecked
import GoSem.Claim
import GoSem.ClaimJoined
import GoSem.ClaimMapViews
import Derived.JoinedTies
import Derived.KernelRfl
namespace Go.Proofs.Ytiadhonhjnbliaa
/- THE CELL 'sum', in the pinned program and in every row, IS THE sha256 OF THE DUMP (.gsa) THAT YtiadhonhjnbliaaProg.lean LOADS. Nothing in Lean hashes anything: it is a label: what it is worth is what the hold of that sum in a sandbox is worth. -/
noncomputable def Try.pinned : Pinned := { name := "ytiadhonhjnbliaa", sum := "a385d8350af9689fd901cd9850116dcc9d3e1d6b0e84a5a7d54224c80ea7e3e3", checked := Try.checked }
namespace Rows
def none {H : Type} : Left H := { results := [], args := [] }

/-- 'barrowlaw33.ZoneTicks': WHATEVER THE INPUT: true; the input reads as it did. -/
def zoneTicksSpec : ChangeSpec := { name := "zoneTicks", fn := fun _ => fun
  | [d1, d2, d3] => { results := [.lit (.bool true)], args := [d1, d2, d3] }
  | _ => none }
def zoneTicksRow : OpenClaim := { program := "ytiadhonhjnbliaa", sum := "a385d8350af9689fd901cd9850116dcc9d3e1d6b0e84a5a7d54224c80ea7e3e3", func := "barrow/barrowlaw33.ZoneTicks", spec := "zoneTicks", unfollowed := true, recurses := true, apart := false }
def ZoneTicksSaid : Prop := zoneTicksRow.holds Try.pinned (OpenSpec.ofChange zoneTicksSpec)

/-- ITS FALSE NEIGHBOUR: 'it returns false'. Refute it at one input. -/
def zoneTicksWrong : ChangeSpec := { name := "zoneTicks", fn := fun _ => fun
  | [d1, d2, d3] => { results := [.lit (.bool false)], args := [d1, d2, d3] }
  | _ => none }
def ZoneTicksWrongFalsely : Prop := zoneTicksRow.holds Try.pinned (OpenSpec.ofChange zoneTicksWrong)

/-- 'barrowlaw33.ZoneBeats': WHATEVER THE INPUT: true; the input reads as it did. -/
def zoneBeatsSpec : ChangeSpec := { name := "zoneBeats", fn := fun _ => fun
  | [d1, d2, d3, d4] => { results := [.lit (.bool true)], args := [d1, d2, d3, d4] }
  | _ => none }
def zoneBeatsRow : OpenClaim := { program := "ytiadhonhjnbliaa", sum := "a385d8350af9689fd901cd9850116dcc9d3e1d6b0e84a5a7d54224c80ea7e3e3", func := "barrow/barrowlaw33.ZoneBeats", spec := "zoneBeats", unfollowed := true, recurses := true, apart := false }
def ZoneBeatsSaid : Prop := zoneBeatsRow.holds Try.pinned (OpenSpec.ofChange zoneBeatsSpec)

/-- ITS FALSE NEIGHBOUR: 'it returns false'. Refute it at one input. -/
def zoneBeatsWrong : ChangeSpec := { name := "zoneBeats", fn := fun _ => fun
  | [d1, d2, d3, d4] => { results := [.lit (.bool false)], args := [d1, d2, d3, d4] }
  | _ => none }
def ZoneBeatsWrongFalsely : Prop := zoneBeatsRow.holds Try.pinned (OpenSpec.ofChange zoneBeatsWrong)

/-- 'barrowlaw33.ZoneTells': WHATEVER THE INPUT: true; the input reads as it did. -/
def zoneTellsSpec : ChangeSpec := { name := "zoneTells", fn := fun _ => fun
  | [d1, d2, d3, d4, d5] => { results := [.lit (.bool true)], args := [d1, d2, d3, d4, d5] }
  | _ => none }
def zoneTellsRow : OpenClaim := { program := "ytiadhonhjnbliaa", sum := "a385d8350af9689fd901cd9850116dcc9d3e1d6b0e84a5a7d54224c80ea7e3e3", func := "barrow/barrowlaw33.ZoneTells", spec := "zoneTells", unfollowed := true, recurses := true, apart := false }
def ZoneTellsSaid : Prop := zoneTellsRow.holds Try.pinned (OpenSpec.ofChange zoneTellsSpec)

/-- ITS FALSE NEIGHBOUR: 'it returns false'. Refute it at one input. -/
def zoneTellsWrong : ChangeSpec := { name := "zoneTells", fn := fun _ => fun
  | [d1, d2, d3, d4, d5] => { results := [.lit (.bool false)], args := [d1, d2, d3, d4, d5] }
  | _ => none }
def ZoneTellsWrongFalsely : Prop := zoneTellsRow.holds Try.pinned (OpenSpec.ofChange zoneTellsWrong)

/-- 'barrowlaw33.ZoneStays': WHATEVER THE INPUT: true; the input reads as it did. -/
def zoneStaysSpec : ChangeSpec := { name := "zoneStays", fn := fun _ => fun
  | [d1, d2, d3, d4, d5] => { results := [.lit (.bool true)], args := [d1, d2, d3, d4, d5] }
  | _ => none }
def zoneStaysRow : OpenClaim := { program := "ytiadhonhjnbliaa", sum := "a385d8350af9689fd901cd9850116dcc9d3e1d6b0e84a5a7d54224c80ea7e3e3", func := "barrow/barrowlaw33.ZoneStays", spec := "zoneStays", unfollowed := true, recurses := true, apart := false }
def ZoneStaysSaid : Prop := zoneStaysRow.holds Try.pinned (OpenSpec.ofChange zoneStaysSpec)

/-- ITS FALSE NEIGHBOUR: 'it returns false'. Refute it at one input. -/
def zoneStaysWrong : ChangeSpec := { name := "zoneStays", fn := fun _ => fun
  | [d1, d2, d3, d4, d5] => { results := [.lit (.bool false)], args := [d1, d2, d3, d4, d5] }
  | _ => none }
def ZoneStaysWrongFalsely : Prop := zoneStaysRow.holds Try.pinned (OpenSpec.ofChange zoneStaysWrong)

/- THE SECOND FORM. 'bulk': how many values and letters a reading holds, each counted each time it is reached (what is shared counts as often as it is met; a slice's spare places count too). A statement '..UptoSaid' is the law's where the arguments, and the package variables that the reading takes, are together of bulk at most 1048576: NARROWER than '..Said'. Prove '..Said' where nothing that the law and all that it calls make is longer than what came in: it says more and counts as full. Else prove '..UptoSaid'. A law counts once. -/
mutual
def uptoBulk {H : Type} : DataW H → Nat
  | .lit (.string bytes) => bytes.length + 1
  | .lit _ => 1
  | .nil => 1
  | .ptr d => uptoBulk d + 1
  | .slice elems spare => uptoBulkAll elems + uptoBulkAll spare + 1
  | .agg parts => uptoBulkAll parts + 1
  | .iface _ d => uptoBulk d + 1
  | .map entries => uptoBulkEntries entries + 1
  | .held _ => 1
def uptoBulkAll {H : Type} : List (DataW H) → Nat
  | [] => 0
  | d :: r => uptoBulk d + uptoBulkAll r
def uptoBulkEntries {H : Type} : List (Lit × DataW H) → Nat
  | [] => 0
  | x :: r => uptoBulkEntry x + uptoBulkEntries r
def uptoBulkEntry {H : Type} : Lit × DataW H → Nat
  | (.string bytes, d) => bytes.length + uptoBulk d + 1
  | (_, d) => uptoBulk d + 1
 end
def uptoSmall : (H : Type) → List (DataW H) → Bool := fun _ ds => decide (uptoBulkAll ds ≤ 1048576)
def OpenSpec.upto (s : _root_.Go.ChangeSpec) : _root_.Go.OpenSpec := { _root_.Go.OpenSpec.ofChange s with cond := some uptoSmall }

/-- 'barrowlaw33.ZoneTicks', WHERE WHAT IT READS IS OF BULK AT MOST 1048576: true; the input reads as it did. -/
def zoneTicksUptoRow : OpenClaim := { program := "ytiadhonhjnbliaa", sum := "a385d8350af9689fd901cd9850116dcc9d3e1d6b0e84a5a7d54224c80ea7e3e3", func := "barrow/barrowlaw33.ZoneTicks", spec := "zoneTicks", unfollowed := true, recurses := true, apart := false, narrowed := true }
def ZoneTicksUptoSaid : Prop := zoneTicksUptoRow.holds Try.pinned (OpenSpec.upto zoneTicksSpec)

/-- 'barrowlaw33.ZoneBeats', WHERE WHAT IT READS IS OF BULK AT MOST 1048576: true; the input reads as it did. -/
def zoneBeatsUptoRow : OpenClaim := { program := "ytiadhonhjnbliaa", sum := "a385d8350af9689fd901cd9850116dcc9d3e1d6b0e84a5a7d54224c80ea7e3e3", func := "barrow/barrowlaw33.ZoneBeats", spec := "zoneBeats", unfollowed := true, recurses := true, apart := false, narrowed := true }
def ZoneBeatsUptoSaid : Prop := zoneBeatsUptoRow.holds Try.pinned (OpenSpec.upto zoneBeatsSpec)

/-- 'barrowlaw33.ZoneTells', WHERE WHAT IT READS IS OF BULK AT MOST 1048576: true; the input reads as it did. -/
def zoneTellsUptoRow : OpenClaim := { program := "ytiadhonhjnbliaa", sum := "a385d8350af9689fd901cd9850116dcc9d3e1d6b0e84a5a7d54224c80ea7e3e3", func := "barrow/barrowlaw33.ZoneTells", spec := "zoneTells", unfollowed := true, recurses := true, apart := false, narrowed := true }
def ZoneTellsUptoSaid : Prop := zoneTellsUptoRow.holds Try.pinned (OpenSpec.upto zoneTellsSpec)

/-- 'barrowlaw33.ZoneStays', WHERE WHAT IT READS IS OF BULK AT MOST 1048576: true; the input reads as it did. -/
def zoneStaysUptoRow : OpenClaim := { program := "ytiadhonhjnbliaa", sum := "a385d8350af9689fd901cd9850116dcc9d3e1d6b0e84a5a7d54224c80ea7e3e3", func := "barrow/barrowlaw33.ZoneStays", spec := "zoneStays", unfollowed := true, recurses := true, apart := false, narrowed := true }
def ZoneStaysUptoSaid : Prop := zoneStaysUptoRow.holds Try.pinned (OpenSpec.upto zoneStaysSpec)

end Rows
end Go.Proofs.Ytiadhonhjnbliaa
