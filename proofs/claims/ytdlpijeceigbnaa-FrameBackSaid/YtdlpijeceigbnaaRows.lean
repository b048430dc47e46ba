/-
  No cell of these rows narrows 'for every input' (looked for: loops, veiled, ifaces, maps, wideKeys, modest, calm, conditions, laid).
  DERIVED. THE GIVEN ROWS OF THIS SEAT. 4 by the template 'for every input the law returns true; each argument reads behind the call as it read before'; 0 by the template 'total and deterministic' (their statements: YtdlpijeceigbnaaTotals.lean).
  GIVEN WITH THE SEED: the statements are not yours to turn. If you find one false, say at which input.
  Laid BY PROGRAM, IN A SANDBOX (cutbox-rows.mjs): the forced cells as the released guide's own fill.sh prints them over the translation e1de2e31628daac8… (all of the seat's roots in one cut). By AI agents, Wed Nov 11 2026. No macro, syntax, notation, axiom, sorry.
-/
import Derived.Test.YtdlpijeceigbnaaChecked
import GoSem.Claim
import GoSem.ClaimJoined
import GoSem.ClaimMapViews
import Derived.JoinedTies
import Derived.KernelRfl
namespace Go.Proofs.Ytdlpijeceigbnaa
/- THE CELL 'sum', in the pinned program and in every row, IS THE sha256 OF THE DUMP (.gsa) THAT YtdlpijeceigbnaaProg.lean LOADS. Nothing in Lean hashes anything: it is a label: what it is worth is what the hold of that sum in a sandbox is worth. -/
noncomputable def Try.pinned : Pinned := { name := "ytdlpijeceigbnaa", sum := "e1de2e31628daac863e8710614dbe1fa459c8f5b7bb02e5b7c9fbc93ebdbe527", checked := Try.checked }
namespace Rows
def none {H : Type} : Left H := { results := [], args := [] }

/-- 'barrowlaw04.FramePlays': WHATEVER THE INPUT: true; the input reads as it did. -/
def framePlaysSpec : ChangeSpec := { name := "framePlays", fn := fun _ => fun
  | [d1, d2] => { results := [.lit (.bool true)], args := [d1, d2] }
  | _ => none }
def framePlaysRow : OpenClaim := { program := "ytdlpijeceigbnaa", sum := "e1de2e31628daac863e8710614dbe1fa459c8f5b7bb02e5b7c9fbc93ebdbe527", func := "barrow/barrowlaw04.FramePlays", spec := "framePlays", unfollowed := true, recurses := true, apart := false }
def FramePlaysSaid : Prop := framePlaysRow.holds Try.pinned (OpenSpec.ofChange framePlaysSpec)

/-- ITS FALSE NEIGHBOUR: 'it returns false'. Refute it at one input. -/
def framePlaysWrong : ChangeSpec := { name := "framePlays", fn := fun _ => fun
  | [d1, d2] => { results := [.lit (.bool false)], args := [d1, d2] }
  | _ => none }
def FramePlaysWrongFalsely : Prop := framePlaysRow.holds Try.pinned (OpenSpec.ofChange framePlaysWrong)

/-- 'barrowlaw04.FrameParts': WHATEVER THE INPUT: true; the input reads as it did. -/
def framePartsSpec : ChangeSpec := { name := "frameParts", fn := fun _ => fun
  | [d] => { results := [.lit (.bool true)], args := [d] }
  | _ => none }
def framePartsRow : OpenClaim := { program := "ytdlpijeceigbnaa", sum := "e1de2e31628daac863e8710614dbe1fa459c8f5b7bb02e5b7c9fbc93ebdbe527", func := "barrow/barrowlaw04.FrameParts", spec := "frameParts", unfollowed := true, recurses := true, apart := false }
def FramePartsSaid : Prop := framePartsRow.holds Try.pinned (OpenSpec.ofChange framePartsSpec)

/-- ITS FALSE NEIGHBOUR: 'it returns false'. Refute it at one input. -/
def framePartsWrong : ChangeSpec := { name := "frameParts", fn := fun _ => fun
  | [d] => { results := [.lit (.bool false)], args := [d] }
  | _ => none }
def FramePartsWrongFalsely : Prop := framePartsRow.holds Try.pinned (OpenSpec.ofChange framePartsWrong)

/-- 'barrowlaw04.FrameBack': WHATEVER THE INPUT: true; the input reads as it did. -/
def frameBackSpec : ChangeSpec := { name := "frameBack", fn := fun _ => fun
  | [d1, d2] => { results := [.lit (.bool true)], args := [d1, d2] }
  | _ => none }
def frameBackRow : OpenClaim := { program := "ytdlpijeceigbnaa", sum := "e1de2e31628daac863e8710614dbe1fa459c8f5b7bb02e5b7c9fbc93ebdbe527", func := "barrow/barrowlaw04.FrameBack", spec := "frameBack", unfollowed := true, recurses := true, apart := false }
def FrameBackSaid : Prop := frameBackRow.holds Try.pinned (OpenSpec.ofChange frameBackSpec)

/-- ITS FALSE NEIGHBOUR: 'it returns false'. Refute it at one input. -/
def frameBackWrong : ChangeSpec := { name := "frameBack", fn := fun _ => fun
  | [d1, d2] => { results := [.lit (.bool false)], args := [d1, d2] }
  | _ => none }
def FrameBackWrongFalsely : Prop := frameBackRow.holds Try.pinned (OpenSpec.ofChange frameBackWrong)

/-- 'barrowlaw04.FrameWaits': WHATEVER THE INPUT: true; the input reads as it did. -/
def frameWaitsSpec : ChangeSpec := { name := "frameWaits", fn := fun _ => fun
  | [d] => { results := [.lit (.bool true)], args := [d] }
  | _ => none }
def frameWaitsRow : OpenClaim := { program := "ytdlpijeceigbnaa", sum := "e1de2e31628daac863e8710614dbe1fa459c8f5b7bb02e5b7c9fbc93ebdbe527", func := "barrow/barrowlaw04.FrameWaits", spec := "frameWaits", unfollowed := true, recurses := true, apart := false }
def FrameWaitsSaid : Prop := frameWaitsRow.holds Try.pinned (OpenSpec.ofChange frameWaitsSpec)

/-- ITS FALSE NEIGHBOUR: 'it returns false'. Refute it at one input. -/
def frameWaitsWrong : ChangeSpec := { name := "frameWaits", fn := fun _ => fun
  | [d] => { results := [.lit (.bool false)], args := [d] }
  | _ => none }
def FrameWaitsWrongFalsely : Prop := frameWaitsRow.holds Try.pinned (OpenSpec.ofChange frameWaitsWrong)

/- THE SECOND FORM. 'bulk': how many values and letters a reading holds, each counted each time it is reached (what is shared counts as often as it is met; a slice's spare places count too). A statement '..UptoSaid' is the law's where the arguments, and the package variables that the reading takes, are together of bulk at most 1048576: NARROWER than '..Said'. Prove '..Said' where nothing that the law and all that it calls make is longer than what came in: it says more and counts as full. Else prove '..UptoSaid'. A law counts once. -/
mutual
def uptoBulk {H : Type} : DataW H → Nat
  | .lit (.string bytes) => bytes.length + 1
  | .lit _ => 1
  | .nil => 1
  | .ptr d => uptoBulk d + 1
  | .slice elems spare => uptoBulkAll elems + uptoBulkAll spare + 1
  | .agg parts => uptoBulkAll parts + 1
  | .iface _ d => uptoBulk d + 1
  | .map entries => uptoBulkEntries entries + 1
  | .held _ => 1
def uptoBulkAll {H : Type} : List (DataW H) → Nat
  | [] => 0
  | d :: r => uptoBulk d + uptoBulkAll r
def uptoBulkEntries {H : Type} : List (Lit × DataW H) → Nat
  | [] => 0
  | x :: r => uptoBulkEntry x + uptoBulkEntries r
def uptoBulkEntry {H : Type} : Lit × DataW H → Nat
  | (.string bytes, d) => bytes.length + uptoBulk d + 1
  | (_, d) => uptoBulk d + 1
 end
def uptoSmall : (H : Type) → List (DataW H) → Bool := fun _ ds => decide (uptoBulkAll ds ≤ 1048576)
def OpenSpec.upto (s : _root_.Go.ChangeSpec) : _root_.Go.OpenSpec := { _root_.Go.OpenSpec.ofChange s with cond := some uptoSmall }

/-- 'barrowlaw04.FramePlays', WHERE WHAT IT READS IS OF BULK AT MOST 1048576: true; the input reads as it did. -/
def framePlaysUptoRow : OpenClaim := { program := "ytdlpijeceigbnaa", sum := "e1de2e31628daac863e8710614dbe1fa459c8f5b7bb02e5b7c9fbc93ebdbe527", func := "barrow/barrowlaw04.FramePlays", spec := "framePlays", unfollowed := true, recurses := true, apart := false, narrowed := true }
def FramePlaysUptoSaid : Prop := framePlaysUptoRow.holds Try.pinned (OpenSpec.upto framePlaysSpec)

/-- 'barrowlaw04.FrameParts', WHERE WHAT IT READS IS OF BULK AT MOST 1048576: true; the input reads as it did. -/
def framePartsUptoRow : OpenClaim := { program := "ytdlpijeceigbnaa", sum := "e1de2e31628daac863e8710614dbe1fa459c8f5b7bb02e5b7c9fbc93ebdbe527", func := "barrow/barrowlaw04.FrameParts", spec := "frameParts", unfollowed := true, recurses := true, apart := false, narrowed := true }
def FramePartsUptoSaid : Prop := framePartsUptoRow.holds Try.pinned (OpenSpec.upto framePartsSpec)

/-- 'barrowlaw04.FrameBack', WHERE WHAT IT READS IS OF BULK AT MOST 1048576: true; the input reads as it did. -/
def frameBackUptoRow : OpenClaim := { program := "ytdlpijeceigbnaa", sum := "e1de2e31628daac863e8710614dbe1fa459c8f5b7bb02e5b7c9fbc93ebdbe527", func := "barrow/barrowlaw04.FrameBack", spec := "frameBack", unfollowed := true, recurses := true, apart := false, narrowed := true }
def FrameBackUptoSaid : Prop := frameBackUptoRow.holds Try.pinned (OpenSpec.upto frameBackSpec)

/-- 'barrowlaw04.FrameWaits', WHERE WHAT IT READS IS OF BULK AT MOST 1048576: true; the input reads as it did. -/
def frameWaitsUptoRow : OpenClaim := { program := "ytdlpijeceigbnaa", sum := "e1de2e31628daac863e8710614dbe1fa459c8f5b7bb02e5b7c9fbc93ebdbe527", func := "barrow/barrowlaw04.FrameWaits", spec := "frameWaits", unfollowed := true, recurses := true, apart := false, narrowed := true }
def FrameWaitsUptoSaid : Prop := frameWaitsUptoRow.holds Try.pinned (OpenSpec.upto frameWaitsSpec)

end Rows
end Go.Proofs.Ytdlpijeceigbnaa
