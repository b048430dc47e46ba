/-
  No cell of these rows narrows 'for every input' (looked for: loops, veiled, ifaces, maps, wideKeys, modest, calm, conditions, laid).
  DERIVED. THE GIVEN ROWS OF THIS SEAT. 4 by the template 'for every input the law returns true; each argument reads behind the call as it read before'; 0 by the template 'total and deterministic' (their statements: YtdpeflbdoaccbaaTotals.lean).
  GIVEN WITH THE SEED: the statements are not yours to turn. If you find one false, say at which input.
  Laid BY PROGRAM, IN A SANDBOX (cutbox-rows.mjs): the forced cells as the released guide's own fill.sh prints them over the translation f09e08d6891cc66a… (all of the seat's roots in one cut). By AI agents, Wed Nov 11 2026. No macro, syntax, notation, axiom, sorry.
-/
import Derived.Test.YtdpeflbdoaccbaaChecked
import GoSem.Claim
import GoSem.ClaimJoined
import GoSem.ClaimMapViews
import Derived.JoinedTies
import Derived.KernelRfl
namespace Go.Proofs.Ytdpeflbdoaccbaa
/- THE CELL 'sum', in the pinned program and in every row, IS THE sha256 OF THE DUMP (.gsa) THAT YtdpeflbdoaccbaaProg.lean LOADS. Nothing in Lean hashes anything: it is a label: what it is worth is what the hold of that sum in a sandbox is worth. -/
noncomputable def Try.pinned : Pinned := { name := "ytdpeflbdoaccbaa", sum := "f09e08d6891cc66aa166b3a1ee89c0be7c8d3bdeffe0b27abed33ddfc87c7630", checked := Try.checked }
namespace Rows
def none {H : Type} : Left H := { results := [], args := [] }

/-- 'barrowlaw38.ChatHears': WHATEVER THE INPUT: true; the input reads as it did. -/
def chatHearsSpec : ChangeSpec := { name := "chatHears", fn := fun _ => fun
  | [d1, d2, d3, d4, d5, d6, d7] => { results := [.lit (.bool true)], args := [d1, d2, d3, d4, d5, d6, d7] }
  | _ => none }
def chatHearsRow : OpenClaim := { program := "ytdpeflbdoaccbaa", sum := "f09e08d6891cc66aa166b3a1ee89c0be7c8d3bdeffe0b27abed33ddfc87c7630", func := "barrow/barrowlaw38.ChatHears", spec := "chatHears", unfollowed := true, recurses := true, apart := false }
def ChatHearsSaid : Prop := chatHearsRow.holds Try.pinned (OpenSpec.ofChange chatHearsSpec)

/-- ITS FALSE NEIGHBOUR: 'it returns false'. Refute it at one input. -/
def chatHearsWrong : ChangeSpec := { name := "chatHears", fn := fun _ => fun
  | [d1, d2, d3, d4, d5, d6, d7] => { results := [.lit (.bool false)], args := [d1, d2, d3, d4, d5, d6, d7] }
  | _ => none }
def ChatHearsWrongFalsely : Prop := chatHearsRow.holds Try.pinned (OpenSpec.ofChange chatHearsWrong)

/-- 'barrowlaw38.ChatTexts': WHATEVER THE INPUT: true; the input reads as it did. -/
def chatTextsSpec : ChangeSpec := { name := "chatTexts", fn := fun _ => fun
  | [d1, d2, d3] => { results := [.lit (.bool true)], args := [d1, d2, d3] }
  | _ => none }
def chatTextsRow : OpenClaim := { program := "ytdpeflbdoaccbaa", sum := "f09e08d6891cc66aa166b3a1ee89c0be7c8d3bdeffe0b27abed33ddfc87c7630", func := "barrow/barrowlaw38.ChatTexts", spec := "chatTexts", unfollowed := true, recurses := true, apart := false }
def ChatTextsSaid : Prop := chatTextsRow.holds Try.pinned (OpenSpec.ofChange chatTextsSpec)

/-- ITS FALSE NEIGHBOUR: 'it returns false'. Refute it at one input. -/
def chatTextsWrong : ChangeSpec := { name := "chatTexts", fn := fun _ => fun
  | [d1, d2, d3] => { results := [.lit (.bool false)], args := [d1, d2, d3] }
  | _ => none }
def ChatTextsWrongFalsely : Prop := chatTextsRow.holds Try.pinned (OpenSpec.ofChange chatTextsWrong)

/-- 'barrowlaw38.ChatCleans': WHATEVER THE INPUT: true; the input reads as it did. -/
def chatCleansSpec : ChangeSpec := { name := "chatCleans", fn := fun _ => fun
  | [d1, d2] => { results := [.lit (.bool true)], args := [d1, d2] }
  | _ => none }
def chatCleansRow : OpenClaim := { program := "ytdpeflbdoaccbaa", sum := "f09e08d6891cc66aa166b3a1ee89c0be7c8d3bdeffe0b27abed33ddfc87c7630", func := "barrow/barrowlaw38.ChatCleans", spec := "chatCleans", unfollowed := true, recurses := true, apart := false }
def ChatCleansSaid : Prop := chatCleansRow.holds Try.pinned (OpenSpec.ofChange chatCleansSpec)

/-- ITS FALSE NEIGHBOUR: 'it returns false'. Refute it at one input. -/
def chatCleansWrong : ChangeSpec := { name := "chatCleans", fn := fun _ => fun
  | [d1, d2] => { results := [.lit (.bool false)], args := [d1, d2] }
  | _ => none }
def ChatCleansWrongFalsely : Prop := chatCleansRow.holds Try.pinned (OpenSpec.ofChange chatCleansWrong)

/-- 'barrowlaw38.ChatCuts': WHATEVER THE INPUT: true; the input reads as it did. -/
def chatCutsSpec : ChangeSpec := { name := "chatCuts", fn := fun _ => fun
  | [d1, d2, d3, d4, d5] => { results := [.lit (.bool true)], args := [d1, d2, d3, d4, d5] }
  | _ => none }
def chatCutsRow : OpenClaim := { program := "ytdpeflbdoaccbaa", sum := "f09e08d6891cc66aa166b3a1ee89c0be7c8d3bdeffe0b27abed33ddfc87c7630", func := "barrow/barrowlaw38.ChatCuts", spec := "chatCuts", unfollowed := true, recurses := true, apart := false }
def ChatCutsSaid : Prop := chatCutsRow.holds Try.pinned (OpenSpec.ofChange chatCutsSpec)

/-- ITS FALSE NEIGHBOUR: 'it returns false'. Refute it at one input. -/
def chatCutsWrong : ChangeSpec := { name := "chatCuts", fn := fun _ => fun
  | [d1, d2, d3, d4, d5] => { results := [.lit (.bool false)], args := [d1, d2, d3, d4, d5] }
  | _ => none }
def ChatCutsWrongFalsely : Prop := chatCutsRow.holds Try.pinned (OpenSpec.ofChange chatCutsWrong)

/- THE SECOND FORM. 'bulk': how many values and letters a reading holds, each counted each time it is reached (what is shared counts as often as it is met; a slice's spare places count too). A statement '..UptoSaid' is the law's where the arguments, and the package variables that the reading takes, are together of bulk at most 1048576: NARROWER than '..Said'. Prove '..Said' where nothing that the law and all that it calls make is longer than what came in: it says more and counts as full. Else prove '..UptoSaid'. A law counts once. -/
mutual
def uptoBulk {H : Type} : DataW H → Nat
  | .lit (.string bytes) => bytes.length + 1
  | .lit _ => 1
  | .nil => 1
  | .ptr d => uptoBulk d + 1
  | .slice elems spare => uptoBulkAll elems + uptoBulkAll spare + 1
  | .agg parts => uptoBulkAll parts + 1
  | .iface _ d => uptoBulk d + 1
  | .map entries => uptoBulkEntries entries + 1
  | .held _ => 1
def uptoBulkAll {H : Type} : List (DataW H) → Nat
  | [] => 0
  | d :: r => uptoBulk d + uptoBulkAll r
def uptoBulkEntries {H : Type} : List (Lit × DataW H) → Nat
  | [] => 0
  | x :: r => uptoBulkEntry x + uptoBulkEntries r
def uptoBulkEntry {H : Type} : Lit × DataW H → Nat
  | (.string bytes, d) => bytes.length + uptoBulk d + 1
  | (_, d) => uptoBulk d + 1
 end
def uptoSmall : (H : Type) → List (DataW H) → Bool := fun _ ds => decide (uptoBulkAll ds ≤ 1048576)
def OpenSpec.upto (s : _root_.Go.ChangeSpec) : _root_.Go.OpenSpec := { _root_.Go.OpenSpec.ofChange s with cond := some uptoSmall }

/-- 'barrowlaw38.ChatHears', WHERE WHAT IT READS IS OF BULK AT MOST 1048576: true; the input reads as it did. -/
def chatHearsUptoRow : OpenClaim := { program := "ytdpeflbdoaccbaa", sum := "f09e08d6891cc66aa166b3a1ee89c0be7c8d3bdeffe0b27abed33ddfc87c7630", func := "barrow/barrowlaw38.ChatHears", spec := "chatHears", unfollowed := true, recurses := true, apart := false, narrowed := true }
def ChatHearsUptoSaid : Prop := chatHearsUptoRow.holds Try.pinned (OpenSpec.upto chatHearsSpec)

/-- 'barrowlaw38.ChatTexts', WHERE WHAT IT READS IS OF BULK AT MOST 1048576: true; the input reads as it did. -/
def chatTextsUptoRow : OpenClaim := { program := "ytdpeflbdoaccbaa", sum := "f09e08d6891cc66aa166b3a1ee89c0be7c8d3bdeffe0b27abed33ddfc87c7630", func := "barrow/barrowlaw38.ChatTexts", spec := "chatTexts", unfollowed := true, recurses := true, apart := false, narrowed := true }
def ChatTextsUptoSaid : Prop := chatTextsUptoRow.holds Try.pinned (OpenSpec.upto chatTextsSpec)

/-- 'barrowlaw38.ChatCleans', WHERE WHAT IT READS IS OF BULK AT MOST 1048576: true; the input reads as it did. -/
def chatCleansUptoRow : OpenClaim := { program := "ytdpeflbdoaccbaa", sum := "f09e08d6891cc66aa166b3a1ee89c0be7c8d3bdeffe0b27abed33ddfc87c7630", func := "barrow/barrowlaw38.ChatCleans", spec := "chatCleans", unfollowed := true, recurses := true, apart := false, narrowed := true }
def ChatCleansUptoSaid : Prop := chatCleansUptoRow.holds Try.pinned (OpenSpec.upto chatCleansSpec)

/-- 'barrowlaw38.ChatCuts', WHERE WHAT IT READS IS OF BULK AT MOST 1048576: true; the input reads as it did. -/
def chatCutsUptoRow : OpenClaim := { program := "ytdpeflbdoaccbaa", sum := "f09e08d6891cc66aa166b3a1ee89c0be7c8d3bdeffe0b27abed33ddfc87c7630", func := "barrow/barrowlaw38.ChatCuts", spec := "chatCuts", unfollowed := true, recurses := true, apart := false, narrowed := true }
def ChatCutsUptoSaid : Prop := chatCutsUptoRow.holds Try.pinned (OpenSpec.upto chatCutsSpec)

end Rows
end Go.Proofs.Ytdpeflbdoaccbaa
