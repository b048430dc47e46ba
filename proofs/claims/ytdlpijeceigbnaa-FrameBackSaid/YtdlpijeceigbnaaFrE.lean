/- Frames: the frames of bytes, as one word. -/
import Derived.Test.YtdlpijeceigbnaaFrD
set_option linter.unusedSimpArgs false
set_option linter.unusedVariables false
namespace Go.Proofs.Ytdlpijeceigbnaa.Pure
open Go.RowKit Go.Proofs.Ytdlpijeceigbnaa.XFR Go.Proofs.YtdlpijeceigbnaaW.PrintWords Go.Proofs.YtdlpijeceigbnaaW.PrintLast Go.Proofs.YtdlpijeceigbnaaW.PrintMore

/-- The frames of bytes. -/
def fr (b : List Int) : List (List Int) × Int × List Int := frS (b.length + 1) b
theorem fr_append (b c : List Int) (hb : Bytes (b ++ c)) : fr (b ++ c) = if (fr b).2.1 = 0 then ((fr b).1 ++ (fr ((fr b).2.2 ++ c)).1, (fr ((fr b).2.2 ++ c)).2) else fr b :=
  frS_append _ _ b c hb (Nat.lt_succ_self _) (Nat.lt_succ_self _)
theorem pushS_fr (rest : List Int) (l : List Int) : pushS rest false l = ((fr (rest ++ l)).1, (fr (rest ++ l)).2.1, (fr (rest ++ l)).2.2, if (fr (rest ++ l)).2.1 = 0 then false else true) := rfl
theorem fr_facts {b : List Int} (hb : Bytes b) : ((fr b).2.1 = 0 ∨ ((fr b).2.1 = 2 ∨ (fr b).2.1 = 3) ∧ (fr b).2.2 = []) ∧ Bytes (fr b).2.2 ∧ (fr b).2.2.length ≤ b.length ∧ (fr b).1.length ≤ b.length := by
  refine ⟨?_, frS_bytes _ _ hb, (frS_rest _ _ hb).2, frS_len _ _ hb⟩
  rcases (frS_codes _ _ hb (Nat.lt_succ_self _)).1 with h | h
  · exact Or.inl h.1
  · exact Or.inr h
end Go.Proofs.Ytdlpijeceigbnaa.Pure
