/- InterestTurns, in plain Lean. -/
import Derived.Test.YtgcbmhihiacgnaaInB
import Derived.Test.YtgcbmhihiacgnaaXINx14
set_option linter.unusedSimpArgs false
set_option linter.unusedVariables false
namespace Go.Proofs.Ytgcbmhihiacgnaa.Pure
open Go.RowKit Go.Proofs.Ytgcbmhihiacgnaa.XIN Go.Proofs.YtgcbmhihiacgnaaW.PrintWords Go.Proofs.YtgcbmhihiacgnaaW.PrintLast Go.Proofs.YtgcbmhihiacgnaaS
theorem InterestTurns : barrowlaw24_InterestTurns.Pure := by
  intro l m a b h1 h2 h3 h4
  refine ⟨20000, ?_⟩
  unfold barrowlaw24_InterestTurns.f
  rw [small_eq (by omega), Option.bind_some]
  split
  · rfl
  · split
    · rfl
    · rename_i c1 c2
      have hl : l.length ≤ 80 := by omega
      have hm : m.length ≤ 80 := by omega
      have w1 : (wov l m).length ≤ 80 := Nat.le_trans (canonv_len _) (Nat.le_trans (List.length_filter_le _ _) hl)
      have w2 : (wov m l).length ≤ 80 := Nat.le_trans (canonv_len _) (Nat.le_trans (List.length_filter_le _ _) hm)
      simp only [Option.bind_some, List.nil_append, List.length_nil]
      rw [if_pos (by omega), change_eq l m (by omega) (by omega) (by omega), rchange_eq l m (by omega) (by omega) (by omega)]
      simp only [Option.bind_some, if_true]
      rw [same_eq (wov l m) _ (by omega) (by omega), same_eq (wov m l) _ (by omega) (by omega), same_eq l _ (by omega) (by omega), hears_eq l a b (by omega) (by omega), rhears_eq l a b (by omega) (by omega)]
      simp
end Go.Proofs.Ytgcbmhihiacgnaa.Pure
