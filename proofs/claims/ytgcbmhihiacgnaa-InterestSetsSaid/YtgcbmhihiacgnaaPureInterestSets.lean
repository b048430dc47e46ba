/- InterestSets, in plain Lean. -/
import Derived.Test.YtgcbmhihiacgnaaInB
import Derived.Test.YtgcbmhihiacgnaaXINx13
set_option linter.unusedSimpArgs false
set_option linter.unusedVariables false
namespace Go.Proofs.Ytgcbmhihiacgnaa.Pure
open Go.RowKit Go.Proofs.Ytgcbmhihiacgnaa.XIN Go.Proofs.YtgcbmhihiacgnaaW.PrintWords Go.Proofs.YtgcbmhihiacgnaaW.PrintLast Go.Proofs.YtgcbmhihiacgnaaS
theorem sets_l0 (l : List S50) (m : List S36) (a b r : Int) (hl : l.length ≤ 80) (hm : m.length ≤ 80) (hr : In64 r) (hin : ∀ p ∈ l, In41 p.f1) (T : List Int) (hT : T.length ≤ 161) :
    ∀ (n i k : Nat) (y : List Int), i + n = T.length → 9000 + n < k → barrowlaw24_InterestSets.l0 k l m a b r true T true i y = some true := by
  intro n
  induction n with
  | zero =>
    intro i k y hi hk
    obtain ⟨k, rfl⟩ : ∃ q, k = q + 1 := ⟨k - 1, by omega⟩
    have hs := setv_len l m a r hl hm
    rw [barrowlaw24_InterestSets.l0, if_neg (by omega), if_pos rfl, if_pos rfl, set_eq l m a r hl hm hr hin (by omega), rset_eq l m a r hl hm hr hin (by omega)]
    simp only [Option.bind_some]
    rw [same_eq _ _ (by omega) (by omega), mutual_eq l a b r hl hr hin (by omega), rmutual_eq l a b r hl hr hin (by omega)]
    simp
  | succ n ih =>
    intro i k y hi hk
    obtain ⟨k, rfl⟩ : ∃ q, k = q + 1 := ⟨k - 1, by omega⟩
    rw [barrowlaw24_InterestSets.l0, if_pos (by omega), if_pos (by omega), Option.bind_some, wrap64_in (by omega), succ_cast]
    exact ih (i + 1) k _ (by omega) (by omega)
theorem InterestSets : barrowlaw24_InterestSets.Pure := by
  intro l m a b r h1 h2 h3 h4 h5
  refine ⟨20000, ?_⟩
  have hin : ∀ p ∈ l, In41 p.f1 := fun p hp => by
    obtain ⟨_, w1, w2⟩ := h1.2.2 p hp
    exact ⟨i64_of w1, i64_of w2⟩
  unfold barrowlaw24_InterestSets.f
  rw [small_eq (by omega), Option.bind_some]
  split
  · rfl
  · split
    · rfl
    · rename_i c1 c2
      have hl : l.length ≤ 80 := by omega
      have hm : m.length ≤ 80 := by omega
      have hr : In64 r := i64_of h5
      have hs := setv_len l m a r hl hm
      rw [set_eq l m a r hl hm hr hin (by omega), rset_eq l m a r hl hm hr hin (by omega)]
      simp only [Option.bind_some]
      rw [same_eq _ _ (by omega) (by omega)]
      simp only [Option.bind_some, decide_true]
      exact sets_l0 l m a b r hl hm hr hin _ hs (setv l m a r).length 0 20000 _ (by omega) (by omega)
end Go.Proofs.Ytgcbmhihiacgnaa.Pure
