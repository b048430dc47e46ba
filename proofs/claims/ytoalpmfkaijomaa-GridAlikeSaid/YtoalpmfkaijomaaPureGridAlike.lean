/- GridAlike, in plain Lean. -/
import Derived.Test.YtoalpmfkaijomaaGrA
import Derived.Test.YtoalpmfkaijomaaXGLx6
namespace Go.Proofs.Ytoalpmfkaijomaa.Pure
open Go.RowKit Go.Proofs.Ytoalpmfkaijomaa.XGR Go.Proofs.Ytoalpmfkaijomaa.XGL Go.Proofs.YtoalpmfkaijomaaW.PrintWords Go.Proofs.YtoalpmfkaijomaaW.PrintLast
theorem GridAlike : barrowlaw06_GridAlike.Pure := by
  intro ax ay bx by_ r h1 h2 h3 h4 h5
  replace h1 := i64_of h1
  replace h2 := i64_of h2
  replace h3 := i64_of h3
  replace h4 := i64_of h4
  replace h5 := i64_of h5
  obtain ⟨K, hk⟩ := small_ev
  refine ⟨K + 2, ?_⟩
  unfold barrowlaw06_GridAlike.f
  rw [hk (K + 2) (by omega), square_eq (K + 1) ax ay bx by_ h1 h2 h3 h4, steps_eq (K + 1) ax ay bx by_ h1 h2 h3 h4, square_eq (K + 1) bx by_ ax ay h3 h4 h1 h2, steps_eq (K + 1) bx by_ ax ay h3 h4 h1 h2, sqv_comm bx, stepsv_comm bx]
  simp only [Option.bind_some, if_true]
  have hs := sqv_nonneg ax ay bx by_
  have hn := stepsv_nonneg ax ay bx by_
  have hz := sqv_zero ax ay bx by_
  have hy := stepsv_zero ax ay bx by_
  rw [if_neg (by omega), if_neg (by omega)]
  have e1 : (sqv ax ay bx by_ == 0) = (ax == bx && (ay == by_)) := by
    rw [Bool.eq_iff_iff]; simp [hz]
  have e2 : (stepsv ax ay bx by_ == 0) = (ax == bx && (ay == by_)) := by
    rw [Bool.eq_iff_iff]; simp [hy]
  rw [e1, e2]
  simp only [bne_self_eq_false, Bool.false_eq_true, if_false]
  simp only [barrowlaw06_GridAlike.j0]
  rw [near_eq K ax ay bx by_ h1 h2 h3 h4 r h5, near_eq K bx by_ ax ay h3 h4 h1 h2 r h5, nearv_comm bx]
  simp only [Option.bind_some, if_true, Bool.false_eq_true, if_false, beq_self_eq_true]
  by_cases hr : r < 0
  · rw [if_pos hr]
    simp [nearv, show ¬ (0 ≤ r) by omega]
  · rw [if_neg hr]
    by_cases hnr : nearv ax ay bx by_ r = true
    · rw [if_pos hnr]
      have hst := nearv_steps ax ay bx by_ r hnr
      split
      · split <;> rfl
      · rw [if_pos (hst (by omega))]
        split <;> rfl
    · rw [if_neg hnr]
      have : ¬ (ax = bx ∧ ay = by_) := by
        rintro ⟨rfl, rfl⟩
        exact hnr (nearv_self _ _ _ (by omega))
      rw [if_pos (by simp; omega)]
end Go.Proofs.Ytoalpmfkaijomaa.Pure
