/- GridFar, in plain Lean. -/
import Derived.Test.YtoalpmfkaijomaaGrA
import Derived.Test.YtoalpmfkaijomaaXGLx4
namespace Go.Proofs.Ytoalpmfkaijomaa.Pure
open Go.RowKit Go.Proofs.Ytoalpmfkaijomaa.XGR Go.Proofs.Ytoalpmfkaijomaa.XGL Go.Proofs.YtoalpmfkaijomaaW.PrintWords Go.Proofs.YtoalpmfkaijomaaW.PrintLast
theorem GridFar : barrowlaw06_GridFar.Pure := by
  intro ax ay bx by_ r h1 h2 h3 h4 h5
  replace h1 := i64_of h1
  replace h2 := i64_of h2
  replace h3 := i64_of h3
  replace h4 := i64_of h4
  replace h5 := i64_of h5
  obtain ⟨K, hk⟩ := small_ev
  refine ⟨K + 1, ?_⟩
  unfold barrowlaw06_GridFar.f
  rw [hk (K + 1) (by omega), square_eq K ax ay bx by_ h1 h2 h3 h4, rsquare_eq K ax ay bx by_ h1 h2 h3 h4, steps_eq K ax ay bx by_ h1 h2 h3 h4, rsteps_eq K ax ay bx by_ h1 h2 h3 h4, near_eq K ax ay bx by_ h1 h2 h3 h4 r h5, rnear_eq K ax ay bx by_ h1 h2 h3 h4 r h5]
  simp
end Go.Proofs.Ytoalpmfkaijomaa.Pure
