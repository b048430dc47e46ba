/- AreaTells, in plain Lean. -/
import Derived.Test.YtofodbnnminmkaaArC
import Derived.Test.YtofodbnnminmkaaXARx23
set_option linter.unusedSimpArgs false
set_option linter.unusedVariables false
namespace Go.Proofs.Ytofodbnnminmkaa.Pure
open Go.RowKit Go.Proofs.Ytofodbnnminmkaa.XAR Go.Proofs.YtofodbnnminmkaaW.PrintWords Go.Proofs.YtofodbnnminmkaaW.PrintLast
theorem few_tot (w h : Int) (l : List Bool) : ∃ v, barrowlaw06_Few.f w h l = some v := by
  unfold barrowlaw06_Few.f
  (repeat' split) <;> exact ⟨_, rfl⟩
theorem AreaTells : barrowlaw32_AreaTells.Pure := by
  intro w h l kd ax ay bx by_ a b x y _ _ _ _ _ _ _ _ _ _ _ _
  obtain ⟨k, hk, hs⟩ := ((Ev.ge 300000).and small_ev).get
  refine ⟨k, ?_⟩
  obtain ⟨f, hf⟩ := few_tot w h l
  unfold barrowlaw32_AreaTells.f
  rw [hs, hf, Option.bind_some, Option.bind_some]
  cases f with
  | false => simp
  | true =>
    obtain ⟨v, hv, e1, e2⟩ := tiles_same w h l kd ax ay bx by_ a b (k := k) (by omega)
    rw [aright_eq, rright32_eq, e1, e2]
    obtain ⟨k, rfl⟩ : ∃ q, k = q + 1 := ⟨k - 1, by omega⟩
    rw [pv_in, pv_ref]
    have hsame : barrowref06_Same.f (k + 1) v v = some true := by
      unfold barrowref06_Same.f
      rw [if_pos rfl]
      exact same_self v (by omega) v.length 0 (k + 1) (by omega) (by omega)
    simp only [Option.bind_some, if_true, hsame, beq_self_eq_true]
end Go.Proofs.Ytofodbnnminmkaa.Pure
