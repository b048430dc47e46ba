/- SightLines, in plain Lean. -/
import Derived.Test.YtljmecjciifceaaSi
import Derived.Test.YtljmecjciifceaaXSGx22
namespace Go.Proofs.Ytljmecjciifceaa.Pure
open Go.RowKit Go.Proofs.Ytljmecjciifceaa.XSG Go.Proofs.YtljmecjciifceaaW.PrintWords Go.Proofs.YtljmecjciifceaaW.PrintLast
theorem SightLines : barrowlaw07_SightLines.Pure := by
  intro w h l ax ay bx by_ h1 h2 h3 h4 h5 h6 h7
  obtain ⟨K, hk⟩ := small_ev
  refine ⟨K + 200000, ?_⟩
  unfold barrowlaw07_SightLines.f
  rw [hk (K + 200000) (by omega)]
  simp only [Option.bind_some, barrowlaw06_Few.f]
  split
  · rw [first_eq w h l ax ay bx by_ _ (by omega), rfirst_eq w h l ax ay bx by_ _ (by omega), line_eq w h l ax ay bx by_ _ (by omega), rline_eq w h l ax ay bx by_ _ (by omega), rsees_eq w h l ax ay bx by_ _ (by omega), sees_eq' w h l ax ay bx by_ _ (by omega)]
    by_cases hc : RightG w h l ∧ Ins w h ax ay ∧ Ins w h bx by_
    · simp only [if_pos hc]
      obtain ⟨r, hr, hf, _⟩ := firstv_eq w l ax ay bx by_
      obtain ⟨hg, ha, hb⟩ := hc
      obtain ⟨b1, b2⟩ := rg_box hg ha
      obtain ⟨b3, b4⟩ := rg_box hg hb
      have hlen := linev_len b1 b2 b3 b4
      rw [hr]
      simp only [Option.map_some, Option.bind_some, if_true]
      rw [same_eq _ _ (by rw [List.length_map]; omega) (by omega)]
      simp
    · simp only [if_neg hc, Option.bind_some, if_true]
      rw [same_eq [] _ (by simp) (by omega)]
      simp
  · rfl
end Go.Proofs.Ytljmecjciifceaa.Pure
