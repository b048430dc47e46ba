/- SightAlike, in plain Lean. -/
import Derived.Test.YtljmecjciifceaaSiE
import Derived.Test.YtljmecjciifceaaXSGx24
namespace Go.Proofs.Ytljmecjciifceaa.Pure
open Go.RowKit Go.Proofs.Ytljmecjciifceaa.XSG Go.Proofs.YtljmecjciifceaaW.PrintWords Go.Proofs.YtljmecjciifceaaW.PrintLast
theorem SightAlike : barrowlaw07_SightAlike.Pure := by
  intro w h l ax ay bx by_ h1 h2 h3 h4 h5 h6 h7
  obtain ⟨K, hk⟩ := small_ev
  refine ⟨K + 200000, ?_⟩
  unfold barrowlaw07_SightAlike.f
  rw [hk (K + 200000) (by omega)]
  simp only [Option.bind_some, barrowlaw06_Few.f]
  split
  · rw [line_eq w h l ax ay bx by_ _ (by omega), line_eq w h l bx by_ ax ay _ (by omega), sees_eq' w h l ax ay bx by_ _ (by omega), sees_eq' w h l bx by_ ax ay _ (by omega), in_eq, in_eq]
    by_cases hc : RightG w h l ∧ Ins w h ax ay ∧ Ins w h bx by_
    · obtain ⟨hg, ha, hb⟩ := hc
      obtain ⟨b1, b2⟩ := rg_box hg ha
      obtain ⟨b3, b4⟩ := rg_box hg hb
      have hlen := linev_len b1 b2 b3 b4
      have hcnt := linev_count ax ay bx by_
      have hs : stepsv ax ay bx by_ = max (max ax bx - min ax bx) (max ay by_ - min ay by_) := by
        unfold stepsv farv
        rw [satv_in (by omega), satv_in (by omega)]
      rw [← hs] at hcnt
      have hs1 : 0 ≤ stepsv ax ay bx by_ ∧ stepsv ax ay bx by_ ≤ 255 := by rw [hs]; omega
      simp only [Option.bind_some, if_pos (⟨hg, ha, hb⟩ : RightG w h l ∧ Ins w h ax ay ∧ Ins w h bx by_), if_pos (⟨hg, hb, ha⟩ : RightG w h l ∧ Ins w h bx by_ ∧ Ins w h ax ay), decide_eq_true (⟨hg, ha⟩ : RightG w h l ∧ Ins w h ax ay), decide_eq_true (⟨hg, hb⟩ : RightG w h l ∧ Ins w h bx by_), if_true]
      rw [linev_swap ax ay bx by_, foundv_swap w l ax ay bx by_, same_eq _ _ (by rw [List.length_map]; omega) (by omega), has_eq _ ax ay hlen _ (by omega), has_eq _ bx by_ hlen _ (by omega), steps_eq (K + 199999) ax ay bx by_ (by omega) (by omega) (by omega) (by omega)]
      have m1 := line_self ax ay bx by_
      have m2 := line_self bx by_ ax ay
      rw [linev_swap] at m2
      simp only [Option.bind_some, if_true, decide_eq_true m1, decide_eq_true m2, beq_self_eq_true, List.length_map]
      rw [wrap64_in (x := stepsv ax ay bx by_ + 1) (by omega), wrap64_in (x := 3 * stepsv ax ay bx by_) (by omega), wrap64_in (x := 3 * stepsv ax ay bx by_ + 1) (by omega), if_pos (by omega)]
      congr 1
      exact decide_eq_true (by omega)
    · have hc' : ¬ (RightG w h l ∧ Ins w h bx by_ ∧ Ins w h ax ay) := fun h => hc ⟨h.1, h.2.2, h.2.1⟩
      simp only [if_neg hc, if_neg hc', Option.bind_some, if_true]
      by_cases h1 : RightG w h l ∧ Ins w h ax ay
      · have h2 : ¬ (RightG w h l ∧ Ins w h bx by_) := fun h => hc ⟨h1.1, h1.2, h.2⟩
        simp only [decide_eq_true h1, decide_eq_false h2, if_true, Option.bind_some, Bool.false_eq_true, if_false]
        rfl
      · simp only [decide_eq_false h1, Option.bind_some, Bool.false_eq_true, if_false, if_true]
        rfl
  · rfl
end Go.Proofs.Ytljmecjciifceaa.Pure
