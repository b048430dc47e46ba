/- A part lies between nought and the whole, if num is from 0 to den, and Clamp stays within its ends: for all numbers of 64 bits. -/
import Derived.Test.YtgffgmkfafdjjaaSatA
import Derived.Test.YtgffgmkfafdjjaaXSatx4
namespace Go.Proofs.Ytgffgmkfafdjjaa.Pure
open Go.RowKit Go.Proofs.Ytgffgmkfafdjjaa.XSat Go.Proofs.YtgffgmkfafdjjaaW.PrintWords Go.Proofs.YtgffgmkfafdjjaaW.PrintLast Go.Proofs.YtgffgmkfafdjjaaW.PrintMore

theorem partv_small (a num den : Int) (ha : 0 ≤ a ∧ a ≤ 2147483647) (hn : 0 ≤ num ∧ num ≤ den) (hd : 1 ≤ den ∧ den ≤ 2147483647) : partv a num den = a * num / den ∧ partv (-a) num den = -(a * num / den) ∧ 0 ≤ a * num / den ∧ a * num / den ≤ a := by
  have hb : a * num ≤ 2147483647 * 2147483647 := Int.mul_le_mul ha.2 (by omega) hn.1 (by decide)
  have h0 : 0 ≤ a * num := Int.mul_nonneg ha.1 hn.1
  have hq0 : 0 ≤ a * num / den := Int.ediv_nonneg h0 (by omega)
  have hq1 : a * num / den ≤ a := by
    refine Int.ediv_le_of_le_mul (by omega) ?_
    exact Int.mul_le_mul_of_nonneg_left hn.2 ha.1
  have c1 : clampv a (-2147483647) 2147483647 = a := by unfold clampv; (repeat' split) <;> omega
  have c2 : clampv (-a) (-2147483647) 2147483647 = -a := by unfold clampv; (repeat' split) <;> omega
  have c3 : clampv num (-2147483647) 2147483647 = num := by unfold clampv; (repeat' split) <;> omega
  refine ⟨?_, ?_, hq0, hq1⟩
  · unfold partv
    rw [if_neg (by omega), c1, c3, show wrap64 (a * num) = a * num by unfold wrap64; omega, Int.tdiv_eq_ediv_of_nonneg h0]
    unfold wrap64; omega
  · unfold partv
    rw [if_neg (by omega), c2, c3, Int.neg_mul, show wrap64 (-(a * num)) = -(a * num) by unfold wrap64; omega, Int.neg_tdiv, Int.tdiv_eq_ediv_of_nonneg h0]
    unfold wrap64; omega
theorem SatShares : barrowlaw01_SatShares.Pure := by
  intro a num den wa wn wd
  have ha := i64_of wa
  have hn := i64_of wn
  have hd := i64_of wd
  refine ⟨100, ?_⟩
  unfold barrowlaw01_SatShares.f
  rw [small_eq, clamp_eq]
  simp only [Option.bind_some]
  have key1 : ∀ b : Bool, (b = false → 0 ≤ a ∧ a ≤ 2147483647 ∧ 0 ≤ num ∧ num ≤ den ∧ 1 ≤ den ∧ den ≤ 2147483647) → barrowlaw01_SatShares.j1 99 a num den true b = some true := by
    intro b hb
    simp only [barrowlaw01_SatShares.j1]
    cases b
    · obtain ⟨h1, h2, h3, h4, h5, h6⟩ := hb rfl
      obtain ⟨p1, p2, p3, p4⟩ := partv_small a num den ⟨h1, h2⟩ ⟨h3, h4⟩ ⟨h5, h6⟩
      obtain ⟨q1, q2, q3, q4⟩ := partv_small a (den - num) den ⟨h1, h2⟩ ⟨by omega, by omega⟩ ⟨h5, h6⟩
      obtain ⟨r, hr, r1, r2, r3⟩ := root_eq a ha 98 (by decide)
      have hw1 : wrap64 (den - num) = den - num := by unfold wrap64; omega
      have hw2 : wrap64 (-a) = -a := by unfold wrap64; omega
      rw [hw1, hw2, part_eq, part_eq, part_eq, hr, p1, p2, q1]
      simp only [Option.bind_some, Bool.false_eq_true, if_false, if_true]
      have e : a * num + a * (den - num) = a * den := by rw [← Int.mul_add]; congr 1; omega
      have hm1 := Int.emod_add_mul_ediv (a * num) den
      have hm2 := Int.emod_add_mul_ediv (a * (den - num)) den
      have hl1 := Int.emod_lt_of_pos (a * num) (show 0 < den by omega)
      have hl2 := Int.emod_lt_of_pos (a * (den - num)) (show 0 < den by omega)
      have hg1 := Int.emod_nonneg (a * num) (show den ≠ 0 by omega)
      have hg2 := Int.emod_nonneg (a * (den - num)) (show den ≠ 0 by omega)
      generalize a * num / den = p at *
      generalize a * (den - num) / den = q at *
      have hs : den * (p + q) = den * p + den * q := Int.mul_add _ _ _
      have hup : p + q ≤ a := by
        refine Int.not_lt.1 fun hlt => ?_
        have : den * (a + 1) ≤ den * (p + q) := Int.mul_le_mul_of_nonneg_left (by omega) (by omega)
        rw [Int.mul_add, Int.mul_one, Int.mul_comm den a] at this
        omega
      have hlo : a - 1 ≤ p + q := by
        refine Int.not_lt.1 fun hlt => ?_
        have : den * (p + q) ≤ den * (a - 2) := Int.mul_le_mul_of_nonneg_left (by omega) (by omega)
        rw [Int.mul_sub, Int.mul_comm den a] at this
        omega
      have hr46 : r ≤ 46341 := by
        refine Int.not_lt.1 fun hlt => ?_
        by_cases h0 : 0 < a
        · have h7 := (r3 h0).1
          have : (46342 : Int) * 46342 ≤ r * r := Int.mul_le_mul (by omega) (by omega) (by omega) r1
          omega
        · have := r2 (by omega); omega
      have hrr : r * r ≤ a ∧ a < (r + 1) * (r + 1) := by
        by_cases h0 : 0 < a
        · exact r3 h0
        · have := r2 (by omega); subst this
          exact ⟨by omega, by omega⟩
      have hb2 : (r + 1) * (r + 1) ≤ 46342 * 46342 := Int.mul_le_mul (by omega) (by omega) (by omega) (by omega)
      have hb0 : 0 ≤ r * r := Int.mul_nonneg r1 r1
      have hb1 : 0 ≤ (r + 1) * (r + 1) := Int.mul_nonneg (by omega) (by omega)
      have w1 : wrap64 (p + q) = p + q := by unfold wrap64; omega
      have w2 : wrap64 (a - 1) = a - 1 := by unfold wrap64; omega
      have w3 : wrap64 (-p) = -p := by unfold wrap64; omega
      have w4 : wrap64 (r * r) = r * r := by unfold wrap64; omega
      have w5 : wrap64 (r + 1) = r + 1 := by unfold wrap64; omega
      have w6 : wrap64 ((r + 1) * (r + 1)) = (r + 1) * (r + 1) := by unfold wrap64; omega
      rw [w1, w2, w3, w4, w5, w6, if_pos (by omega), if_pos (by omega), if_pos (by omega), if_pos (by omega), if_pos rfl, if_pos (by omega), show decide ((r + 1) * (r + 1) > a) = true from decide_eq_true (by omega)]
    · rfl
  have key0 : barrowlaw01_SatShares.j0 100 a num den true false = some true := by
    simp only [barrowlaw01_SatShares.j0, Bool.false_eq_true, if_false]
    (repeat' split) <;> (first | exact key1 true (fun h => by simp at h) | exact key1 _ (fun h => by have := of_decide_eq_false h; omega))
  by_cases h1 : num ≤ den
  · have hc : clampv a num den = if a < num then num else if a > den then den else a := by
      unfold clampv; (repeat' split) <;> omega
    rw [if_pos h1, hc]
    by_cases h2 : a < num
    · rw [if_pos h2, if_neg (by omega), if_neg (by omega), if_neg (by omega)]; exact key0
    · rw [if_neg h2]
      by_cases h3 : a > den
      · rw [if_pos h3, if_neg (by omega), if_neg (by omega), if_pos (by omega), if_neg (by omega)]; exact key0
      · rw [if_neg h3, if_neg h2, if_neg h3, if_pos (by omega), if_pos (by omega), bne_self_eq_false]; exact key0
  · rw [if_neg h1]; exact key0
end Go.Proofs.Ytgffgmkfafdjjaa.Pure
