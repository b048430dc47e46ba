/- Add and Mul do not hang on the order of their two, and Sub is Add of what is turned round: for all numbers of 64 bits. -/
import Derived.Test.YtgffgmkfafdjjaaSatA
import Derived.Test.YtgffgmkfafdjjaaXSatx3
namespace Go.Proofs.Ytgffgmkfafdjjaa.Pure
open Go.RowKit Go.Proofs.Ytgffgmkfafdjjaa.XSat Go.Proofs.YtgffgmkfafdjjaaW.PrintWords Go.Proofs.YtgffgmkfafdjjaaW.PrintLast

theorem SatTurns : barrowlaw01_SatTurns.Pure := by
  intro a b wa wb
  have ha := i64_of wa
  have hb := i64_of wb
  refine ⟨100, ?_⟩
  unfold barrowlaw01_SatTurns.f
  rw [small_eq]
  have r2 : ∀ x : Int, -9223372036854775808 ≤ x ∧ x ≤ 9223372036854775807 → ∃ y, wrap64 (Int.tdiv x 2) = y ∧ -4611686018427387904 ≤ y ∧ y ≤ 4611686018427387903 := fun x hx => by
    refine ⟨_, rfl, ?_⟩
    by_cases h0 : 0 ≤ x
    · rw [Int.tdiv_eq_ediv_of_nonneg h0]; unfold wrap64; omega
    · have := Int.neg_tdiv (a := -x) (b := 2)
      rw [Int.neg_neg] at this
      rw [this, Int.tdiv_eq_ediv_of_nonneg (by omega)]; unfold wrap64; omega
  obtain ⟨p, hp, hp1⟩ := r2 a ha
  obtain ⟨q, hq, hq1⟩ := r2 b hb
  have key : barrowlaw01_SatTurns.j0 100 a b true true = some true := by
    simp only [barrowlaw01_SatTurns.j0]
    rw [hp, hq, add_eq _ _ _ ha hb, add_eq _ _ _ hb ha, mul_eq a b ha hb, mul_eq b a hb ha, add_eq _ p q (by omega) (by omega), mul_eq a 1 ha (by omega), mul_eq a 0 ha (by omega), add_eq _ a 0 ha (by omega)]
    have e1 : satv (a + b) = satv (b + a) := by rw [Int.add_comm]
    have e2 : satv (a * b) = satv (b * a) := by rw [Int.mul_comm]
    have e3 : satv (p + q) = wrap64 (p + q) := by rw [satv_in (by omega)]; unfold wrap64; omega
    have e4 : satv (a * 1) = a := by rw [Int.mul_one, satv_in ha]
    have e5 : satv (a * 0) = 0 := by rw [Int.mul_zero]; rfl
    have e6 : satv (a + 0) = a := by rw [Int.add_zero, satv_in ha]
    simp only [Option.bind_some, if_true]
    rw [if_pos e1, if_pos e2, if_pos e3, if_pos e4, if_pos e5, e6]
    simp
  simp only [Option.bind_some]
  by_cases h : b = -9223372036854775808
  · rw [if_pos h]; exact key
  · rw [if_neg h, sub_eq _ a b ha hb]
    have hw : wrap64 (-b) = -b := by unfold wrap64; omega
    rw [hw, add_eq _ a (-b) ha (by omega)]
    simp only [Option.bind_some]
    rw [show satv (a - b) = satv (a + -b) by rw [Int.sub_eq_add_neg]]
    simpa using key
end Go.Proofs.Ytgffgmkfafdjjaa.Pure
