/- A greater number makes no lesser sum, and a greater product, if what it is multiplied with is not below 0, no lesser one: for all numbers of 64 bits. -/
import Derived.Test.YtgffgmkfafdjjaaSatA
import Derived.Test.YtgffgmkfafdjjaaXSatx3
namespace Go.Proofs.Ytgffgmkfafdjjaa.Pure
open Go.RowKit Go.Proofs.Ytgffgmkfafdjjaa.XSat Go.Proofs.YtgffgmkfafdjjaaW.PrintWords Go.Proofs.YtgffgmkfafdjjaaW.PrintLast Go.Proofs.YtgffgmkfafdjjaaW.PrintMore

theorem SatOrders : barrowlaw01_SatOrders.Pure := by
  intro a b c wa wb wc
  have ha := i64_of wa
  have hb := i64_of wb
  have hc := i64_of wc
  refine ⟨100, ?_⟩
  unfold barrowlaw01_SatOrders.f
  rw [small_eq]
  obtain ⟨lo, hlo⟩ : ∃ q, mn a b = q := ⟨_, rfl⟩
  obtain ⟨hi, hhi⟩ : ∃ q, mx a b = q := ⟨_, rfl⟩
  have l0 : -9223372036854775808 ≤ lo ∧ lo ≤ 9223372036854775807 := by rw [← hlo]; unfold mn; split <;> omega
  have h0 : -9223372036854775808 ≤ hi ∧ hi ≤ 9223372036854775807 := by rw [← hhi]; unfold mx; split <;> omega
  have lh : lo ≤ hi := by rw [← hlo, ← hhi]; unfold mn mx; split <;> split <;> omega
  rw [hlo, hhi]
  have key1 : barrowlaw01_SatOrders.j1 99 c true lo hi true true = some true := by
    simp only [barrowlaw01_SatOrders.j1]
    rw [add_eq _ lo c l0 hc, add_eq _ hi c h0 hc, sub_eq _ lo c l0 hc, sub_eq _ hi c h0 hc]
    simp only [Option.bind_some, if_true]
    rw [if_pos (satv_mono (by omega)), if_pos (satv_mono (by omega))]
  have key0 : barrowlaw01_SatOrders.j0 100 c true lo hi true = some true := by
    simp only [barrowlaw01_SatOrders.j0]
    by_cases h : c > 0
    · rw [if_pos h]; exact key1
    · rw [if_neg h, mul_eq lo c l0 hc, mul_eq hi c h0 hc]
      simp only [Option.bind_some]
      rw [show decide (satv (lo * c) ≥ satv (hi * c)) = true from decide_eq_true (satv_mono (Int.mul_le_mul_of_nonpos_right lh (by omega)))]
      exact key1
  simp only [Option.bind_some]
  by_cases h : c < 0
  · rw [if_pos h]; exact key0
  · rw [if_neg h, mul_eq lo c l0 hc, mul_eq hi c h0 hc]
    simp only [Option.bind_some]
    rw [show decide (satv (lo * c) ≤ satv (hi * c)) = true from decide_eq_true (satv_mono (Int.mul_le_mul_of_nonneg_right lh (by omega)))]
    exact key0
end Go.Proofs.Ytgffgmkfafdjjaa.Pure
