/- DrawAll: each number below n is drawn by as many words of a row that has n of them, one behind another. -/
import Derived.Test.YtkffeglkbpfndaaDrawA
namespace Go.Proofs.Ytkffeglkbpfndaa.Pure
open Go.RowKit Go.Proofs.Ytkffeglkbpfndaa.XDR Go.Proofs.YtkffeglkbpfndaaW.PrintWords Go.Proofs.YtkffeglkbpfndaaW.PrintLast
theorem fair_one (x n : Int) (h0 : 0 ≤ x) (h1 : x < 4294967296) (hn : 1 ≤ n) (hn2 : n ≤ 4294967296) : fair [x] n = if x ≥ 4294967296 - 4294967296 % n then (0, 0, false) else (x % n, 1, true) := by
  unfold fair
  rw [if_neg (by omega), if_neg (by omega)]
  simp only [fairS, okw, decide_eq_true h0, decide_eq_true h1, Bool.and_self, if_true, Int.tmod_eq_emod_of_nonneg h0]
  rfl
theorem DrawAll : barrowlaw02_DrawAll.Pure := by
  intro a n ha hn
  refine ⟨21, ?_⟩
  have f1 : ∀ x : Int, draw_Fair.f 20 [x] n = some (fair [x] n) := fun x => fair_is [x] n (by simp) 20 (by simp)
  unfold barrowlaw02_DrawAll.f
  rw [small_is _ (by omega), Option.bind_some]
  simp only [barrowlaw02_DrawAll.j0, f1, Option.bind_some]
  by_cases c1 : a < 0
  · simp [c1]
  by_cases c2 : n < 1
  · simp [c1, c2]
  by_cases c3 : n > 65536
  · simp [c1, c2, c3]
  have w1 : wrap64 (4294967295 - n) = 4294967295 - n := by unfold wrap64; omega
  rw [if_neg c1, if_neg c2, if_neg c3, w1]
  by_cases c4 : a > 4294967295 - n
  · simp [c4]
  have w2 : wrap64 (a + 1) = a + 1 := by unfold wrap64; omega
  have w3 : wrap64 (a + n) = a + n := by unfold wrap64; omega
  have m1 := Int.emod_nonneg a (show n ≠ 0 by omega)
  have m2 := Int.emod_lt_of_pos a (show 0 < n by omega)
  have w4 : wrap64 (a % n + 1) = a % n + 1 := by unfold wrap64; omega
  have w5 : wrap64 (n - 1) = n - 1 := by unfold wrap64; omega
  have e1 : (a + n) % n = a % n := by simp
  have e2 : (a + 1) % n = a % n + 1 ∨ ((a + 1) % n = 0 ∧ a % n = n - 1) := by
    have h := Int.emod_add_mul_ediv a n
    by_cases c : a % n = n - 1
    · right
      refine ⟨?_, c⟩
      have : a + 1 = n * (a / n + 1) := by rw [Int.mul_add, Int.mul_one]; omega
      rw [this]; simp
    · left
      have : a + 1 = (a % n + 1) + n * (a / n) := by omega
      rw [this, Int.add_mul_emod_self_left, Int.emod_eq_of_lt (by omega) (by omega)]
  rw [decide_eq_false c4, if_neg (by simp), w2, w3, fair_one a n (by omega) (by omega) (by omega) (by omega), fair_one (a + 1) n (by omega) (by omega) (by omega) (by omega), fair_one (a + n) n (by omega) (by omega) (by omega) (by omega), Int.tmod_eq_emod_of_nonneg (show 0 ≤ a by omega), e1]
  by_cases d1 : a ≥ 4294967296 - 4294967296 % n
  · rw [if_pos d1, if_pos (show a + 1 ≥ _ by omega), if_pos (show a + n ≥ _ by omega)]
    simp
  · rw [if_neg d1]
    by_cases d2 : a + 1 ≥ 4294967296 - 4294967296 % n
    · rw [if_pos d2, if_pos (show a + n ≥ _ by omega)]
      simp [show ¬ n = 0 by omega]
    · rw [if_neg d2]
      by_cases d3 : a + n ≥ 4294967296 - 4294967296 % n
      · rw [if_pos d3]
        rcases e2 with e2 | ⟨e2, e3⟩
        · simp [show ¬ n = 0 by omega, e2, w4]
        · simp [show ¬ n = 0 by omega, e2, e3, w5]
      · rw [if_neg d3]
        rcases e2 with e2 | ⟨e2, e3⟩
        · simp [show ¬ n = 0 by omega, e2, w4]
        · simp [show ¬ n = 0 by omega, e2, e3, w5]
end Go.Proofs.Ytkffeglkbpfndaa.Pure
