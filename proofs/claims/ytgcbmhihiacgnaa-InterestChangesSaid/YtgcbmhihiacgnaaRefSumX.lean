/- What the document's sums, differences and products come to: plain numbers. -/
import Derived.Test.YtgcbmhihiacgnaaSumX
import Derived.Test.YtgcbmhihiacgnaaXINx7
import Derived.Test.YtgcbmhihiacgnaaXINx6
namespace Go.Proofs.Ytgcbmhihiacgnaa.Pure
open Go.RowKit Go.Proofs.Ytgcbmhihiacgnaa.XIN Go.Proofs.YtgcbmhihiacgnaaW.PrintWords Go.Proofs.YtgcbmhihiacgnaaW.PrintLast Go.Proofs.YtgcbmhihiacgnaaW.PrintMore

theorem refadd_eq (k : Nat) (a b : Int) (ha : -9223372036854775808 ≤ a ∧ a ≤ 9223372036854775807) (hb : -9223372036854775808 ≤ b ∧ b ≤ 9223372036854775807) : barrowref01_Add.f (k + 1) a b = some (satv (a + b)) := by
  unfold barrowref01_Add.f satv
  simp only [barrowref01_Add.j0, wrap64]
  by_cases h1 : a > 0
  · rw [if_pos h1]
    by_cases h2 : b > (9223372036854775807 - a + 9223372036854775808) % 18446744073709551616 - 9223372036854775808
    · rw [if_pos (decide_eq_true h2), if_pos (by omega)]
    · rw [if_neg (by simpa using h2), if_neg (by omega), if_neg (by omega), if_neg (by omega)]; congr 1; omega
  · rw [if_neg h1, if_neg (by decide)]
    (repeat' split) <;> (first | rfl | omega | (congr 1; omega))
theorem refsub_eq (k : Nat) (a b : Int) (ha : -9223372036854775808 ≤ a ∧ a ≤ 9223372036854775807) (hb : -9223372036854775808 ≤ b ∧ b ≤ 9223372036854775807) : barrowref01_Sub.f (k + 1) a b = some (satv (a - b)) := by
  unfold barrowref01_Sub.f satv
  simp only [barrowref01_Sub.j0, wrap64]
  by_cases h1 : b < 0
  · rw [if_pos h1]
    by_cases h2 : a > (9223372036854775807 + b + 9223372036854775808) % 18446744073709551616 - 9223372036854775808
    · rw [if_pos (decide_eq_true h2), if_pos (by omega)]
    · rw [if_neg (by simpa using h2), if_neg (by omega), if_neg (by omega), if_neg (by omega)]; congr 1; omega
  · rw [if_neg h1, if_neg (by decide)]
    (repeat' split) <;> (first | rfl | omega | (congr 1; omega))
theorem refmul_eq (a b : Int) (ha : -9223372036854775808 ≤ a ∧ a ≤ 9223372036854775807) (hb : -9223372036854775808 ≤ b ∧ b ≤ 9223372036854775807) : barrowref01_Mul.f a b = some (satv (a * b)) := by
  unfold barrowref01_Mul.f
  rw [if_pos ⟨ha, hb⟩]; rfl
end Go.Proofs.Ytgcbmhihiacgnaa.Pure
