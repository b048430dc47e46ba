/- What sums, differences and products come to: plain numbers. -/
import Derived.Test.YtbhgohomgfjjfaaXCOx3
import Derived.Laws.BitsLemmas
set_option linter.unusedSimpArgs false
namespace Go.Proofs.Ytbhgohomgfjjfaa.Pure
open Go.RowKit Go.Proofs.Ytbhgohomgfjjfaa.XCO Go.Proofs.YtbhgohomgfjjfaaW.PrintWords Go.Proofs.YtbhgohomgfjjfaaW.PrintLast Go.Proofs.YtbhgohomgfjjfaaW.PrintMore

theorem i64_of {a : Int} (h : (Lit.int .i64 a).wf = true) : -9223372036854775808 ≤ a ∧ a ≤ 9223372036854775807 := by
  simp [Lit.wf, IntKind.min, IntKind.max, IntKind.bits, IntKind.signed] at h
  omega
theorem u64_wrap (n : Int) : IntKind.u64.wrap n = n % 18446744073709551616 := by simp [IntKind.wrap, IntKind.bits, IntKind.signed]
def satv (x : Int) : Int := if x > 9223372036854775807 then 9223372036854775807 else if x < -9223372036854775808 then -9223372036854775808 else x
theorem satv_mono {x y : Int} (h : x ≤ y) : satv x ≤ satv y := by unfold satv; (repeat' split) <;> omega
theorem satv_in {x : Int} (h : -9223372036854775808 ≤ x ∧ x ≤ 9223372036854775807) : satv x = x := by unfold satv; (repeat' split) <;> omega

theorem add_eq (k : Nat) (a b : Int) (ha : -9223372036854775808 ≤ a ∧ a ≤ 9223372036854775807) (hb : -9223372036854775808 ≤ b ∧ b ≤ 9223372036854775807) : sat_Add.f (k + 1) a b = some (satv (a + b)) := by
  unfold sat_Add.f satv
  simp only [sat_Add.j0, wrap64]
  split <;> split <;> (try split) <;> simp_all <;> (repeat' split) <;> (first | rfl | omega | (simp; omega) | skip)
theorem sub_eq (k : Nat) (a b : Int) (ha : -9223372036854775808 ≤ a ∧ a ≤ 9223372036854775807) (hb : -9223372036854775808 ≤ b ∧ b ≤ 9223372036854775807) : sat_Sub.f (k + 1) a b = some (satv (a - b)) := by
  unfold sat_Sub.f satv
  simp only [sat_Sub.j0, wrap64]
  split <;> split <;> (try split) <;> simp_all <;> (repeat' split) <;> (first | rfl | omega | (simp; omega) | skip)

end Go.Proofs.Ytbhgohomgfjjfaa.Pure
