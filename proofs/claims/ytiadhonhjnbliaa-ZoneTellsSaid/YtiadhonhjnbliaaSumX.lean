/- What sums, differences and products come to: plain numbers. -/
import Derived.Test.YtiadhonhjnbliaaXZTx4
import Derived.Test.YtiadhonhjnbliaaXZTx5
import Derived.Laws.BitsLemmas
set_option linter.unusedSimpArgs false
namespace Go.Proofs.Ytiadhonhjnbliaa.Pure
open Go.RowKit Go.Proofs.Ytiadhonhjnbliaa.XZT Go.Proofs.YtiadhonhjnbliaaW.PrintWords Go.Proofs.YtiadhonhjnbliaaW.PrintLast Go.Proofs.YtiadhonhjnbliaaW.PrintMore

theorem i64_of {a : Int} (h : (Lit.int .i64 a).wf = true) : -9223372036854775808 ≤ a ∧ a ≤ 9223372036854775807 := by
  simp [Lit.wf, IntKind.min, IntKind.max, IntKind.bits, IntKind.signed] at h
  omega
theorem u64_wrap (n : Int) : IntKind.u64.wrap n = n % 18446744073709551616 := by simp [IntKind.wrap, IntKind.bits, IntKind.signed]
def satv (x : Int) : Int := if x > 9223372036854775807 then 9223372036854775807 else if x < -9223372036854775808 then -9223372036854775808 else x
theorem satv_mono {x y : Int} (h : x ≤ y) : satv x ≤ satv y := by unfold satv; (repeat' split) <;> omega
theorem satv_in {x : Int} (h : -9223372036854775808 ≤ x ∧ x ≤ 9223372036854775807) : satv x = x := by unfold satv; (repeat' split) <;> omega

theorem add_eq (k : Nat) (a b : Int) (ha : -9223372036854775808 ≤ a ∧ a ≤ 9223372036854775807) (hb : -9223372036854775808 ≤ b ∧ b ≤ 9223372036854775807) : sat_Add.f (k + 1) a b = some (satv (a + b)) := by
  unfold sat_Add.f satv
  simp only [sat_Add.j0, wrap64]
  split <;> split <;> (try split) <;> simp_all <;> (repeat' split) <;> (first | rfl | omega | (simp; omega) | skip)
theorem sub_eq (k : Nat) (a b : Int) (ha : -9223372036854775808 ≤ a ∧ a ≤ 9223372036854775807) (hb : -9223372036854775808 ≤ b ∧ b ≤ 9223372036854775807) : sat_Sub.f (k + 1) a b = some (satv (a - b)) := by
  unfold sat_Sub.f satv
  simp only [sat_Sub.j0, wrap64]
  split <;> split <;> (try split) <;> simp_all <;> (repeat' split) <;> (first | rfl | omega | (simp; omega) | skip)

theorem and32 (x : Int) (h0 : 0 ≤ x) (h1 : x < 18446744073709551616) : Go.bits .and .u64 x 4294967295 = x % 4294967296 :=
  bits_mask .u64 64 (by decide) (fun n h0 h1 => by rw [u64_wrap]; omega) 32 (by decide) x h0 h1
theorem mul64_eq (x y : Int) (hx : 0 ≤ x ∧ x < 18446744073709551616) (hy : 0 ≤ y ∧ y < 18446744073709551616) : bits_Mul64.f x y = some (x * y / 18446744073709551616, x * y % 18446744073709551616) := by
  unfold bits_Mul64.f
  rw [and32 x hx.1 hx.2, and32 y hy.1 hy.2]
  simp only [u64_wrap]
  obtain ⟨x1, hx1⟩ : ∃ q, x / 4294967296 = q := ⟨_, rfl⟩
  obtain ⟨x0, hx0⟩ : ∃ q, x % 4294967296 = q := ⟨_, rfl⟩
  obtain ⟨y1, hy1⟩ : ∃ q, y / 4294967296 = q := ⟨_, rfl⟩
  obtain ⟨y0, hy0⟩ : ∃ q, y % 4294967296 = q := ⟨_, rfl⟩
  have ex : x = x1 * 4294967296 + x0 := by omega
  have ey : y = y1 * 4294967296 + y0 := by omega
  rw [hx1, hx0, hy1, hy0]
  have b0 : 0 ≤ x0 ∧ x0 ≤ 4294967295 := by omega
  have b1 : 0 ≤ x1 ∧ x1 ≤ 4294967295 := by omega
  have c0 : 0 ≤ y0 ∧ y0 ≤ 4294967295 := by omega
  have c1 : 0 ≤ y1 ∧ y1 ≤ 4294967295 := by omega
  have bd : ∀ p q : Int, 0 ≤ p → p ≤ 4294967295 → 0 ≤ q → q ≤ 4294967295 → 0 ≤ p * q ∧ p * q ≤ 18446744065119617025 := fun p q h1 h2 h3 h4 =>
    ⟨Int.mul_nonneg h1 h3, by have := Int.mul_le_mul h2 h4 h3 (by decide : (0 : Int) ≤ 4294967295); omega⟩
  have e : x * y = x1 * y1 * 18446744073709551616 + (x1 * y0 + x0 * y1) * 4294967296 + x0 * y0 := by
    rw [ex, ey, Int.add_mul, Int.mul_add, Int.mul_add]
    have r1 : x1 * 4294967296 * (y1 * 4294967296) = x1 * y1 * 18446744073709551616 := by
      rw [Int.mul_assoc, Int.mul_left_comm 4294967296 y1 4294967296, ← Int.mul_assoc]; rfl
    have r2 : x1 * 4294967296 * y0 = x1 * y0 * 4294967296 := by rw [Int.mul_assoc, Int.mul_comm 4294967296 y0, ← Int.mul_assoc]
    have r3 : x0 * (y1 * 4294967296) = x0 * y1 * 4294967296 := by rw [← Int.mul_assoc]
    rw [r1, r2, r3]; omega
  have d00 := bd x0 y0 b0.1 b0.2 c0.1 c0.2
  have d10 := bd x1 y0 b1.1 b1.2 c0.1 c0.2
  have d01 := bd x0 y1 b0.1 b0.2 c1.1 c1.2
  have d11 := bd x1 y1 b1.1 b1.2 c1.1 c1.2
  rw [e]
  generalize x0 * y0 = p00 at *
  generalize x1 * y0 = p10 at *
  generalize x0 * y1 = p01 at *
  generalize x1 * y1 = p11 at *
  clear bd hx hy hx1 hx0 hy1 hy0 ex ey b0 b1 c0 c1 e
  congr 2
  have hm : ((p10 + p00 / 4294967296) % 18446744073709551616) = p10 + p00 / 4294967296 := by omega
  rw [Int.emod_eq_of_lt d00.1 (by omega), Int.emod_eq_of_lt d10.1 (by omega), Int.emod_eq_of_lt d11.1 (by omega), Int.emod_eq_of_lt d01.1 (by omega), hm]
  have a32 : ∀ z : Int, 0 ≤ z → z < 18446744073709551616 → Go.bits .and .u64 z 4294967295 = z % 4294967296 := and32
  rw [a32 _ (by omega) (by omega)]
  omega
theorem size_eq (a : Int) (ha : -9223372036854775808 ≤ a ∧ a ≤ 9223372036854775807) : sat_size.f a = some (if a < 0 then -a else a) := by
  unfold sat_size.f
  simp only [u64_wrap]
  split <;> congr 1 <;> omega
theorem size_max : sat_size.f 9223372036854775807 = some 9223372036854775807 := by rw [size_eq _ (by omega)]; rfl
theorem size_min : sat_size.f (-9223372036854775808) = some 9223372036854775808 := by rw [size_eq _ (by omega)]; rfl
theorem mul_eq (a b : Int) (ha : -9223372036854775808 ≤ a ∧ a ≤ 9223372036854775807) (hb : -9223372036854775808 ≤ b ∧ b ≤ 9223372036854775807) : sat_Mul.f a b = some (satv (a * b)) := by
  unfold sat_Mul.f
  rw [size_eq a ha, size_eq b hb, size_max, size_min]
  simp only [Option.bind_some]
  obtain ⟨x, hx⟩ : ∃ q, (if a < 0 then -a else a) = q := ⟨_, rfl⟩
  obtain ⟨y, hy⟩ : ∃ q, (if b < 0 then -b else b) = q := ⟨_, rfl⟩
  rw [hx, hy]
  have x0 : 0 ≤ x ∧ x ≤ 9223372036854775808 := by rw [← hx]; split <;> omega
  have y0 : 0 ≤ y ∧ y ≤ 9223372036854775808 := by rw [← hy]; split <;> omega
  rw [mul64_eq x y (by omega) (by omega)]
  simp only [Option.bind_some]
  have hp : 0 ≤ x * y := Int.mul_nonneg x0.1 y0.1
  have e : a * b = if ((decide (a < 0)) != (decide (b < 0))) = true then -(x * y) else x * y := by
    by_cases h1 : a < 0 <;> by_cases h2 : b < 0
    · rw [if_pos h1] at hx; rw [if_pos h2] at hy; simp [h1, h2, ← hx, ← hy, Int.neg_mul, Int.mul_neg]
    · rw [if_pos h1] at hx; rw [if_neg h2] at hy; simp [h1, h2, ← hx, ← hy, Int.neg_mul, Int.mul_neg]
    · rw [if_neg h1] at hx; rw [if_pos h2] at hy; simp [h1, h2, ← hx, ← hy, Int.neg_mul, Int.mul_neg]
    · rw [if_neg h1] at hx; rw [if_neg h2] at hy; simp [h1, h2, ← hx, ← hy, Int.neg_mul, Int.mul_neg]
  rw [e]
  clear e hx hy x0 y0 ha hb
  generalize x * y = p at *
  generalize ((decide (a < 0)) != (decide (b < 0))) = s at *
  have e1 : sat_end.f true = some (-9223372036854775808) := rfl
  have e2 : sat_end.f false = some 9223372036854775807 := rfl
  cases s
  · simp only [e2, Option.bind_some, wrap64, Bool.false_eq_true, if_false]
    unfold satv
    (repeat' split) <;> (first | rfl | omega | (congr 1; omega))
  · simp only [e1, Option.bind_some, u64_wrap, wrap64, if_true]
    unfold satv
    (repeat' split) <;> (first | rfl | omega | (congr 1; omega))

end Go.Proofs.Ytiadhonhjnbliaa.Pure
