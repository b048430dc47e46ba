/- What sums, differences, products, parts and roots come to: plain numbers. -/
import Derived.Test.YtgffgmkfafdjjaaXSatRx
import Derived.Laws.BitsLemmas
set_option linter.unusedSimpArgs false
namespace Go.Proofs.Ytgffgmkfafdjjaa.PureR
open Go.RowKit Go.Proofs.Ytgffgmkfafdjjaa.XSatR Go.Proofs.YtgffgmkfafdjjaaW.PrintWords Go.Proofs.YtgffgmkfafdjjaaW.PrintLast Go.Proofs.YtgffgmkfafdjjaaW.PrintMore

theorem i64_of {a : Int} (h : (Lit.int .i64 a).wf = true) : -9223372036854775808 ≤ a ∧ a ≤ 9223372036854775807 := by
  simp [Lit.wf, IntKind.min, IntKind.max, IntKind.bits, IntKind.signed] at h
  omega
theorem u64_wrap (n : Int) : IntKind.u64.wrap n = n % 18446744073709551616 := by simp [IntKind.wrap, IntKind.bits, IntKind.signed]
def satv (x : Int) : Int := if x > 9223372036854775807 then 9223372036854775807 else if x < -9223372036854775808 then -9223372036854775808 else x
theorem satv_mono {x y : Int} (h : x ≤ y) : satv x ≤ satv y := by unfold satv; (repeat' split) <;> omega
theorem satv_in {x : Int} (h : -9223372036854775808 ≤ x ∧ x ≤ 9223372036854775807) : satv x = x := by unfold satv; (repeat' split) <;> omega

theorem add_eq (k : Nat) (a b : Int) (ha : -9223372036854775808 ≤ a ∧ a ≤ 9223372036854775807) (hb : -9223372036854775808 ≤ b ∧ b ≤ 9223372036854775807) : sat_Add.f (k + 1) a b = some (satv (a + b)) := by
  unfold sat_Add.f satv
  simp only [sat_Add.j0, wrap64]
  split <;> split <;> (try split) <;> simp_all <;> (repeat' split) <;> (first | rfl | omega | (simp; omega) | skip)
theorem sub_eq (k : Nat) (a b : Int) (ha : -9223372036854775808 ≤ a ∧ a ≤ 9223372036854775807) (hb : -9223372036854775808 ≤ b ∧ b ≤ 9223372036854775807) : sat_Sub.f (k + 1) a b = some (satv (a - b)) := by
  unfold sat_Sub.f satv
  simp only [sat_Sub.j0, wrap64]
  split <;> split <;> (try split) <;> simp_all <;> (repeat' split) <;> (first | rfl | omega | (simp; omega) | skip)

theorem and32 (x : Int) (h0 : 0 ≤ x) (h1 : x < 18446744073709551616) : Go.bits .and .u64 x 4294967295 = x % 4294967296 :=
  bits_mask .u64 64 (by decide) (fun n h0 h1 => by rw [u64_wrap]; omega) 32 (by decide) x h0 h1
theorem mul64_eq (x y : Int) (hx : 0 ≤ x ∧ x < 18446744073709551616) (hy : 0 ≤ y ∧ y < 18446744073709551616) : bits_Mul64.f x y = some (x * y / 18446744073709551616, x * y % 18446744073709551616) := by
  unfold bits_Mul64.f
  rw [and32 x hx.1 hx.2, and32 y hy.1 hy.2]
  simp only [u64_wrap]
  obtain ⟨x1, hx1⟩ : ∃ q, x / 4294967296 = q := ⟨_, rfl⟩
  obtain ⟨x0, hx0⟩ : ∃ q, x % 4294967296 = q := ⟨_, rfl⟩
  obtain ⟨y1, hy1⟩ : ∃ q, y / 4294967296 = q := ⟨_, rfl⟩
  obtain ⟨y0, hy0⟩ : ∃ q, y % 4294967296 = q := ⟨_, rfl⟩
  have ex : x = x1 * 4294967296 + x0 := by omega
  have ey : y = y1 * 4294967296 + y0 := by omega
  rw [hx1, hx0, hy1, hy0]
  have b0 : 0 ≤ x0 ∧ x0 ≤ 4294967295 := by omega
  have b1 : 0 ≤ x1 ∧ x1 ≤ 4294967295 := by omega
  have c0 : 0 ≤ y0 ∧ y0 ≤ 4294967295 := by omega
  have c1 : 0 ≤ y1 ∧ y1 ≤ 4294967295 := by omega
  have bd : ∀ p q : Int, 0 ≤ p → p ≤ 4294967295 → 0 ≤ q → q ≤ 4294967295 → 0 ≤ p * q ∧ p * q ≤ 18446744065119617025 := fun p q h1 h2 h3 h4 =>
    ⟨Int.mul_nonneg h1 h3, by have := Int.mul_le_mul h2 h4 h3 (by decide : (0 : Int) ≤ 4294967295); omega⟩
  have e : x * y = x1 * y1 * 18446744073709551616 + (x1 * y0 + x0 * y1) * 4294967296 + x0 * y0 := by
    rw [ex, ey, Int.add_mul, Int.mul_add, Int.mul_add]
    have r1 : x1 * 4294967296 * (y1 * 4294967296) = x1 * y1 * 18446744073709551616 := by
      rw [Int.mul_assoc, Int.mul_left_comm 4294967296 y1 4294967296, ← Int.mul_assoc]; rfl
    have r2 : x1 * 4294967296 * y0 = x1 * y0 * 4294967296 := by rw [Int.mul_assoc, Int.mul_comm 4294967296 y0, ← Int.mul_assoc]
    have r3 : x0 * (y1 * 4294967296) = x0 * y1 * 4294967296 := by rw [← Int.mul_assoc]
    rw [r1, r2, r3]; omega
  have d00 := bd x0 y0 b0.1 b0.2 c0.1 c0.2
  have d10 := bd x1 y0 b1.1 b1.2 c0.1 c0.2
  have d01 := bd x0 y1 b0.1 b0.2 c1.1 c1.2
  have d11 := bd x1 y1 b1.1 b1.2 c1.1 c1.2
  rw [e]
  generalize x0 * y0 = p00 at *
  generalize x1 * y0 = p10 at *
  generalize x0 * y1 = p01 at *
  generalize x1 * y1 = p11 at *
  clear bd hx hy hx1 hx0 hy1 hy0 ex ey b0 b1 c0 c1 e
  congr 2
  have hm : ((p10 + p00 / 4294967296) % 18446744073709551616) = p10 + p00 / 4294967296 := by omega
  rw [Int.emod_eq_of_lt d00.1 (by omega), Int.emod_eq_of_lt d10.1 (by omega), Int.emod_eq_of_lt d11.1 (by omega), Int.emod_eq_of_lt d01.1 (by omega), hm]
  have a32 : ∀ z : Int, 0 ≤ z → z < 18446744073709551616 → Go.bits .and .u64 z 4294967295 = z % 4294967296 := and32
  rw [a32 _ (by omega) (by omega)]
  omega
theorem size_eq (a : Int) (ha : -9223372036854775808 ≤ a ∧ a ≤ 9223372036854775807) : sat_size.f a = some (if a < 0 then -a else a) := by
  unfold sat_size.f
  simp only [u64_wrap]
  split <;> congr 1 <;> omega
theorem size_max : sat_size.f 9223372036854775807 = some 9223372036854775807 := by rw [size_eq _ (by omega)]; rfl
theorem size_min : sat_size.f (-9223372036854775808) = some 9223372036854775808 := by rw [size_eq _ (by omega)]; rfl
theorem mul_eq (a b : Int) (ha : -9223372036854775808 ≤ a ∧ a ≤ 9223372036854775807) (hb : -9223372036854775808 ≤ b ∧ b ≤ 9223372036854775807) : sat_Mul.f a b = some (satv (a * b)) := by
  unfold sat_Mul.f
  rw [size_eq a ha, size_eq b hb, size_max, size_min]
  simp only [Option.bind_some]
  obtain ⟨x, hx⟩ : ∃ q, (if a < 0 then -a else a) = q := ⟨_, rfl⟩
  obtain ⟨y, hy⟩ : ∃ q, (if b < 0 then -b else b) = q := ⟨_, rfl⟩
  rw [hx, hy]
  have x0 : 0 ≤ x ∧ x ≤ 9223372036854775808 := by rw [← hx]; split <;> omega
  have y0 : 0 ≤ y ∧ y ≤ 9223372036854775808 := by rw [← hy]; split <;> omega
  rw [mul64_eq x y (by omega) (by omega)]
  simp only [Option.bind_some]
  have hp : 0 ≤ x * y := Int.mul_nonneg x0.1 y0.1
  have e : a * b = if ((decide (a < 0)) != (decide (b < 0))) = true then -(x * y) else x * y := by
    by_cases h1 : a < 0 <;> by_cases h2 : b < 0
    · rw [if_pos h1] at hx; rw [if_pos h2] at hy; simp [h1, h2, ← hx, ← hy, Int.neg_mul, Int.mul_neg]
    · rw [if_pos h1] at hx; rw [if_neg h2] at hy; simp [h1, h2, ← hx, ← hy, Int.neg_mul, Int.mul_neg]
    · rw [if_neg h1] at hx; rw [if_pos h2] at hy; simp [h1, h2, ← hx, ← hy, Int.neg_mul, Int.mul_neg]
    · rw [if_neg h1] at hx; rw [if_neg h2] at hy; simp [h1, h2, ← hx, ← hy, Int.neg_mul, Int.mul_neg]
  rw [e]
  clear e hx hy x0 y0 ha hb
  generalize x * y = p at *
  generalize ((decide (a < 0)) != (decide (b < 0))) = s at *
  have e1 : sat_end.f true = some (-9223372036854775808) := rfl
  have e2 : sat_end.f false = some 9223372036854775807 := rfl
  cases s
  · simp only [e2, Option.bind_some, wrap64, Bool.false_eq_true, if_false]
    unfold satv
    (repeat' split) <;> (first | rfl | omega | (congr 1; omega))
  · simp only [e1, Option.bind_some, u64_wrap, wrap64, if_true]
    unfold satv
    (repeat' split) <;> (first | rfl | omega | (congr 1; omega))

def clampv (a lo hi : Int) : Int := if lo > hi ∨ a < lo then lo else if a > hi then hi else a
theorem clamp_eq (a lo hi : Int) : sat_Clamp.f a lo hi = some (clampv a lo hi) := by
  unfold sat_Clamp.f clampv mx mn
  congr 1
  (repeat' split) <;> omega
def partv (a num den : Int) : Int := if den < 1 then 0 else wrap64 (Int.tdiv (wrap64 (clampv a (-2147483647) 2147483647 * clampv num (-2147483647) 2147483647)) den)
theorem part_eq (a num den : Int) : sat_Part.f a num den = some (partv a num den) := by
  unfold sat_Part.f sat_Part_1.f partv
  simp only [clamp_eq, Option.bind_some]
  split
  · rfl
  · rw [if_neg (by omega)]

/-- r is the root of n, rounded down; 0 below 1. -/
def IsRoot (n r : Int) : Prop := 0 ≤ r ∧ (n ≤ 0 → r = 0) ∧ (0 < n → r * r ≤ n ∧ n < (r + 1) * (r + 1))
theorem root_unique {n r s : Int} (hr : IsRoot n r) (hs : IsRoot n s) : r = s := by
  by_cases hn : n ≤ 0
  · rw [hr.2.1 hn, hs.2.1 hn]
  · have h1 := hr.2.2 (by omega)
    have h2 := hs.2.2 (by omega)
    have key : ∀ x y : Int, 0 ≤ x → 0 ≤ y → x * x ≤ n → n < (y + 1) * (y + 1) → x ≤ y := fun x y hx hy h3 h4 => by
      refine Int.not_lt.1 fun hlt => ?_
      have : (y + 1) * (y + 1) ≤ x * x := Int.mul_le_mul (by omega) (by omega) (by omega) hx
      omega
    exact Int.le_antisymm (key _ _ hr.1 hs.1 h1.1 h2.2) (key _ _ hs.1 hr.1 h2.1 h1.2)
theorem root_loop (n : Int) (hn : -9223372036854775808 ≤ n ∧ n ≤ 9223372036854775807) (m : Nat) : ∀ (k : Nat) (j root : Int), j = 32 - (m : Int) → 0 ≤ j → m < k → 0 ≤ root → root % 2 ^ m = 0 → root + 2 ^ m ≤ 4294967296 → (n ≤ 0 → root = 0) → (0 < n → root * root ≤ n ∧ n < (root + 2 ^ m) * (root + 2 ^ m)) →
    ∃ r, sat_Root.l0 k n root j = some r ∧ IsRoot n r := by
  induction m with
  | zero =>
    intro k j root hj hj0 hk h0 hd hb hz hs
    obtain ⟨k, rfl⟩ : ∃ m, k = m + 1 := ⟨k - 1, by omega⟩
    refine ⟨root, ?_, h0, hz, hs⟩
    simp only [sat_Root.l0]
    rw [if_neg (by omega)]
  | succ m ih =>
    intro k j root hj hj0 hk h0 hd hb hz hs
    obtain ⟨k, rfl⟩ : ∃ m, k = m + 1 := ⟨k - 1, by omega⟩
    have hp : (0 : Int) < 2 ^ m := Int.pow_pos (by decide)
    have hp2 : (2 : Int) ^ (m + 1) = 2 * 2 ^ m := by rw [Int.pow_succ]; omega
    have hm : m ≤ 31 := by omega
    have hj1 : wrap64 (31 - j) = (m : Int) := by unfold wrap64; omega
    have hsh : shl .i64 1 (m : Int) = 2 ^ m := by
      unfold shl
      rw [show min (m : Int).toNat IntKind.i64.bits = m by simp [IntKind.bits]; omega, IntKind.wrap_i64, Int.one_mul]
      rw [hp2] at hb
      omega
    have hor : Go.bits .or .i64 root (2 ^ m) = root + 2 ^ m := by
      refine bits_join .i64 62 (by decide) (fun n h0 h1 => by rw [IntKind.wrap_i64]; omega) (m + 1) root (2 ^ m) h0 hd ?_ (by omega) (by omega) ?_ <;> omega
    have hj2 : wrap64 (j + 1) = j + 1 := by unfold wrap64; omega
    simp only [sat_Root.l0]
    rw [if_pos (by omega), hj1, if_pos (by omega), hsh, hor, if_neg (by omega), hj2]
    have hdm : root % 2 ^ m = 0 := by
      rw [← Int.emod_emod_of_dvd root (⟨2, by rw [hp2]; omega⟩ : (2 : Int) ^ m ∣ 2 ^ (m + 1)), hd]; rfl
    by_cases hn0 : n ≤ 0
    · have hr := hz hn0
      subst hr
      have ht : Int.tdiv n (0 + 2 ^ m) ≤ 0 ∧ n ≤ Int.tdiv n (0 + 2 ^ m) := by
        have := Int.neg_tdiv (a := -n) (b := 0 + 2 ^ m)
        rw [Int.neg_neg] at this
        rw [this, Int.tdiv_eq_ediv_of_nonneg (by omega)]
        have h1 : 0 ≤ -n / (0 + 2 ^ m) := Int.ediv_nonneg (by omega) (by omega)
        have h2 : -n / (0 + 2 ^ m) ≤ -n := Int.ediv_le_self _ (by omega)
        omega
      rw [if_neg (by unfold wrap64; omega)]
      exact ih k (j + 1) 0 (by omega) (by omega) (by omega) (by omega) (by simp) (by omega) (fun _ => rfl) (fun h => by omega)
    · have hs' := hs (by omega)
      have ht : wrap64 (Int.tdiv n (root + 2 ^ m)) = n / (root + 2 ^ m) := by
        rw [Int.tdiv_eq_ediv_of_nonneg (by omega)]
        have h1 : 0 ≤ n / (root + 2 ^ m) := Int.ediv_nonneg (by omega) (by omega)
        have h2 : n / (root + 2 ^ m) ≤ n := Int.ediv_le_self _ (by omega)
        unfold wrap64
        omega
      rw [ht]
      by_cases hc : root + 2 ^ m ≤ n / (root + 2 ^ m)
      · rw [if_pos hc]
        have := (Int.le_ediv_iff_mul_le (by omega)).1 hc
        refine ih k (j + 1) (root + 2 ^ m) (by omega) (by omega) (by omega) (by omega) ?_ (by omega) (fun h => by omega) (fun _ => ⟨this, ?_⟩)
        · rw [Int.add_emod, hdm]; simp
        · rw [show root + 2 ^ m + 2 ^ m = root + 2 ^ (m + 1) by rw [hp2]; omega]; exact hs'.2
      · rw [if_neg hc]
        have : ¬ (root + 2 ^ m) * (root + 2 ^ m) ≤ n := fun h => hc ((Int.le_ediv_iff_mul_le (by omega)).2 h)
        exact ih k (j + 1) root (by omega) (by omega) (by omega) h0 hdm (by omega) hz (fun _ => ⟨hs'.1, by omega⟩)
theorem root_eq (n : Int) (hn : -9223372036854775808 ≤ n ∧ n ≤ 9223372036854775807) (k : Nat) (hk : 32 < k) : ∃ r, sat_Root.f k n = some r ∧ IsRoot n r :=
  root_loop n hn 32 k 0 0 (by decide) (by decide) hk (by decide) (by decide) (by decide) (fun _ => rfl) (fun h => ⟨by omega, by
    have : ((0 : Int) + 2 ^ 32) * (0 + 2 ^ 32) = 18446744073709551616 := by decide
    rw [this]; omega⟩)
theorem small_eq : barrowlaw01_small.f 100 = some true := by
  decide +kernel
end Go.Proofs.Ytgffgmkfafdjjaa.PureR
