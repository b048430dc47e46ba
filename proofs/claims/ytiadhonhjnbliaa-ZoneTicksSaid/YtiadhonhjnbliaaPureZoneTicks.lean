/- What sums, differences and products come to: plain numbers. Zone: what one zone does with one being in one beat of the clock. Zone: what lies in a shape: the program's answer and the document's are one. Zone: one beat of the clock, for any zones and beings: the program and the document. ZoneTicks, in plain Lean. -/
import Derived.Test.YtiadhonhjnbliaaXZNx4
import Derived.Test.YtiadhonhjnbliaaXZNx5
import Derived.Laws.BitsLemmas
import Derived.Test.YtiadhonhjnbliaaXZNx5
import Derived.Test.YtiadhonhjnbliaaXZNx7
import Derived.Test.YtiadhonhjnbliaaXZNx4
import Derived.Test.YtiadhonhjnbliaaXZNx12
import Derived.Test.YtiadhonhjnbliaaXZNx9
import Derived.Test.YtiadhonhjnbliaaXZNx11
import Derived.Test.YtiadhonhjnbliaaXZNx10
import Derived.Test.YtiadhonhjnbliaaXZNx8
import Derived.Test.YtiadhonhjnbliaaXZNx25
import Derived.Test.YtiadhonhjnbliaaXZNx26
import Derived.Test.YtiadhonhjnbliaaXZNx7
import Derived.Test.YtiadhonhjnbliaaXZNx6
import Derived.Test.YtiadhonhjnbliaaXZNx17
import Derived.Test.YtiadhonhjnbliaaXZNx16
import Derived.Test.YtiadhonhjnbliaaXZNx15
import Derived.Test.YtiadhonhjnbliaaXZNx19
import Derived.Test.YtiadhonhjnbliaaXZNx20
import Derived.Test.YtiadhonhjnbliaaXZNx10
import Derived.Test.YtiadhonhjnbliaaXZNx18
import Derived.Test.YtiadhonhjnbliaaXZNx27
set_option linter.unusedSimpArgs false
set_option linter.unusedVariables false
set_option linter.unusedSectionVars false
namespace Go.Proofs.Ytiadhonhjnbliaa.Pure
open Go.RowKit Go.Proofs.Ytiadhonhjnbliaa.XZN Go.Proofs.YtiadhonhjnbliaaW.PrintWords Go.Proofs.YtiadhonhjnbliaaW.PrintLast Go.Proofs.YtiadhonhjnbliaaW.PrintMore

theorem i64_of {a : Int} (h : (Lit.int .i64 a).wf = true) : -9223372036854775808 ≤ a ∧ a ≤ 9223372036854775807 := by
  simp [Lit.wf, IntKind.min, IntKind.max, IntKind.bits, IntKind.signed] at h
  omega
theorem u64_wrap (n : Int) : IntKind.u64.wrap n = n % 18446744073709551616 := by simp [IntKind.wrap, IntKind.bits, IntKind.signed]
def satv (x : Int) : Int := if x > 9223372036854775807 then 9223372036854775807 else if x < -9223372036854775808 then -9223372036854775808 else x
theorem satv_mono {x y : Int} (h : x ≤ y) : satv x ≤ satv y := by unfold satv; (repeat' split) <;> omega
theorem satv_in {x : Int} (h : -9223372036854775808 ≤ x ∧ x ≤ 9223372036854775807) : satv x = x := by unfold satv; (repeat' split) <;> omega

theorem add_eq (k : Nat) (a b : Int) (ha : -9223372036854775808 ≤ a ∧ a ≤ 9223372036854775807) (hb : -9223372036854775808 ≤ b ∧ b ≤ 9223372036854775807) : sat_Add.f (k + 1) a b = some (satv (a + b)) := by
  unfold sat_Add.f satv
  simp only [sat_Add.j0, wrap64]
  split <;> split <;> (try split) <;> simp_all <;> (repeat' split) <;> (first | rfl | omega | (simp; omega) | skip)
theorem sub_eq (k : Nat) (a b : Int) (ha : -9223372036854775808 ≤ a ∧ a ≤ 9223372036854775807) (hb : -9223372036854775808 ≤ b ∧ b ≤ 9223372036854775807) : sat_Sub.f (k + 1) a b = some (satv (a - b)) := by
  unfold sat_Sub.f satv
  simp only [sat_Sub.j0, wrap64]
  split <;> split <;> (try split) <;> simp_all <;> (repeat' split) <;> (first | rfl | omega | (simp; omega) | skip)

theorem and32 (x : Int) (h0 : 0 ≤ x) (h1 : x < 18446744073709551616) : Go.bits .and .u64 x 4294967295 = x % 4294967296 :=
  bits_mask .u64 64 (by decide) (fun n h0 h1 => by rw [u64_wrap]; omega) 32 (by decide) x h0 h1
theorem mul64_eq (x y : Int) (hx : 0 ≤ x ∧ x < 18446744073709551616) (hy : 0 ≤ y ∧ y < 18446744073709551616) : bits_Mul64.f x y = some (x * y / 18446744073709551616, x * y % 18446744073709551616) := by
  unfold bits_Mul64.f
  rw [and32 x hx.1 hx.2, and32 y hy.1 hy.2]
  simp only [u64_wrap]
  obtain ⟨x1, hx1⟩ : ∃ q, x / 4294967296 = q := ⟨_, rfl⟩
  obtain ⟨x0, hx0⟩ : ∃ q, x % 4294967296 = q := ⟨_, rfl⟩
  obtain ⟨y1, hy1⟩ : ∃ q, y / 4294967296 = q := ⟨_, rfl⟩
  obtain ⟨y0, hy0⟩ : ∃ q, y % 4294967296 = q := ⟨_, rfl⟩
  have ex : x = x1 * 4294967296 + x0 := by omega
  have ey : y = y1 * 4294967296 + y0 := by omega
  rw [hx1, hx0, hy1, hy0]
  have b0 : 0 ≤ x0 ∧ x0 ≤ 4294967295 := by omega
  have b1 : 0 ≤ x1 ∧ x1 ≤ 4294967295 := by omega
  have c0 : 0 ≤ y0 ∧ y0 ≤ 4294967295 := by omega
  have c1 : 0 ≤ y1 ∧ y1 ≤ 4294967295 := by omega
  have bd : ∀ p q : Int, 0 ≤ p → p ≤ 4294967295 → 0 ≤ q → q ≤ 4294967295 → 0 ≤ p * q ∧ p * q ≤ 18446744065119617025 := fun p q h1 h2 h3 h4 =>
    ⟨Int.mul_nonneg h1 h3, by have := Int.mul_le_mul h2 h4 h3 (by decide : (0 : Int) ≤ 4294967295); omega⟩
  have e : x * y = x1 * y1 * 18446744073709551616 + (x1 * y0 + x0 * y1) * 4294967296 + x0 * y0 := by
    rw [ex, ey, Int.add_mul, Int.mul_add, Int.mul_add]
    have r1 : x1 * 4294967296 * (y1 * 4294967296) = x1 * y1 * 18446744073709551616 := by
      rw [Int.mul_assoc, Int.mul_left_comm 4294967296 y1 4294967296, ← Int.mul_assoc]; rfl
    have r2 : x1 * 4294967296 * y0 = x1 * y0 * 4294967296 := by rw [Int.mul_assoc, Int.mul_comm 4294967296 y0, ← Int.mul_assoc]
    have r3 : x0 * (y1 * 4294967296) = x0 * y1 * 4294967296 := by rw [← Int.mul_assoc]
    rw [r1, r2, r3]; omega
  have d00 := bd x0 y0 b0.1 b0.2 c0.1 c0.2
  have d10 := bd x1 y0 b1.1 b1.2 c0.1 c0.2
  have d01 := bd x0 y1 b0.1 b0.2 c1.1 c1.2
  have d11 := bd x1 y1 b1.1 b1.2 c1.1 c1.2
  rw [e]
  generalize x0 * y0 = p00 at *
  generalize x1 * y0 = p10 at *
  generalize x0 * y1 = p01 at *
  generalize x1 * y1 = p11 at *
  clear bd hx hy hx1 hx0 hy1 hy0 ex ey b0 b1 c0 c1 e
  congr 2
  have hm : ((p10 + p00 / 4294967296) % 18446744073709551616) = p10 + p00 / 4294967296 := by omega
  rw [Int.emod_eq_of_lt d00.1 (by omega), Int.emod_eq_of_lt d10.1 (by omega), Int.emod_eq_of_lt d11.1 (by omega), Int.emod_eq_of_lt d01.1 (by omega), hm]
  have a32 : ∀ z : Int, 0 ≤ z → z < 18446744073709551616 → Go.bits .and .u64 z 4294967295 = z % 4294967296 := and32
  rw [a32 _ (by omega) (by omega)]
  omega
theorem size_eq (a : Int) (ha : -9223372036854775808 ≤ a ∧ a ≤ 9223372036854775807) : sat_size.f a = some (if a < 0 then -a else a) := by
  unfold sat_size.f
  simp only [u64_wrap]
  split <;> congr 1 <;> omega
theorem size_max : sat_size.f 9223372036854775807 = some 9223372036854775807 := by rw [size_eq _ (by omega)]; rfl
theorem size_min : sat_size.f (-9223372036854775808) = some 9223372036854775808 := by rw [size_eq _ (by omega)]; rfl
theorem mul_eq (a b : Int) (ha : -9223372036854775808 ≤ a ∧ a ≤ 9223372036854775807) (hb : -9223372036854775808 ≤ b ∧ b ≤ 9223372036854775807) : sat_Mul.f a b = some (satv (a * b)) := by
  unfold sat_Mul.f
  rw [size_eq a ha, size_eq b hb, size_max, size_min]
  simp only [Option.bind_some]
  obtain ⟨x, hx⟩ : ∃ q, (if a < 0 then -a else a) = q := ⟨_, rfl⟩
  obtain ⟨y, hy⟩ : ∃ q, (if b < 0 then -b else b) = q := ⟨_, rfl⟩
  rw [hx, hy]
  have x0 : 0 ≤ x ∧ x ≤ 9223372036854775808 := by rw [← hx]; split <;> omega
  have y0 : 0 ≤ y ∧ y ≤ 9223372036854775808 := by rw [← hy]; split <;> omega
  rw [mul64_eq x y (by omega) (by omega)]
  simp only [Option.bind_some]
  have hp : 0 ≤ x * y := Int.mul_nonneg x0.1 y0.1
  have e : a * b = if ((decide (a < 0)) != (decide (b < 0))) = true then -(x * y) else x * y := by
    by_cases h1 : a < 0 <;> by_cases h2 : b < 0
    · rw [if_pos h1] at hx; rw [if_pos h2] at hy; simp [h1, h2, ← hx, ← hy, Int.neg_mul, Int.mul_neg]
    · rw [if_pos h1] at hx; rw [if_neg h2] at hy; simp [h1, h2, ← hx, ← hy, Int.neg_mul, Int.mul_neg]
    · rw [if_neg h1] at hx; rw [if_pos h2] at hy; simp [h1, h2, ← hx, ← hy, Int.neg_mul, Int.mul_neg]
    · rw [if_neg h1] at hx; rw [if_neg h2] at hy; simp [h1, h2, ← hx, ← hy, Int.neg_mul, Int.mul_neg]
  rw [e]
  clear e hx hy x0 y0 ha hb
  generalize x * y = p at *
  generalize ((decide (a < 0)) != (decide (b < 0))) = s at *
  have e1 : sat_end.f true = some (-9223372036854775808) := rfl
  have e2 : sat_end.f false = some 9223372036854775807 := rfl
  cases s
  · simp only [e2, Option.bind_some, wrap64, Bool.false_eq_true, if_false]
    unfold satv
    (repeat' split) <;> (first | rfl | omega | (congr 1; omega))
  · simp only [e1, Option.bind_some, u64_wrap, wrap64, if_true]
    unfold satv
    (repeat' split) <;> (first | rfl | omega | (congr 1; omega))

end Go.Proofs.Ytiadhonhjnbliaa.Pure
namespace Go.Proofs.Ytiadhonhjnbliaa.Pure
open Go.RowKit Go.Proofs.Ytiadhonhjnbliaa.XZN Go.Proofs.YtiadhonhjnbliaaW.PrintWords Go.Proofs.YtiadhonhjnbliaaW.PrintLast

/-- With rounds enough it is so. -/
def Ev (P : Nat → Prop) : Prop := ∃ K, ∀ k, K ≤ k → P k
theorem Ev.of {α : Type} {f : Nat → Option α} (hm : ∀ k, LeO (f k) (f (k + 1))) {K : Nat} {v : α} (h : f K = some v) : Ev (fun k => f k = some v) := by
  refine ⟨K, fun k hk => ?_⟩
  obtain ⟨d, rfl⟩ := Nat.exists_eq_add_of_le hk
  induction d with
  | zero => exact h
  | succ d ih => exact hm _ _ (ih (by omega))
theorem small_ev : Ev (fun k => barrowlaw33_small.f k = some true) := Ev.of barrowlaw33_small.mono (K := 60) (by decide +kernel)
abbrev In64 (a : Int) : Prop := -9223372036854775808 ≤ a ∧ a ≤ 9223372036854775807
theorem mn_min (a b : Int) : mn a b = min a b := by unfold mn; split <;> omega
theorem mx_max (a b : Int) : mx a b = max a b := by unfold mx; split <;> omega
theorem wrap64_in {x : Int} (h : In64 x) : wrap64 x = x := by unfold wrap64; omega
/-- The being stands in the circle. -/
def inc (a : Int) : Bool := decide (-3 ≤ a ∧ a ≤ 3)
theorem near3 (k : Nat) (a : Int) (ha : -256 ≤ a ∧ a ≤ 512) : grid_Near.f (k + 1) 0 0 a 0 3 = some (inc a) := by
  unfold grid_Near.f grid_Square.f grid_far.f
  rw [mx_max, mn_min, mx_max, mn_min, sub_eq k _ _ (by omega) (by omega), sub_eq k _ _ (by omega) (by omega), satv_in (by omega), satv_in (by omega)]
  simp only [Option.bind_some]
  have hm : ∀ d : Int, 0 ≤ d → d ≤ 512 → 0 ≤ d * d ∧ d * d ≤ 262144 := fun d h1 h2 => ⟨Int.mul_nonneg h1 h1, by
    have := Int.mul_le_mul h2 h2 h1 (by decide : (0 : Int) ≤ 512); omega⟩
  have h1 := hm (max 0 a - min 0 a) (by omega) (by omega)
  rw [mul_eq _ _ (by omega) (by omega), mul_eq _ _ (by omega) (by omega), mul_eq 3 3 (by omega) (by omega), satv_in (by omega), satv_in (by omega), satv_in (by omega)]
  simp only [Option.bind_some]
  rw [add_eq k _ _ (by omega) (by omega), satv_in (by omega)]
  simp only [Option.bind_some]
  rw [if_pos (by omega)]
  congr 1
  unfold inc
  rw [decide_eq_decide]
  generalize hd : max 0 a - min 0 a = d at h1
  have h0 : 0 ≤ d := by omega
  rw [show max (0 : Int) 0 - min 0 0 = 0 by omega]
  constructor
  · intro h
    have : ¬ 4 ≤ d := fun h4 => by
      have := Int.mul_le_mul h4 h4 (by omega) h0
      omega
    omega
  · intro h
    have := Int.mul_le_mul (show d ≤ 3 by omega) (show d ≤ 3 by omega) h0 (by omega)
    omega
theorem in_eq (k : Nat) (a : Int) (ha : In64 a) : area_In.f (k + 1) 1 0 0 0 0 3 0 a 0 = some (inc a) := by
  unfold area_In.f
  rw [show area_Right.f 1 0 0 0 0 3 0 = some true from by decide +kernel]
  simp only [Option.bind_some, if_true, area_near.f, area_within.f, area_less.f]
  by_cases h1 : -256 ≤ a
  · rw [if_pos h1]
    by_cases h2 : a ≤ 512
    · rw [decide_eq_true h2]
      simp only [Option.bind_some, if_true]
      rw [if_pos (by omega), decide_eq_true (by omega : (0 : Int) ≤ 512)]
      simp only [Option.bind_some, if_true]
      rw [near3 k a ⟨h1, h2⟩]
      rfl
    · rw [decide_eq_false h2]
      simp only [Option.bind_some, Bool.false_eq_true, if_false]
      congr 1
      symm
      exact decide_eq_false (by omega)
  · rw [if_neg h1]
    simp only [Option.bind_some, Bool.false_eq_true, if_false]
    congr 1
    symm
    exact decide_eq_false (by omega)
def zn (u e n : Int) : S37 := ⟨1, ⟨1, ⟨0, 0⟩, ⟨0, 0⟩, 3, 0⟩, u, e, n, ⟨0, 0, 0⟩, 0, 0⟩
def bd (a : Int) : S44 := ⟨5, 1, 0, 1, 0, 0, 0, ⟨a, 0⟩, 0⟩
/-- One zone, one being, one beat of the clock. -/
theorem tick_eq (k : Nat) (u e n a t : Int) (ha : In64 a) (hn : 0 ≤ n ∧ n ≤ 2000000) (he : 0 ≤ e ∧ e ≤ 100) :
    zone_Tick.f (k + 5) [zn u e n] [bd a] t = some (if u ≤ t then [] else [zn u e (if n ≤ t ∧ n ≤ u then n + e else n)], if (n ≤ t ∧ n ≤ u) ∧ inc a = true then [⟨1, 5⟩] else []) := by
  unfold zone_Tick.f
  have e0 : rd_T37 [zn u e n] 0 = zn u e n := rfl
  have e1 : rd_T44 [bd a] 0 = bd a := rfl
  have w1 : wrap64 (0 + 1) = 1 := by decide +kernel
  have fin : ∀ k z x y, zone_Tick.l0 (k + 1) [zn u e n] z t x y 1 = some (x, y) := by
    intro k z x y
    rw [zone_Tick.l0]
    simp only [List.length_cons, List.length_nil]
    rw [if_neg (by omega)]
  rw [zone_Tick.l0]
  simp only [List.length_cons, List.length_nil, e0]
  rw [if_pos (by omega), if_pos (by omega)]
  simp only [zn, w1]
  by_cases h1 : n ≤ t
  · rw [if_pos h1]
    by_cases h2 : n ≤ u
    · rw [if_pos h2]
      simp only [zone_hits.f, Option.bind_some]
      rw [zone_Tick.l1]
      simp only [List.length_cons, List.length_nil, e1]
      rw [if_pos (by omega), if_pos (by omega)]
      simp only [bd, zone_hits_1_i1.f]
      rw [if_pos (by omega), if_pos trivial, in_eq (k + 2) a ha]
      simp only [Option.bind_some, w1]
      have stop : ∀ y, zone_Tick.l1 (k + 3) [zn u e n] [bd a] t [] 0 1 1 0 0 0 0 3 0 u e n 0 0 0 0 0 y 1 = some (if u ≤ t then [] else [zn u e (n + e)], y) := by
        intro y
        rw [zone_Tick.l1]
        simp only [List.length_cons, List.length_nil, e0]
        rw [if_neg (by omega)]
        simp only [zn]
        rw [add_eq (k + 1) n e (by omega) (by omega), satv_in (by omega)]
        simp only [Option.bind_some, w1]
        by_cases h3 : u ≤ t
        · rw [if_pos h3, if_pos h3]
          exact fin (k + 1) _ _ _
        · rw [if_neg h3, if_neg h3]
          simp only [List.length_cons, List.length_nil, Option.bind_some]
          rw [if_pos (by omega)]
          exact fin (k + 1) _ _ _
      simp only [zn, bd] at stop
      cases hi : inc a
      · simp only [Bool.false_eq_true, if_false, and_false, stop]
        simp only [h1, h2, and_self, if_true]
      · simp only [if_true, List.length_cons, List.length_nil, Option.bind_some, stop, List.nil_append]
        rw [if_pos (by omega)]
        simp only [h1, h2, and_self, if_true]
        rfl
    · rw [if_neg h2]
      have hu : ¬ (n ≤ t ∧ n ≤ u) := fun h => h2 h.2
      by_cases h3 : u ≤ t
      · rw [if_pos h3]
        simp only [if_pos h3, if_neg hu, hu, false_and, if_false]
        exact fin (k + 3) _ _ _
      · rw [if_neg h3]
        simp only [if_neg h3, if_neg hu, hu, false_and, if_false, List.length_cons, List.length_nil, Option.bind_some]
        rw [if_pos (by omega)]
        exact fin (k + 3) _ _ _
  · rw [if_neg h1]
    have hu : ¬ (n ≤ t ∧ n ≤ u) := fun h => h1 h.1
    by_cases h3 : u ≤ t
    · rw [if_pos h3]
      simp only [if_pos h3, if_neg hu, hu, false_and, if_false]
      exact fin (k + 3) _ _ _
    · rw [if_neg h3]
      simp only [if_neg h3, if_neg hu, hu, false_and, if_false, List.length_cons, List.length_nil, Option.bind_some]
      rw [if_pos (by omega)]
      exact fin (k + 3) _ _ _
theorem may_eq (u e n : Int) (he : 1 ≤ e ∧ e ≤ 100) (b c i : Int) : zone_may.f i 1 0 0 0 0 3 0 u e n 0 0 0 0 0 = some true := by
  unfold zone_may.f
  rw [show area_Right.f 1 0 0 0 0 3 0 = some true from by decide +kernel]
  simp only [Option.bind_some, if_true]
  rw [if_pos (by omega), if_pos (by omega), if_pos (by omega), if_pos (by omega)]
theorem right0 (k : Nat) : zone_Right.f (k + 2) [] = some true := by
  unfold zone_Right.f
  rw [zone_Right.l0]
  rfl
theorem right1 (k : Nat) (u e n : Int) (he : 1 ≤ e ∧ e ≤ 100) : zone_Right.f (k + 2) [zn u e n] = some true := by
  unfold zone_Right.f
  have e0 : rd_T37 [zn u e n] 0 = zn u e n := rfl
  rw [zone_Right.l0]
  simp only [List.length_cons, List.length_nil, e0]
  rw [if_pos (by omega), if_pos (by omega), if_neg (show ¬ (zn u e n).f0 ≤ 0 by show ¬ (1 : Int) ≤ 0; omega)]
  simp only [zn]
  rw [may_eq u e n he 0 0]
  simp only [Option.bind_some, if_true, show wrap64 (0 + 1) = 1 from by decide +kernel]
  rw [zone_Right.l0]
  simp only [List.length_cons, List.length_nil]
  rw [if_neg (by omega), if_pos (by omega)]
theorem add_eq1 (k : Nat) (e f l : Int) (he : 1 ≤ e ∧ e ≤ 100) (hf : 0 ≤ f ∧ f ≤ 1048576) (hl : 1 ≤ l ∧ l ≤ 100) : zone_Add.f (k + 5) [] 0 1 0 0 0 0 3 0 0 e 0 0 0 0 0 0 f l = some ([zn (f + l) e (f + e)], 1, 0) := by
  unfold zone_Add.f
  rw [if_neg (by simp), right0 (k + 3)]
  simp only [Option.bind_some, if_true]
  rw [may_eq 0 e 0 he 0 0]
  simp only [Option.bind_some, if_true, List.length_nil]
  rw [if_neg (by omega), if_neg (by omega)]
  (try rw [if_neg (by omega)])
  rw [add_eq (k + 4) f l (by omega) (by omega), add_eq (k + 4) f e (by omega) (by omega), satv_in (by omega), satv_in (by omega), show wrap64 1 = 1 from by decide +kernel]
  simp only [Option.bind_some, api_Zone_30.f, List.length_nil, List.length_cons, List.nil_append]
  rw [if_pos (by omega)]
  simp only [Option.bind_some, List.length_nil, List.length_cons, List.nil_append]
  rw [if_pos (by omega)]
  rfl
end Go.Proofs.Ytiadhonhjnbliaa.Pure
namespace Go.Proofs.Ytiadhonhjnbliaa.Pure
open Go.RowKit Go.Proofs.Ytiadhonhjnbliaa.XZN Go.Proofs.YtiadhonhjnbliaaW.PrintWords Go.Proofs.YtiadhonhjnbliaaW.PrintLast

abbrev Nr (x : Int) : Prop := -256 ≤ x ∧ x ≤ 512
def Rt (kd ax ay bx by_ a b : Int) : Prop := (1 ≤ kd ∧ kd ≤ 5) ∧ (Nr ax ∧ Nr ay) ∧ (Nr bx ∧ Nr by_) ∧ (0 ≤ a ∧ a ≤ 512) ∧ (0 ≤ b ∧ b ≤ 512)
instance (kd ax ay bx by_ a b : Int) : Decidable (Rt kd ax ay bx by_ a b) := by unfold Rt; infer_instance
theorem within_eq (x lo hi : Int) : area_within.f x lo hi = some (decide (lo ≤ x ∧ x ≤ hi)) := by
  unfold area_within.f
  by_cases h : x ≥ lo
  · rw [if_pos h]; congr 1; rw [decide_eq_decide]; omega
  · rw [if_neg h]; congr 1; symm; rw [decide_eq_false_iff_not]; omega
theorem ends_eq (x : Int) : barrowref32_ends.f x = some (decide (Nr x)) := by
  unfold barrowref32_ends.f
  by_cases h : x ≥ -256
  · rw [if_pos h]; congr 1; rw [decide_eq_decide]; omega
  · rw [if_neg h]; congr 1; symm; rw [decide_eq_false_iff_not]; omega
theorem anear_eq (x y : Int) : area_near.f x y = some (decide (Nr x ∧ Nr y)) := by
  unfold area_near.f
  rw [within_eq, within_eq]
  by_cases h1 : Nr x <;> by_cases h2 : Nr y <;> simp [h1, h2]
theorem aright_eq (kd ax ay bx by_ a b : Int) : area_Right.f kd ax ay bx by_ a b = some (decide (Rt kd ax ay bx by_ a b)) := by
  unfold area_Right.f Rt
  rw [within_eq, anear_eq, anear_eq, within_eq, within_eq]
  by_cases h1 : 1 ≤ kd ∧ kd ≤ 5 <;> by_cases h2 : Nr ax ∧ Nr ay <;> by_cases h3 : Nr bx ∧ Nr by_ <;> by_cases h4 : 0 ≤ a ∧ a ≤ 512 <;> simp [h1, h2, h3, h4]
theorem rright32_eq (kd ax ay bx by_ a b : Int) : barrowref32_Right.f kd ax ay bx by_ a b = some (decide (Rt kd ax ay bx by_ a b)) := by
  unfold barrowref32_Right.f Rt
  rw [ends_eq, ends_eq, ends_eq, ends_eq]
  by_cases h1 : 1 ≤ kd
  · by_cases h2 : kd ≤ 5
    · by_cases h3 : Nr ax <;> by_cases h4 : Nr ay <;> by_cases h5 : Nr bx <;> by_cases h6 : Nr by_ <;> by_cases h7 : 0 ≤ a <;> by_cases h8 : a ≤ 512 <;> by_cases h9 : 0 ≤ b <;> simp [h1, h2, h3, h4, h5, h6, h7, h8, h9]
    · simp [h1, h2]
  · simp [h1]
theorem mulb {p q A : Int} (hp : -A ≤ p ∧ p ≤ A) (hq : -A ≤ q ∧ q ≤ A) : -(A * A) ≤ p * q ∧ p * q ≤ A * A := by
  have key : ∀ p q : Int, 0 ≤ p → p ≤ A → 0 ≤ q → q ≤ A → 0 ≤ p * q ∧ p * q ≤ A * A := fun p q h1 h2 h3 h4 =>
    ⟨Int.mul_nonneg h1 h3, Int.mul_le_mul h2 h4 h3 (by omega)⟩
  rcases Int.lt_or_le p 0 with h | h
  · rcases Int.lt_or_le q 0 with h' | h'
    · have := key (-p) (-q) (by omega) (by omega) (by omega) (by omega)
      rw [Int.neg_mul_neg] at this; omega
    · have := key (-p) q (by omega) (by omega) (by omega) (by omega)
      rw [Int.neg_mul] at this; omega
  · rcases Int.lt_or_le q 0 with h' | h'
    · have := key p (-q) (by omega) (by omega) (by omega) (by omega)
      rw [Int.mul_neg] at this; omega
    · have := key p q (by omega) (by omega) (by omega) (by omega)
      omega
theorem m768 {p q : Int} (hp : -768 ≤ p ∧ p ≤ 768) (hq : -768 ≤ q ∧ q ≤ 768) : -589824 ≤ p * q ∧ p * q ≤ 589824 := mulb hp hq
theorem m2M {p q : Int} (hp : -2000000 ≤ p ∧ p ≤ 2000000) (hq : -2000000 ≤ q ∧ q ≤ 2000000) : -4000000000000 ≤ p * q ∧ p * q ≤ 4000000000000 := mulb hp hq
theorem near_small (k : Nat) {ax ay x y r : Int} (h1 : Nr ax) (h2 : Nr ay) (h3 : Nr x) (h4 : Nr y) (hr : 0 ≤ r ∧ r ≤ 512) :
    grid_Near.f (k + 1) ax ay x y r = some (decide ((x - ax) * (x - ax) + (y - ay) * (y - ay) ≤ r * r)) := by
  unfold grid_Near.f grid_Square.f grid_far.f
  have sq : ∀ p q : Int, (max p q - min p q) * (max p q - min p q) = (q - p) * (q - p) := by
    intro p q
    rcases Int.lt_or_le p q with h | h
    · rw [show max p q - min p q = q - p by omega]
    · rw [show max p q - min p q = -(q - p) by omega, Int.neg_mul_neg]
  have b1 := m768 (p := x - ax) (q := x - ax) (by omega) (by omega)
  have b2 := m768 (p := y - ay) (q := y - ay) (by omega) (by omega)
  have b3 := m768 (p := r) (q := r) (by omega) (by omega)
  rw [if_pos (by omega), mx_max, mn_min, mx_max, mn_min, sub_eq k _ _ (by omega) (by omega), sub_eq k _ _ (by omega) (by omega), satv_in (by omega), satv_in (by omega)]
  simp only [Option.bind_some]
  rw [mul_eq _ _ (by omega) (by omega), mul_eq _ _ (by omega) (by omega), mul_eq r r (by omega) (by omega), sq, sq, satv_in (by omega), satv_in (by omega), satv_in (by omega)]
  simp only [Option.bind_some]
  rw [add_eq k _ _ (by omega) (by omega), satv_in (by omega)]
  rfl
theorem sq_zero {p q : Int} : p * p + q * q = 0 ↔ p = 0 ∧ q = 0 := by
  have nn : ∀ z : Int, 0 ≤ z * z := fun z => by
    rcases Int.lt_or_le z 0 with h | h
    · have := Int.mul_nonneg (show 0 ≤ -z by omega) (show 0 ≤ -z by omega)
      rwa [Int.neg_mul_neg] at this
    · exact Int.mul_nonneg h h
  constructor
  · intro h
    have h1 := nn p
    have h2 := nn q
    have e1 : p * p = 0 := by omega
    have e2 : q * q = 0 := by omega
    exact ⟨by simpa using Int.mul_eq_zero.1 e1, by simpa using Int.mul_eq_zero.1 e2⟩
  · rintro ⟨rfl, rfl⟩; rfl
/-- In a shape: one answer. -/
theorem in_same (kd ax ay bx by_ a b x y : Int) : ∃ v, ∀ k, area_In.f (k + 1) kd ax ay bx by_ a b x y = some v ∧ barrowref32_In.f (k + 1) kd ax ay bx by_ a b x y = some v := by
  unfold area_In.f barrowref32_In.f
  rw [aright_eq, rright32_eq, anear_eq, ends_eq, ends_eq]
  by_cases hr : Rt kd ax ay bx by_ a b
  · rw [decide_eq_true hr]
    simp only [Option.bind_some, if_true]
    by_cases hn : Nr x ∧ Nr y
    · rw [decide_eq_true hn, decide_eq_true hn.1, decide_eq_true hn.2]
      obtain ⟨⟨k1, k2⟩, ⟨r1, r2⟩, ⟨r3, r4⟩, ⟨r5, r6⟩, ⟨r7, r8⟩⟩ := hr
      obtain ⟨n1, n2⟩ := hn
      have e1 : wrap64 (x - ax) = x - ax := wrap64_in (by omega)
      have e2 : wrap64 (y - ay) = y - ay := wrap64_in (by omega)
      have e3 : wrap64 (bx - ax) = bx - ax := wrap64_in (by omega)
      have e4 : wrap64 (by_ - ay) = by_ - ay := wrap64_in (by omega)
      have N := fun k r => @near_small k ax ay x y r r1 r2 n1 n2
      have p1 := m768 (p := x - ax) (q := x - ax) (by omega) (by omega)
      have p2 := m768 (p := y - ay) (q := y - ay) (by omega) (by omega)
      have p3 := m768 (p := x - ax) (q := bx - ax) (by omega) (by omega)
      have p4 := m768 (p := y - ay) (q := by_ - ay) (by omega) (by omega)
      have p5 := m768 (p := x - ax) (q := by_ - ay) (by omega) (by omega)
      have p6 := m768 (p := y - ay) (q := bx - ax) (by omega) (by omega)
      have p7 := m768 (p := bx - ax) (q := bx - ax) (by omega) (by omega)
      have p8 := m768 (p := by_ - ay) (q := by_ - ay) (by omega) (by omega)
      have p9 := m768 (p := a) (q := a) (by omega) (by omega)
      have p10 := m768 (p := b) (q := b) (by omega) (by omega)
      have hz := @sq_zero (x - ax) (y - ay)
      have q1 := m2M (p := (x - ax) * (by_ - ay) - (y - ay) * (bx - ax)) (q := (x - ax) * (by_ - ay) - (y - ay) * (bx - ax)) (by omega) (by omega)
      have q2 := m2M (p := a * a) (q := (bx - ax) * (bx - ax) + (by_ - ay) * (by_ - ay)) (by omega) (by omega)
      simp only [Option.bind_some, if_true, Bool.not_true, area_less.f, barrowref32_In.j0, Bool.false_eq_true, if_false, area_cone.f, area_beam.f, area_box.f, area_dot.f, area_cross.f, within_eq, mx_max, mn_min, e1, e2, e3, e4]
      rw [wrap64_in (x := (x - ax) * (x - ax)) (by omega), wrap64_in (x := (y - ay) * (y - ay)) (by omega), wrap64_in (x := (x - ax) * (bx - ax)) (by omega), wrap64_in (x := (y - ay) * (by_ - ay)) (by omega), wrap64_in (x := (x - ax) * (by_ - ay)) (by omega), wrap64_in (x := (y - ay) * (bx - ax)) (by omega), wrap64_in (x := (bx - ax) * (bx - ax)) (by omega), wrap64_in (x := (by_ - ay) * (by_ - ay)) (by omega), wrap64_in (x := a * a) (by omega), wrap64_in (x := b * b) (by omega)]
      rw [wrap64_in (x := (x - ax) * (x - ax) + (y - ay) * (y - ay)) (by omega), wrap64_in (x := (x - ax) * (bx - ax) + (y - ay) * (by_ - ay)) (by omega), wrap64_in (x := (x - ax) * (by_ - ay) - (y - ay) * (bx - ax)) (by omega), wrap64_in (x := (bx - ax) * (bx - ax) + (by_ - ay) * (by_ - ay)) (by omega)]
      rw [wrap64_in (x := -((x - ax) * (by_ - ay) - (y - ay) * (bx - ax))) (by omega), wrap64_in (x := ((x - ax) * (by_ - ay) - (y - ay) * (bx - ax)) * ((x - ax) * (by_ - ay) - (y - ay) * (bx - ax))) (by omega), wrap64_in (x := a * a * ((bx - ax) * (bx - ax) + (by_ - ay) * (by_ - ay))) (by omega)]
      simp only [N _ a ⟨r5, r6⟩, N _ b ⟨r7, r8⟩, Option.bind_some]
      generalize ((x - ax) * (by_ - ay) - (y - ay) * (bx - ax)) * ((x - ax) * (by_ - ay) - (y - ay) * (bx - ax)) = cc
      generalize a * a * ((bx - ax) * (bx - ax) + (by_ - ay) * (by_ - ay)) = al
      generalize (x - ax) * (by_ - ay) - (y - ay) * (bx - ax) = c
      generalize (x - ax) * (bx - ax) + (y - ay) * (by_ - ay) = d
      generalize (bx - ax) * (bx - ax) + (by_ - ay) * (by_ - ay) = ll
      generalize (x - ax) * (x - ax) + (y - ay) * (y - ay) = f at hz ⊢
      generalize a * a = aa
      generalize b * b = bb
      by_cases h1 : kd = 1
      · simp only [if_pos h1]
        exact ⟨_, fun _ => ⟨rfl, rfl⟩⟩
      · simp only [if_neg h1]
        by_cases h2 : kd = 2
        · simp only [if_pos h2]
          by_cases c1 : f ≤ bb
          · simp only [c1, decide_true, if_true]
            by_cases c2 : a = 0
            · simp only [if_pos c2]; exact ⟨_, fun _ => ⟨rfl, rfl⟩⟩
            · simp only [if_neg c2]
              by_cases c3 : f ≤ aa
              · exact ⟨false, fun _ => ⟨by simp [c3], by simp; omega⟩⟩
              · exact ⟨true, fun _ => ⟨by simp [c3], by simp; omega⟩⟩
          · simp only [c1, decide_false, Bool.false_eq_true, if_false]; exact ⟨_, fun _ => ⟨rfl, rfl⟩⟩
        · simp only [if_neg h2]
          by_cases h3 : kd = 3
          · simp only [if_pos h3]
            refine ⟨decide ((min 0 (bx - ax) ≤ x - ax ∧ x - ax ≤ max 0 (bx - ax)) ∧ (min 0 (by_ - ay) ≤ y - ay ∧ y - ay ≤ max 0 (by_ - ay))), fun _ => ⟨?_, ?_⟩⟩
            · by_cases c1 : min ax bx ≤ x ∧ x ≤ max ax bx
              · simp only [decide_eq_true c1, if_true]
                congr 1
                rw [decide_eq_decide]
                omega
              · simp only [decide_eq_false c1, Bool.false_eq_true, if_false]
                congr 1
                symm
                rw [decide_eq_false_iff_not]
                omega
            · by_cases c1 : min 0 (bx - ax) ≤ x - ax <;> by_cases c2 : x - ax ≤ max 0 (bx - ax) <;> by_cases c3 : min 0 (by_ - ay) ≤ y - ay <;> simp only [c1, c2, c3, if_true, if_false, true_and, false_and, and_false, decide_false]
          · simp only [if_neg h3]
            by_cases h4 : kd = 4
            · simp only [if_pos h4]
              by_cases c1 : f ≤ aa
              · simp only [c1, decide_true, if_true]
                by_cases c2 : f = 0
                · have c2' := hz.1 c2
                  refine ⟨true, fun _ => ⟨?_, ?_⟩⟩
                  · rw [if_pos (by simp [c2'])]; rfl
                  · rw [if_pos c2]
                · have c2' : ¬ ((x - ax == 0 && y - ay == 0) = true) := fun h => c2 (hz.2 (by simpa using h))
                  simp only [if_neg c2, if_neg c2']
                  by_cases c3 : d > 0
                  · simp only [if_pos c3]
                    by_cases c4 : max c (-c) ≤ d
                    · exact ⟨true, fun _ => ⟨by rw [if_pos c4]; rfl, by rw [if_pos (by omega)]; simp; omega⟩⟩
                    · refine ⟨false, fun _ => ⟨by rw [if_neg c4]; rfl, ?_⟩⟩
                      by_cases c5 : c ≤ d
                      · rw [if_pos c5]; simp; omega
                      · rw [if_neg c5]
                  · simp only [if_neg c3]; exact ⟨_, fun _ => ⟨rfl, rfl⟩⟩
              · simp only [c1, decide_false, Bool.false_eq_true, if_false]; exact ⟨_, fun _ => ⟨rfl, rfl⟩⟩
            · simp only [if_neg h4]
              by_cases c1 : ll = 0
              · simp only [if_pos c1]
                by_cases c2 : f ≤ aa
                · exact ⟨true, fun _ => ⟨by rw [if_pos c2]; rfl, by simp [c2]⟩⟩
                · exact ⟨false, fun _ => ⟨by rw [if_neg c2]; rfl, by simp [c2]⟩⟩
              · simp only [if_neg c1]
                by_cases c2 : 0 ≤ d ∧ d ≤ ll
                · simp only [decide_eq_true c2, if_true]
                  by_cases c3 : cc ≤ al
                  · exact ⟨true, fun _ => ⟨by rw [if_pos c3]; rfl, by simp [c2.1, c2.2, c3]⟩⟩
                  · exact ⟨false, fun _ => ⟨by rw [if_neg c3]; rfl, by simp [c2.1, c2.2, c3]⟩⟩
                · simp only [decide_eq_false c2, Bool.false_eq_true, if_false]
                  refine ⟨false, fun _ => ⟨rfl, ?_⟩⟩
                  by_cases c3 : d ≥ 0
                  · rw [if_pos c3, if_neg (by omega)]
                  · rw [if_neg c3]
    · rw [decide_eq_false hn]
      refine ⟨false, fun k => ⟨by simp, ?_⟩⟩
      by_cases h1 : Nr x
      · have h2 : ¬ Nr y := fun h => hn ⟨h1, h⟩
        simp [h1, h2, barrowref32_In.j0]
      · simp [h1, barrowref32_In.j0]
  · rw [decide_eq_false hr]
    exact ⟨false, fun k => ⟨by simp, by simp [barrowref32_In.j0]⟩⟩
end Go.Proofs.Ytiadhonhjnbliaa.Pure
namespace Go.Proofs.Ytiadhonhjnbliaa.Pure
open Go.RowKit Go.Proofs.Ytiadhonhjnbliaa.XZN Go.Proofs.YtiadhonhjnbliaaW.PrintWords Go.Proofs.YtiadhonhjnbliaaW.PrintLast Go.Proofs.YtiadhonhjnbliaaW.PrintMore

theorem refadd_eq (k : Nat) (a b : Int) (ha : In64 a) (hb : In64 b) : barrowref01_Add.f (k + 1) a b = some (satv (a + b)) := by
  unfold barrowref01_Add.f satv
  simp only [barrowref01_Add.j0, wrap64]
  by_cases h1 : a > 0
  · rw [if_pos h1]
    by_cases h2 : b > (9223372036854775807 - a + 9223372036854775808) % 18446744073709551616 - 9223372036854775808
    · rw [if_pos (decide_eq_true h2), if_pos (by omega)]
    · rw [if_neg (by simpa using h2), if_neg (by omega), if_neg (by omega), if_neg (by omega)]; congr 1; omega
  · rw [if_neg h1, if_neg (by decide)]
    (repeat' split) <;> (first | rfl | omega | (congr 1; omega))
theorem rd37 (L : List S37) (i : Nat) (h : i < L.length) : rd_T37 L (i : Int) = L[i] := by
  unfold rd_T37
  rw [Int.toNat_natCast, List.getD_eq_getElem?_getD, List.getElem?_eq_getElem h]
  rfl
theorem rd44 (L : List S44) (i : Nat) (h : i < L.length) : rd_T44 L (i : Int) = L[i] := by
  unfold rd_T44
  rw [Int.toNat_natCast, List.getD_eq_getElem?_getD, List.getElem?_eq_getElem h]
  rfl
theorem rd56 (L : List S56) (i : Nat) (h : i < L.length) : rd_T56 L (i : Int) = L[i] := by
  unfold rd_T56
  rw [Int.toNat_natCast, List.getD_eq_getElem?_getD, List.getElem?_eq_getElem h]
  rfl
/-- The being stands in the zone's shape. -/
noncomputable def inB (z : S37) (u : S44) : Bool := Classical.choose (in_same z.f1.f0 z.f1.f1.f0 z.f1.f1.f1 z.f1.f2.f0 z.f1.f2.f1 z.f1.f3 z.f1.f4 u.f7.f0 u.f7.f1)
theorem inB_eq (z : S37) (u : S44) : ∀ k, area_In.f (k + 1) z.f1.f0 z.f1.f1.f0 z.f1.f1.f1 z.f1.f2.f0 z.f1.f2.f1 z.f1.f3 z.f1.f4 u.f7.f0 u.f7.f1 = some (inB z u) ∧ barrowref32_In.f (k + 1) z.f1.f0 z.f1.f1.f0 z.f1.f1.f1 z.f1.f2.f0 z.f1.f2.f1 z.f1.f3 z.f1.f4 u.f7.f0 u.f7.f1 = some (inB z u) :=
  Classical.choose_spec (in_same z.f1.f0 z.f1.f1.f0 z.f1.f1.f1 z.f1.f2.f0 z.f1.f2.f1 z.f1.f3 z.f1.f4 u.f7.f0 u.f7.f1)
/-- The zone hits the being. -/
noncomputable def hitB (z : S37) (u : S44) : Bool := inB z u && (decide (u.f3 > 0) && (decide (z.f7 = 0) || decide (z.f7 = u.f1)))
theorem hit_eq (k : Nat) (z : S37) (u : S44) : zone_hits_1_i1.f (k + 1) u.f0 u.f1 u.f2 u.f3 u.f4 u.f5 u.f6 u.f7.f0 u.f7.f1 u.f8 z.f0 z.f1.f0 z.f1.f1.f0 z.f1.f1.f1 z.f1.f2.f0 z.f1.f2.f1 z.f1.f3 z.f1.f4 z.f2 z.f3 z.f4 z.f5.f0 z.f5.f1 z.f5.f2 z.f6 z.f7 = some (hitB z u) := by
  unfold zone_hits_1_i1.f hitB
  rw [(inB_eq z u k).1]
  by_cases h1 : u.f3 > 0
  · by_cases h2 : z.f7 = 0
    · simp [h1, h2]
    · by_cases h3 : z.f7 = u.f1
      · rw [if_pos h1, if_neg h2, if_pos h3]; simp [h1, h3]
      · rw [if_pos h1, if_neg h2, if_neg h3]; simp [h2, h3]
  · rw [if_neg h1]; simp [h1]
noncomputable def hitsL (z : S37) (U : List S44) : List S56 := (U.filter (hitB z)).map fun u => ⟨z.f0, u.f0⟩
def due (now : Int) (z : S37) : Prop := z.f4 ≤ now ∧ z.f4 ≤ z.f2
instance (now : Int) (z : S37) : Decidable (due now z) := by unfold due; infer_instance
def nxt (now : Int) (z : S37) : S37 := { z with f4 := if due now z then satv (z.f4 + z.f3) else z.f4 }
def aft (now : Int) (z : S37) : List S37 := if z.f2 ≤ now then [] else [nxt now z]
noncomputable def hzl (now : Int) (U : List S44) (z : S37) : List S56 := if due now z then hitsL z U else []
theorem hitsL_no {z : S37} {u : S44} {V : List S44} (h : hitB z u = false) : hitsL z (u :: V) = hitsL z V := by unfold hitsL; rw [List.filter_cons, h]; rfl
theorem hitsL_yes {z : S37} {u : S44} {V : List S44} (h : hitB z u = true) : hitsL z (u :: V) = ⟨z.f0, u.f0⟩ :: hitsL z V := by unfold hitsL; rw [List.filter_cons, h]; rfl
theorem aft_no {now : Int} {z : S37} (h : z.f2 ≤ now) : aft now z = [] := by unfold aft; rw [if_pos h]
theorem aft_yes {now : Int} {z : S37} (h : ¬ z.f2 ≤ now) : aft now z = [nxt now z] := by unfold aft; rw [if_neg h]
section
variable {L : List S37} {U : List S44} {now : Int} (hL : L.length ≤ 60) (hU : U.length ≤ 60) (hz : ∀ z ∈ L, In64 z.f3 ∧ In64 z.f4)
include hL hU hz
theorem nat_next {i : Nat} (h : i < 100) : wrap64 ((i : Int) + 1) = ((i + 1 : Nat) : Int) := by rw [wrap64_in (by omega)]; omega
/-- Past the units, on to the next zone. -/
theorem tick_units (z : S37) (i : Nat) (hi : i < L.length) (e : L[i] = z) (out : List S37) : ∀ (n j : Nat) (acc : List S56) (k : Nat), j + n = U.length → acc.length + n < 8796093022208 →
    zone_Tick.l1 (k + n + 2) L U now out i z.f0 z.f1.f0 z.f1.f1.f0 z.f1.f1.f1 z.f1.f2.f0 z.f1.f2.f1 z.f1.f3 z.f1.f4 z.f2 z.f3 z.f4 z.f5.f0 z.f5.f1 z.f5.f2 z.f6 z.f7 acc j =
      zone_Tick.l1 (k + 2) L U now out i z.f0 z.f1.f0 z.f1.f1.f0 z.f1.f1.f1 z.f1.f2.f0 z.f1.f2.f1 z.f1.f3 z.f1.f4 z.f2 z.f3 z.f4 z.f5.f0 z.f5.f1 z.f5.f2 z.f6 z.f7 (acc ++ hitsL z (U.drop j)) U.length := by
  intro n
  induction n with
  | zero =>
    intro j acc k hn ha
    rw [List.drop_eq_nil_of_le (by omega), show j = U.length by omega]
    simp [hitsL]
  | succ n ih =>
    intro j acc k hn ha
    have hj : j < U.length := by omega
    rw [show k + (n + 1) + 2 = (k + n + 2) + 1 by omega]
    conv => lhs; rw [zone_Tick.l1]
    rw [if_pos (by omega), if_pos (by omega), rd37 L i hi, rd44 U j hj, e, hit_eq (k + n + 1) z U[j], nat_next hL hU hz (show j < 100 by omega), List.drop_eq_getElem_cons hj]
    simp only [Option.bind_some]
    cases hb : hitB z U[j]
    · simp only [Bool.false_eq_true, if_false]
      rw [ih (j + 1) acc k (by omega) (by omega), hitsL_no hb]
    · simp only [if_true, List.length_cons, List.length_nil]
      rw [if_pos (by omega), ih (j + 1) _ k (by omega) (by rw [List.length_append]; simp; omega), hitsL_yes hb, List.append_assoc]
      rfl
theorem hits_len (z : S37) (V : List S44) : (hitsL z V).length ≤ V.length := by
  unfold hitsL
  rw [List.length_map]
  exact List.length_filter_le _ _
theorem tick_zones : ∀ (n i : Nat) (out : List S37) (acc : List S56) (k : Nat), i + n = L.length → out.length ≤ i → acc.length ≤ 60 * i → 70 * n + 5 ≤ k →
    zone_Tick.l0 k L U now out acc i = some (out ++ (L.drop i).flatMap (aft now), acc ++ (L.drop i).flatMap (hzl now U)) := by
  intro n
  induction n with
  | zero =>
    intro i out acc k hn ho ha hk
    obtain ⟨k, rfl⟩ : ∃ q, k = q + 1 := ⟨k - 1, by omega⟩
    rw [zone_Tick.l0, if_neg (by omega), List.drop_eq_nil_of_le (by omega)]
    simp
  | succ n ih =>
    intro i out acc k hn ho ha hk
    have hi : i < L.length := by omega
    obtain ⟨k, rfl⟩ : ∃ q, k = (q + U.length + 2) + 1 := ⟨k - U.length - 3, by omega⟩
    obtain ⟨z3, z4⟩ := hz L[i] (List.getElem_mem _)
    rw [zone_Tick.l0, if_pos (by omega), if_pos (by omega), rd37 L i hi, List.drop_eq_getElem_cons hi]
    generalize hzz : L[i] = z at *
    have fin : ∀ (acc' : List S56) (k' : Nat), acc'.length ≤ 60 * (i + 1) → 70 * n + 5 ≤ k' → ∀ z' : S37, z' = nxt now z → acc' = acc ++ hzl now U z →
        (if z.f2 ≤ now then zone_Tick.l0 k' L U now out acc' (wrap64 ((i : Int) + 1)) else ((some ([z'] : List S37)).bind fun y => (if out.length + y.length < 1099511627776 then ((some (out ++ y : List S37)).bind fun y' => zone_Tick.l0 k' L U now y' acc' (wrap64 ((i : Int) + 1))) else none))) = some (out ++ (z :: L.drop (i + 1)).flatMap (aft now), acc ++ (z :: L.drop (i + 1)).flatMap (hzl now U)) := by
      intro acc' k' hl' hk' z' hz' hacc
      rw [nat_next hL hU hz (show i < 100 by omega), List.flatMap_cons, List.flatMap_cons]
      by_cases h2 : z.f2 ≤ now
      · rw [if_pos h2, aft_no h2, List.nil_append, ih (i + 1) out acc' k' (by omega) (by omega) hl' hk', hacc, List.append_assoc]
      · rw [if_neg h2, aft_yes h2]
        simp only [Option.bind_some, List.length_cons, List.length_nil]
        rw [if_pos (by omega), ih (i + 1) (out ++ [z']) acc' k' (by omega) (by rw [List.length_append]; simp; omega) hl' hk', hacc, hz', List.append_assoc, List.append_assoc]
    by_cases hd : due now z
    · obtain ⟨d1, d2⟩ := id hd
      rw [if_pos d1, if_pos d2]
      simp only [zone_hits.f, Option.bind_some]
      have hh : (hitsL z U).length ≤ 60 := Nat.le_trans (hits_len hL hU hz z U) hU
      have hu := tick_units hL hU hz (now := now) z i hi hzz out U.length 0 acc k (by omega) (by omega)
      rw [show ((0 : Nat) : Int) = 0 from rfl] at hu
      rw [hu, List.drop_zero, zone_Tick.l1, if_neg (by omega), rd37 L i hi, hzz, add_eq k _ _ z4 z3, Option.bind_some]
      exact fin _ (k + 1) (by rw [List.length_append]; omega) (by omega) _ (by unfold nxt; rw [if_pos hd]) (by unfold hzl; rw [if_pos hd])
    · have hnx : nxt now z = z := by unfold nxt; rw [if_neg hd]
      have hhz : acc = acc ++ hzl now U z := by unfold hzl; rw [if_neg hd]; simp
      by_cases d1 : z.f4 ≤ now
      · rw [if_pos d1, if_neg (fun d2 => hd ⟨d1, d2⟩)]
        exact fin acc (k + U.length + 2) (by omega) (by omega) _ (by rw [hnx]) hhz
      · rw [if_neg d1]
        exact fin acc (k + U.length + 2) (by omega) (by omega) _ (by rw [hnx]) hhz
/-- The document's. -/
theorem rtick_units (z : S37) (i : Nat) (hi : i < L.length) (e : L[i] = z) (out : List S37) : ∀ (n j : Nat) (acc : List S56) (k : Nat), j + n = U.length → acc.length + n < 8796093022208 →
    barrowref33_Tick.l1 (k + n + 2) L U now out i acc j = barrowref33_Tick.l1 (k + 2) L U now out i (acc ++ hitsL z (U.drop j)) U.length := by
  intro n
  induction n with
  | zero =>
    intro j acc k hn ha
    rw [List.drop_eq_nil_of_le (by omega), show j = U.length by omega]
    simp [hitsL]
  | succ n ih =>
    intro j acc k hn ha
    have hj : j < U.length := by omega
    rw [show k + (n + 1) + 2 = (k + n + 2) + 1 by omega]
    conv => lhs; rw [barrowref33_Tick.l1]
    rw [if_pos (by omega), if_pos (by omega), rd37 L i hi, rd44 U j hj, e, (inB_eq z U[j] (k + n + 1)).2, nat_next hL hU hz (show j < 100 by omega), List.drop_eq_getElem_cons hj]
    simp only [Option.bind_some]
    have skip : hitB z U[j] = false → barrowref33_Tick.l1 (k + n + 2) L U now out i acc ((j + 1 : Nat) : Int) = barrowref33_Tick.l1 (k + 2) L U now out i (acc ++ hitsL z (U[j] :: U.drop (j + 1))) U.length := by
      intro hb
      rw [ih (j + 1) acc k (by omega) (by omega), hitsL_no hb]
    have take : hitB z U[j] = true → (if acc.length + ([(⟨z.f0, U[j].f0⟩ : S56)] : List S56).length < 8796093022208 then ((some (acc ++ [(⟨z.f0, U[j].f0⟩ : S56)] : List S56)).bind fun y => barrowref33_Tick.l1 (k + n + 2) L U now out i y ((j + 1 : Nat) : Int)) else none) = barrowref33_Tick.l1 (k + 2) L U now out i (acc ++ hitsL z (U[j] :: U.drop (j + 1))) U.length := by
      intro hb
      simp only [List.length_cons, List.length_nil, Option.bind_some]
      rw [if_pos (by omega), ih (j + 1) _ k (by omega) (by rw [List.length_append]; simp; omega), hitsL_yes hb, List.append_assoc]
      rfl
    unfold hitB at skip take
    cases hb : inB z U[j]
    · rw [hb] at skip
      simp only [Bool.false_eq_true, if_false]
      exact skip rfl
    · rw [hb] at skip take
      simp only [if_true]
      by_cases h1 : U[j].f3 > 0
      · rw [if_pos h1]
        by_cases h2 : z.f7 = 0
        · rw [if_pos h2]
          exact take (by simp [h1, h2])
        · rw [if_neg h2]
          by_cases h3 : z.f7 = U[j].f1
          · rw [if_pos h3]
            exact take (by simp [h1, h3])
          · rw [if_neg h3]
            exact skip (by simp [h2, h3])
      · rw [if_neg h1]
        exact skip (by simp [h1])
theorem rtick_zones : ∀ (n i : Nat) (out : List S37) (acc : List S56) (k : Nat), i + n = L.length → out.length ≤ i → acc.length ≤ 60 * i → 70 * n + 5 ≤ k →
    barrowref33_Tick.l0 k L U now out acc i = some (out ++ (L.drop i).flatMap (aft now), acc ++ (L.drop i).flatMap (hzl now U)) := by
  intro n
  induction n with
  | zero =>
    intro i out acc k hn ho ha hk
    obtain ⟨k, rfl⟩ : ∃ q, k = q + 1 := ⟨k - 1, by omega⟩
    rw [barrowref33_Tick.l0, if_neg (by omega), List.drop_eq_nil_of_le (by omega)]
    simp
  | succ n ih =>
    intro i out acc k hn ho ha hk
    have hi : i < L.length := by omega
    obtain ⟨k, rfl⟩ : ∃ q, k = (q + U.length + 2) + 1 := ⟨k - U.length - 3, by omega⟩
    obtain ⟨z3, z4⟩ := hz L[i] (List.getElem_mem _)
    rw [barrowref33_Tick.l0, if_pos (by omega), if_pos (by omega), rd37 L i hi, List.drop_eq_getElem_cons hi]
    generalize hzz : L[i] = z at *
    have fin : ∀ (acc' : List S56) (k' : Nat), acc'.length ≤ 60 * (i + 1) → 70 * n + 5 ≤ k' → ∀ z' : S37, z' = nxt now z → acc' = acc ++ hzl now U z →
        (if z.f2 > now then ((some ([z'] : List S37)).bind fun y => (if out.length + y.length < 1099511627776 then ((some (out ++ y : List S37)).bind fun y' => barrowref33_Tick.l0 k' L U now y' acc' (wrap64 ((i : Int) + 1))) else none)) else barrowref33_Tick.l0 k' L U now out acc' (wrap64 ((i : Int) + 1))) = some (out ++ (z :: L.drop (i + 1)).flatMap (aft now), acc ++ (z :: L.drop (i + 1)).flatMap (hzl now U)) := by
      intro acc' k' hl' hk' z' hz' hacc
      rw [nat_next hL hU hz (show i < 100 by omega), List.flatMap_cons, List.flatMap_cons]
      by_cases h2 : z.f2 ≤ now
      · rw [if_neg (by omega), aft_no h2, List.nil_append, ih (i + 1) out acc' k' (by omega) (by omega) hl' hk', hacc, List.append_assoc]
      · rw [if_pos (by omega), aft_yes h2]
        simp only [Option.bind_some, List.length_cons, List.length_nil]
        rw [if_pos (by omega), ih (i + 1) (out ++ [z']) acc' k' (by omega) (by rw [List.length_append]; simp; omega) hl' hk', hacc, hz', List.append_assoc, List.append_assoc]
    by_cases hd : due now z
    · obtain ⟨d1, d2⟩ := id hd
      rw [if_pos d1, if_pos d2]
      have hh : (hitsL z U).length ≤ 60 := Nat.le_trans (hits_len hL hU hz z U) hU
      have hu := rtick_units hL hU hz (now := now) z i hi hzz out U.length 0 acc k (by omega) (by omega)
      rw [show ((0 : Nat) : Int) = 0 from rfl] at hu
      rw [hu, List.drop_zero, barrowref33_Tick.l1, if_neg (by omega), rd37 L i hi, hzz, refadd_eq k _ _ z4 z3, Option.bind_some]
      exact fin _ (k + 1) (by rw [List.length_append]; omega) (by omega) _ (by unfold nxt; rw [if_pos hd]) (by unfold hzl; rw [if_pos hd])
    · have hnx : nxt now z = z := by unfold nxt; rw [if_neg hd]
      have hhz : acc = acc ++ hzl now U z := by unfold hzl; rw [if_neg hd]; simp
      have non : barrowref33_Tick.l101 (k + U.length + 2) L U now out i acc 0 = some (out ++ (z :: L.drop (i + 1)).flatMap (aft now), acc ++ (z :: L.drop (i + 1)).flatMap (hzl now U)) := by
        rw [barrowref33_Tick.l101, rd37 L i hi, hzz]
        split
        · exact fin acc (k + U.length + 1) (by omega) (by omega) _ (by rw [hnx]) hhz
        · exact fin acc (k + U.length + 1) (by omega) (by omega) _ (by rw [hnx]) hhz
      by_cases d1 : z.f4 ≤ now
      · rw [if_pos d1, if_neg (fun d2 => hd ⟨d1, d2⟩)]
        exact non
      · rw [if_neg d1]
        exact non
end
theorem same37 : ∀ (L : List S37) (n i k : Nat), i + n = L.length → n < k → L.length ≤ 70000 → barrowref33_Same.l0 k L L i = some true
  | L, 0, i, k, h, hk, _ => by
    obtain ⟨k, rfl⟩ : ∃ q, k = q + 1 := ⟨k - 1, by omega⟩
    rw [barrowref33_Same.l0, if_neg (by omega)]
  | L, n + 1, i, k, h, hk, hl => by
    obtain ⟨k, rfl⟩ : ∃ q, k = q + 1 := ⟨k - 1, by omega⟩
    rw [barrowref33_Same.l0, if_pos (by omega), if_pos (by omega), if_pos (by omega), if_neg (by simp), wrap64_in (by omega)]
    have := same37 L n (i + 1) k (by omega) (by omega) hl
    rwa [show ((i + 1 : Nat) : Int) = (i : Int) + 1 by omega] at this
theorem same37_eq (L : List S37) (k : Nat) (hl : L.length ≤ 70000) (hk : 80000 ≤ k) : barrowref33_Same.f k L L = some true := by
  unfold barrowref33_Same.f
  rw [if_pos rfl]
  exact same37 L L.length 0 k (by omega) (by omega) hl
theorem same56 : ∀ (L : List S56) (n i k : Nat), i + n = L.length → n < k → L.length ≤ 70000 → barrowref33_SameHits.l0 k L L i = some true
  | L, 0, i, k, h, hk, _ => by
    obtain ⟨k, rfl⟩ : ∃ q, k = q + 1 := ⟨k - 1, by omega⟩
    rw [barrowref33_SameHits.l0, if_neg (by omega)]
  | L, n + 1, i, k, h, hk, hl => by
    obtain ⟨k, rfl⟩ : ∃ q, k = q + 1 := ⟨k - 1, by omega⟩
    rw [barrowref33_SameHits.l0, if_pos (by omega), if_pos (by omega), if_pos (by omega), if_neg (by simp), wrap64_in (by omega)]
    have := same56 L n (i + 1) k (by omega) (by omega) hl
    rwa [show ((i + 1 : Nat) : Int) = (i : Int) + 1 by omega] at this
theorem same56_eq (L : List S56) (k : Nat) (hl : L.length ≤ 70000) (hk : 80000 ≤ k) : barrowref33_SameHits.f k L L = some true := by
  unfold barrowref33_SameHits.f
  rw [if_pos rfl]
  exact same56 L L.length 0 k (by omega) (by omega) hl
end Go.Proofs.Ytiadhonhjnbliaa.Pure
namespace Go.Proofs.Ytiadhonhjnbliaa.Pure
open Go.RowKit Go.Proofs.Ytiadhonhjnbliaa.XZN Go.Proofs.YtiadhonhjnbliaaW.PrintWords Go.Proofs.YtiadhonhjnbliaaW.PrintLast
theorem turned_eq (V T : List S37) (hL : V.length ≤ 60) (hT : T.length ≤ 60) : ∀ (n i : Nat) (y : List S37) (k : Nat), i + n = T.length → 80000 + n < k → barrowlaw33_ZoneTicks.l0 k V i y true V T true = some true := by
  intro n
  induction n with
  | zero =>
    intro i y k hn hk
    obtain ⟨k, rfl⟩ : ∃ q, k = q + 1 := ⟨k - 1, by omega⟩
    rw [barrowlaw33_ZoneTicks.l0, if_neg (by omega), if_pos rfl, if_pos rfl, same37_eq V k (by omega) (by omega)]
    rfl
  | succ n ih =>
    intro i y k hn hk
    obtain ⟨k, rfl⟩ : ∃ q, k = q + 1 := ⟨k - 1, by omega⟩
    rw [barrowlaw33_ZoneTicks.l0, if_pos (by omega), if_pos (by omega), wrap64_in (by omega), show ((i : Int) + 1) = ((i + 1 : Nat) : Int) by omega]
    simp only [Option.bind_some]
    exact ih (i + 1) _ k (by omega) (by omega)
theorem flat_len {α β : Type} (f : α → List β) (m : Nat) : ∀ (L : List α), (∀ x ∈ L, (f x).length ≤ m) → (L.flatMap f).length ≤ L.length * m
  | [], _ => by simp
  | x :: L, h => by
    have h1 := h x (by simp)
    have h2 := flat_len f m L (fun y hy => h y (List.mem_cons_of_mem _ hy))
    rw [List.flatMap_cons, List.length_append, List.length_cons, Nat.add_mul]
    omega
theorem ZoneTicks : barrowlaw33_ZoneTicks.Pure := by
  intro L U now h1 h2 h3
  obtain ⟨K, hk⟩ := small_ev
  refine ⟨K + 100000, ?_⟩
  unfold barrowlaw33_ZoneTicks.f
  rw [hk (K + 100000) (by omega)]
  simp only [Option.bind_some]
  split
  · rfl
  · split
    · rfl
    · rename_i c1 c2
      have hL : L.length ≤ 60 := by omega
      have hU : U.length ≤ 60 := by omega
      have hz : ∀ z ∈ L, In64 z.f3 ∧ In64 z.f4 := fun z hm => by
        obtain ⟨-, -, -, w3, w4, -⟩ := h1.2.2 z hm
        exact ⟨i64_of w3, i64_of w4⟩
      simp only [List.length_nil, List.nil_append]
      rw [if_pos (by omega)]
      unfold zone_Tick.f barrowref33_Tick.f
      have t1 := tick_zones hL hU hz (now := now) L.length 0 [] [] (K + 100000) (by omega) (by simp) (by simp) (by omega)
      have t2 := rtick_zones hL hU hz (now := now) L.length 0 [] [] (K + 100000) (by omega) (by simp) (by simp) (by omega)
      rw [show ((0 : Nat) : Int) = 0 from rfl, List.drop_zero, List.nil_append, List.nil_append] at t1 t2
      simp only [t1, t2, Option.bind_some]
      have l1 : (L.flatMap (aft now)).length ≤ L.length * 1 := flat_len _ 1 L (fun z _ => by unfold aft; split <;> simp)
      have l2 : (L.flatMap (hzl now U)).length ≤ L.length * 60 := flat_len _ 60 L (fun z _ => by
        unfold hzl
        split
        · exact Nat.le_trans (hits_len hL hU hz z U) hU
        · simp)
      rw [same37_eq _ _ (by omega) (by omega), same56_eq _ _ (by omega) (by omega)]
      simp only [Option.bind_some, if_true]
      exact turned_eq L (L.flatMap (aft now)) hL (by omega) (L.flatMap (aft now)).length 0 _ (K + 100000) (by omega) (by omega)
end Go.Proofs.Ytiadhonhjnbliaa.Pure
