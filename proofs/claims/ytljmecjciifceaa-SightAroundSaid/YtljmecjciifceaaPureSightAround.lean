/- What sums, differences and products come to: plain numbers. What the document's sums, differences and products come to: plain numbers. Grid: words of loops that end ('Ev'); right grids, tiles inside them, walls. Grid: how far two tiles are apart, as plain numbers. Sight: the line between two tiles, as a list; and what is done along it. Sight: the program's line, its nearest wall, and whether one sees, along the line. Sight: the document's line, its nearest wall, and whether one sees, along the line. Sight: what the line, the first wall and seeing come to; the small grid of the law. Sight: the tiles around a tile, and those of them that are seen. SightAround, in plain Lean. -/
import Derived.Test.YtljmecjciifceaaXSGx3
import Derived.Test.YtljmecjciifceaaXSGx4
import Derived.Laws.BitsLemmas
import Derived.Test.YtljmecjciifceaaXSGx11
import Derived.Test.YtljmecjciifceaaXSGx2
import Derived.Test.YtljmecjciifceaaXSGx13
import Derived.Test.YtljmecjciifceaaXSGx9
import Derived.Test.YtljmecjciifceaaXSGx11
import Derived.Test.YtljmecjciifceaaXSGx8
import Derived.Test.YtljmecjciifceaaXSGx4
import Derived.Test.YtljmecjciifceaaXSGx13
import Derived.Test.YtljmecjciifceaaXSGx3
import Derived.Test.YtljmecjciifceaaXSGx11
import Derived.Test.YtljmecjciifceaaXSGx3
import Derived.Test.YtljmecjciifceaaXSGx7
import Derived.Test.YtljmecjciifceaaXSGx6
import Derived.Test.YtljmecjciifceaaXSGx8
import Derived.Test.YtljmecjciifceaaXSGx2
import Derived.Test.YtljmecjciifceaaXSGx10
import Derived.Test.YtljmecjciifceaaXSGx12
import Derived.Test.YtljmecjciifceaaXSGx13
import Derived.Test.YtljmecjciifceaaXSGx9
import Derived.Test.YtljmecjciifceaaXSGx7
import Derived.Test.YtljmecjciifceaaXSGx18
import Derived.Test.YtljmecjciifceaaXSGx19
import Derived.Test.YtljmecjciifceaaXSGx13
import Derived.Test.YtljmecjciifceaaXSGx14
import Derived.Test.YtljmecjciifceaaXSGx13
import Derived.Test.YtljmecjciifceaaXSGx15
import Derived.Test.YtljmecjciifceaaXSGx16
import Derived.Test.YtljmecjciifceaaXSGx24
set_option linter.unusedSimpArgs false
set_option linter.unusedVariables false
namespace Go.Proofs.Ytljmecjciifceaa.Pure
open Go.RowKit Go.Proofs.Ytljmecjciifceaa.XSG Go.Proofs.YtljmecjciifceaaW.PrintWords Go.Proofs.YtljmecjciifceaaW.PrintLast Go.Proofs.YtljmecjciifceaaW.PrintMore

theorem i64_of {a : Int} (h : (Lit.int .i64 a).wf = true) : -9223372036854775808 ≤ a ∧ a ≤ 9223372036854775807 := by
  simp [Lit.wf, IntKind.min, IntKind.max, IntKind.bits, IntKind.signed] at h
  omega
theorem u64_wrap (n : Int) : IntKind.u64.wrap n = n % 18446744073709551616 := by simp [IntKind.wrap, IntKind.bits, IntKind.signed]
def satv (x : Int) : Int := if x > 9223372036854775807 then 9223372036854775807 else if x < -9223372036854775808 then -9223372036854775808 else x
theorem satv_mono {x y : Int} (h : x ≤ y) : satv x ≤ satv y := by unfold satv; (repeat' split) <;> omega
theorem satv_in {x : Int} (h : -9223372036854775808 ≤ x ∧ x ≤ 9223372036854775807) : satv x = x := by unfold satv; (repeat' split) <;> omega

theorem add_eq (k : Nat) (a b : Int) (ha : -9223372036854775808 ≤ a ∧ a ≤ 9223372036854775807) (hb : -9223372036854775808 ≤ b ∧ b ≤ 9223372036854775807) : sat_Add.f (k + 1) a b = some (satv (a + b)) := by
  unfold sat_Add.f satv
  simp only [sat_Add.j0, wrap64]
  split <;> split <;> (try split) <;> simp_all <;> (repeat' split) <;> (first | rfl | omega | (simp; omega) | skip)
theorem sub_eq (k : Nat) (a b : Int) (ha : -9223372036854775808 ≤ a ∧ a ≤ 9223372036854775807) (hb : -9223372036854775808 ≤ b ∧ b ≤ 9223372036854775807) : sat_Sub.f (k + 1) a b = some (satv (a - b)) := by
  unfold sat_Sub.f satv
  simp only [sat_Sub.j0, wrap64]
  split <;> split <;> (try split) <;> simp_all <;> (repeat' split) <;> (first | rfl | omega | (simp; omega) | skip)

theorem and32 (x : Int) (h0 : 0 ≤ x) (h1 : x < 18446744073709551616) : Go.bits .and .u64 x 4294967295 = x % 4294967296 :=
  bits_mask .u64 64 (by decide) (fun n h0 h1 => by rw [u64_wrap]; omega) 32 (by decide) x h0 h1
theorem mul64_eq (x y : Int) (hx : 0 ≤ x ∧ x < 18446744073709551616) (hy : 0 ≤ y ∧ y < 18446744073709551616) : bits_Mul64.f x y = some (x * y / 18446744073709551616, x * y % 18446744073709551616) := by
  unfold bits_Mul64.f
  rw [and32 x hx.1 hx.2, and32 y hy.1 hy.2]
  simp only [u64_wrap]
  obtain ⟨x1, hx1⟩ : ∃ q, x / 4294967296 = q := ⟨_, rfl⟩
  obtain ⟨x0, hx0⟩ : ∃ q, x % 4294967296 = q := ⟨_, rfl⟩
  obtain ⟨y1, hy1⟩ : ∃ q, y / 4294967296 = q := ⟨_, rfl⟩
  obtain ⟨y0, hy0⟩ : ∃ q, y % 4294967296 = q := ⟨_, rfl⟩
  have ex : x = x1 * 4294967296 + x0 := by omega
  have ey : y = y1 * 4294967296 + y0 := by omega
  rw [hx1, hx0, hy1, hy0]
  have b0 : 0 ≤ x0 ∧ x0 ≤ 4294967295 := by omega
  have b1 : 0 ≤ x1 ∧ x1 ≤ 4294967295 := by omega
  have c0 : 0 ≤ y0 ∧ y0 ≤ 4294967295 := by omega
  have c1 : 0 ≤ y1 ∧ y1 ≤ 4294967295 := by omega
  have bd : ∀ p q : Int, 0 ≤ p → p ≤ 4294967295 → 0 ≤ q → q ≤ 4294967295 → 0 ≤ p * q ∧ p * q ≤ 18446744065119617025 := fun p q h1 h2 h3 h4 =>
    ⟨Int.mul_nonneg h1 h3, by have := Int.mul_le_mul h2 h4 h3 (by decide : (0 : Int) ≤ 4294967295); omega⟩
  have e : x * y = x1 * y1 * 18446744073709551616 + (x1 * y0 + x0 * y1) * 4294967296 + x0 * y0 := by
    rw [ex, ey, Int.add_mul, Int.mul_add, Int.mul_add]
    have r1 : x1 * 4294967296 * (y1 * 4294967296) = x1 * y1 * 18446744073709551616 := by
      rw [Int.mul_assoc, Int.mul_left_comm 4294967296 y1 4294967296, ← Int.mul_assoc]; rfl
    have r2 : x1 * 4294967296 * y0 = x1 * y0 * 4294967296 := by rw [Int.mul_assoc, Int.mul_comm 4294967296 y0, ← Int.mul_assoc]
    have r3 : x0 * (y1 * 4294967296) = x0 * y1 * 4294967296 := by rw [← Int.mul_assoc]
    rw [r1, r2, r3]; omega
  have d00 := bd x0 y0 b0.1 b0.2 c0.1 c0.2
  have d10 := bd x1 y0 b1.1 b1.2 c0.1 c0.2
  have d01 := bd x0 y1 b0.1 b0.2 c1.1 c1.2
  have d11 := bd x1 y1 b1.1 b1.2 c1.1 c1.2
  rw [e]
  generalize x0 * y0 = p00 at *
  generalize x1 * y0 = p10 at *
  generalize x0 * y1 = p01 at *
  generalize x1 * y1 = p11 at *
  clear bd hx hy hx1 hx0 hy1 hy0 ex ey b0 b1 c0 c1 e
  congr 2
  have hm : ((p10 + p00 / 4294967296) % 18446744073709551616) = p10 + p00 / 4294967296 := by omega
  rw [Int.emod_eq_of_lt d00.1 (by omega), Int.emod_eq_of_lt d10.1 (by omega), Int.emod_eq_of_lt d11.1 (by omega), Int.emod_eq_of_lt d01.1 (by omega), hm]
  have a32 : ∀ z : Int, 0 ≤ z → z < 18446744073709551616 → Go.bits .and .u64 z 4294967295 = z % 4294967296 := and32
  rw [a32 _ (by omega) (by omega)]
  omega
theorem size_eq (a : Int) (ha : -9223372036854775808 ≤ a ∧ a ≤ 9223372036854775807) : sat_size.f a = some (if a < 0 then -a else a) := by
  unfold sat_size.f
  simp only [u64_wrap]
  split <;> congr 1 <;> omega
theorem size_max : sat_size.f 9223372036854775807 = some 9223372036854775807 := by rw [size_eq _ (by omega)]; rfl
theorem size_min : sat_size.f (-9223372036854775808) = some 9223372036854775808 := by rw [size_eq _ (by omega)]; rfl
theorem mul_eq (a b : Int) (ha : -9223372036854775808 ≤ a ∧ a ≤ 9223372036854775807) (hb : -9223372036854775808 ≤ b ∧ b ≤ 9223372036854775807) : sat_Mul.f a b = some (satv (a * b)) := by
  unfold sat_Mul.f
  rw [size_eq a ha, size_eq b hb, size_max, size_min]
  simp only [Option.bind_some]
  obtain ⟨x, hx⟩ : ∃ q, (if a < 0 then -a else a) = q := ⟨_, rfl⟩
  obtain ⟨y, hy⟩ : ∃ q, (if b < 0 then -b else b) = q := ⟨_, rfl⟩
  rw [hx, hy]
  have x0 : 0 ≤ x ∧ x ≤ 9223372036854775808 := by rw [← hx]; split <;> omega
  have y0 : 0 ≤ y ∧ y ≤ 9223372036854775808 := by rw [← hy]; split <;> omega
  rw [mul64_eq x y (by omega) (by omega)]
  simp only [Option.bind_some]
  have hp : 0 ≤ x * y := Int.mul_nonneg x0.1 y0.1
  have e : a * b = if ((decide (a < 0)) != (decide (b < 0))) = true then -(x * y) else x * y := by
    by_cases h1 : a < 0 <;> by_cases h2 : b < 0
    · rw [if_pos h1] at hx; rw [if_pos h2] at hy; simp [h1, h2, ← hx, ← hy, Int.neg_mul, Int.mul_neg]
    · rw [if_pos h1] at hx; rw [if_neg h2] at hy; simp [h1, h2, ← hx, ← hy, Int.neg_mul, Int.mul_neg]
    · rw [if_neg h1] at hx; rw [if_pos h2] at hy; simp [h1, h2, ← hx, ← hy, Int.neg_mul, Int.mul_neg]
    · rw [if_neg h1] at hx; rw [if_neg h2] at hy; simp [h1, h2, ← hx, ← hy, Int.neg_mul, Int.mul_neg]
  rw [e]
  clear e hx hy x0 y0 ha hb
  generalize x * y = p at *
  generalize ((decide (a < 0)) != (decide (b < 0))) = s at *
  have e1 : sat_end.f true = some (-9223372036854775808) := rfl
  have e2 : sat_end.f false = some 9223372036854775807 := rfl
  cases s
  · simp only [e2, Option.bind_some, wrap64, Bool.false_eq_true, if_false]
    unfold satv
    (repeat' split) <;> (first | rfl | omega | (congr 1; omega))
  · simp only [e1, Option.bind_some, u64_wrap, wrap64, if_true]
    unfold satv
    (repeat' split) <;> (first | rfl | omega | (congr 1; omega))

end Go.Proofs.Ytljmecjciifceaa.Pure
namespace Go.Proofs.Ytljmecjciifceaa.Pure
open Go.RowKit Go.Proofs.Ytljmecjciifceaa.XSG Go.Proofs.YtljmecjciifceaaW.PrintWords Go.Proofs.YtljmecjciifceaaW.PrintLast Go.Proofs.YtljmecjciifceaaW.PrintMore

theorem refadd_eq (k : Nat) (a b : Int) (ha : -9223372036854775808 ≤ a ∧ a ≤ 9223372036854775807) (hb : -9223372036854775808 ≤ b ∧ b ≤ 9223372036854775807) : barrowref01_Add.f (k + 1) a b = some (satv (a + b)) := by
  unfold barrowref01_Add.f satv
  simp only [barrowref01_Add.j0, wrap64]
  by_cases h1 : a > 0
  · rw [if_pos h1]
    by_cases h2 : b > (9223372036854775807 - a + 9223372036854775808) % 18446744073709551616 - 9223372036854775808
    · rw [if_pos (decide_eq_true h2), if_pos (by omega)]
    · rw [if_neg (by simpa using h2), if_neg (by omega), if_neg (by omega), if_neg (by omega)]; congr 1; omega
  · rw [if_neg h1, if_neg (by decide)]
    (repeat' split) <;> (first | rfl | omega | (congr 1; omega))
theorem refsub_eq (k : Nat) (a b : Int) (ha : -9223372036854775808 ≤ a ∧ a ≤ 9223372036854775807) (hb : -9223372036854775808 ≤ b ∧ b ≤ 9223372036854775807) : barrowref01_Sub.f (k + 1) a b = some (satv (a - b)) := by
  unfold barrowref01_Sub.f satv
  simp only [barrowref01_Sub.j0, wrap64]
  by_cases h1 : b < 0
  · rw [if_pos h1]
    by_cases h2 : a > (9223372036854775807 + b + 9223372036854775808) % 18446744073709551616 - 9223372036854775808
    · rw [if_pos (decide_eq_true h2), if_pos (by omega)]
    · rw [if_neg (by simpa using h2), if_neg (by omega), if_neg (by omega), if_neg (by omega)]; congr 1; omega
  · rw [if_neg h1, if_neg (by decide)]
    (repeat' split) <;> (first | rfl | omega | (congr 1; omega))
theorem refmul_eq (a b : Int) (ha : -9223372036854775808 ≤ a ∧ a ≤ 9223372036854775807) (hb : -9223372036854775808 ≤ b ∧ b ≤ 9223372036854775807) : barrowref01_Mul.f a b = some (satv (a * b)) := by
  unfold barrowref01_Mul.f
  rw [if_pos ⟨ha, hb⟩]; rfl
end Go.Proofs.Ytljmecjciifceaa.Pure
namespace Go.Proofs.Ytljmecjciifceaa.Pure
open Go.RowKit Go.Proofs.Ytljmecjciifceaa.XSG Go.Proofs.YtljmecjciifceaaW.PrintWords Go.Proofs.YtljmecjciifceaaW.PrintLast

/-- With rounds enough it is so. -/
def Ev (P : Nat → Prop) : Prop := ∃ K, ∀ k, K ≤ k → P k
theorem Ev.ge (B : Nat) : Ev (fun k => B ≤ k) := ⟨B, fun _ h => h⟩
theorem Ev.and {P Q : Nat → Prop} (h : Ev P) (h' : Ev Q) : Ev (fun k => P k ∧ Q k) := by
  obtain ⟨K, h⟩ := h
  obtain ⟨K', h'⟩ := h'
  exact ⟨max K K', fun k hk => ⟨h k (by omega), h' k (by omega)⟩⟩
theorem Ev.imp {P Q : Nat → Prop} (h : Ev P) (hs : ∀ k, P k → Q k) : Ev Q := let ⟨K, h⟩ := h; ⟨K, fun k hk => hs k (h k hk)⟩
theorem Ev.get {P : Nat → Prop} (h : Ev P) : ∃ k, P k := let ⟨K, h⟩ := h; ⟨K, h K (Nat.le_refl _)⟩
theorem Ev.of {α : Type} {f : Nat → Option α} (hm : ∀ k, LeO (f k) (f (k + 1))) {K : Nat} {v : α} (h : f K = some v) : Ev (fun k => f k = some v) := by
  refine ⟨K, fun k hk => ?_⟩
  obtain ⟨d, rfl⟩ := Nat.exists_eq_add_of_le hk
  induction d with
  | zero => exact h
  | succ d ih => exact hm _ _ (ih (by omega))
abbrev In64 (a : Int) : Prop := -9223372036854775808 ≤ a ∧ a ≤ 9223372036854775807
theorem satv64 (x : Int) : In64 (satv x) := by unfold satv; (repeat' split) <;> constructor <;> omega
theorem mn_min (a b : Int) : mn a b = min a b := by unfold mn; split <;> omega
theorem mx_max (a b : Int) : mx a b = max a b := by unfold mx; split <;> omega
theorem wrap64_in {x : Int} (h : In64 x) : wrap64 x = x := by unfold wrap64; omega
def RightG (w h : Int) (l : List Bool) : Prop := 1 ≤ w ∧ w ≤ 256 ∧ 1 ≤ h ∧ h ≤ 256 ∧ (l.length : Int) = w * h
instance (w h : Int) (l : List Bool) : Decidable (RightG w h l) := by unfold RightG; infer_instance
def Ins (w h x y : Int) : Prop := 0 ≤ x ∧ x < w ∧ 0 ≤ y ∧ y < h
instance (w h x y : Int) : Decidable (Ins w h x y) := by unfold Ins; infer_instance
theorem mul_small {w h : Int} (h1 : 1 ≤ w) (h2 : w ≤ 256) (h3 : 1 ≤ h) (h4 : h ≤ 256) : 1 ≤ w * h ∧ w * h ≤ 65536 := by
  have a1 := Int.mul_le_mul h1 h3 (by decide : (0 : Int) ≤ 1) (by omega)
  have a2 := Int.mul_le_mul h2 h4 (by omega) (by decide : (0 : Int) ≤ 256)
  omega
theorem rright_eq (w h : Int) (l : List Bool) : barrowref06_Right.f w h l = some (decide (RightG w h l)) := by
  unfold barrowref06_Right.f
  by_cases h1 : w ≥ 1
  · by_cases h2 : w ≤ 256
    · by_cases h3 : h ≥ 1
      · by_cases h4 : h ≤ 256
        · have := mul_small h1 h2 h3 h4
          rw [if_pos h1, if_pos h2, if_pos h3, if_pos h4, wrap64_in (by omega)]
          congr 1
          rw [Bool.eq_iff_iff]
          simp only [beq_iff_eq, decide_eq_true_eq]
          unfold RightG
          omega
        · rw [if_pos h1, if_pos h2, if_pos h3, if_neg h4]; congr 1; symm; rw [decide_eq_false_iff_not]; unfold RightG; omega
      · rw [if_pos h1, if_pos h2, if_neg h3]; congr 1; symm; rw [decide_eq_false_iff_not]; unfold RightG; omega
    · rw [if_pos h1, if_neg h2]; congr 1; symm; rw [decide_eq_false_iff_not]; unfold RightG; omega
  · rw [if_neg h1]; congr 1; symm; rw [decide_eq_false_iff_not]; unfold RightG; omega
theorem right_eq (w h : Int) (l : List Bool) : grid_Right.f w h l = some (decide (RightG w h l)) := by
  rw [← rright_eq]
  unfold barrowref06_Right.f grid_Right.f grid_Right_1.f
  by_cases h1 : w ≥ 1
  · by_cases h2 : w ≤ 256
    · by_cases h3 : h ≥ 1
      · by_cases h4 : h ≤ 256 <;> simp [h1, h2, h3, h4]
      · simp [h1, h2, h3]
    · simp [h1, h2]
  · simp [h1]
theorem inside_eq (w h : Int) (l : List Bool) (x y : Int) : grid_inside.f w h l x y = some (decide (Ins w h x y)) := by
  unfold grid_inside.f Ins
  by_cases h1 : x ≥ 0
  · by_cases h2 : x < w
    · by_cases h3 : y ≥ 0
      · by_cases h4 : y < h <;> simp [h1, h2, h3, h4]
      · simp [h1, h2, h3]
    · simp [h1, h2]
  · simp [h1]
theorem in_eq (w h : Int) (l : List Bool) (x y : Int) : grid_In.f w h l x y = some (decide (RightG w h l ∧ Ins w h x y)) := by
  unfold grid_In.f
  rw [right_eq]
  by_cases h1 : RightG w h l
  · simp [h1, inside_eq]
  · simp [h1]
theorem rin_eq (w h : Int) (l : List Bool) (x y : Int) : barrowref06_In.f w h l x y = some (decide (RightG w h l ∧ Ins w h x y)) := by
  unfold barrowref06_In.f
  rw [rright_eq]
  by_cases h0 : RightG w h l
  · simp only [Option.bind_some, h0, decide_true, if_true, true_and]
    unfold Ins
    by_cases h1 : x ≥ 0
    · by_cases h2 : x < w
      · by_cases h3 : y ≥ 0
        · by_cases h4 : y < h <;> simp [h1, h2, h3, h4]
        · simp [h1, h2, h3]
      · simp [h1, h2]
    · simp [h1]
  · simp [h0]
/-- The place of a tile. -/
theorem place {w h x y : Int} {l : List Bool} (hr : RightG w h l) (hi : Ins w h x y) : wrap64 (wrap64 (y * w) + x) = y * w + x ∧ 0 ≤ y * w + x ∧ y * w + x < (l.length : Int) := by
  obtain ⟨r1, r2, r3, r4, r5⟩ := hr
  obtain ⟨i1, i2, i3, i4⟩ := hi
  have m1 := Int.mul_nonneg i3 (by omega : (0 : Int) ≤ w)
  have m2 : (y + 1) * w ≤ h * w := Int.mul_le_mul_of_nonneg_right (by omega) (by omega)
  rw [Int.add_mul] at m2
  have m3 := Int.mul_comm h w
  have m4 := mul_small r1 r2 r3 r4
  rw [wrap64_in (x := y * w) (by omega), wrap64_in (by omega)]
  omega
def wallv (w : Int) (l : List Bool) (x y : Int) : Bool := rdOf false l (y * w + x)
theorem wall_eq {w h x y : Int} {l : List Bool} (hr : RightG w h l) (hi : Ins w h x y) : grid_wall.f w h l x y = some (wallv w l x y) := by
  obtain ⟨h1, h2, h3⟩ := place hr hi
  unfold grid_wall.f
  simp only [h1, if_pos h2, if_pos h3, Option.bind_some]
  unfold wallv
  try cases rdOf false l (y * w + x) <;> rfl
theorem rwall_eq {w h x y : Int} {l : List Bool} (hr : RightG w h l) (hi : Ins w h x y) : barrowref06_Wall.f w h l x y = some (wallv w l x y) := by
  obtain ⟨h1, h2, h3⟩ := place hr hi
  unfold barrowref06_Wall.f
  rw [rin_eq, decide_eq_true ⟨hr, hi⟩]
  simp only [h1, if_pos h2, if_pos h3, Option.bind_some, if_true]
  unfold wallv
  try cases rdOf false l (y * w + x) <;> rfl
end Go.Proofs.Ytljmecjciifceaa.Pure
namespace Go.Proofs.Ytljmecjciifceaa.Pure
open Go.RowKit Go.Proofs.Ytljmecjciifceaa.XSG Go.Proofs.YtljmecjciifceaaW.PrintWords Go.Proofs.YtljmecjciifceaaW.PrintLast Go.Proofs.YtljmecjciifceaaW.PrintMore

def farv (a b : Int) : Int := satv (max a b - min a b)
theorem farv64 (a b : Int) : In64 (farv a b) := satv64 _
theorem far_eq (k : Nat) (a b : Int) (ha : In64 a) (hb : In64 b) : grid_far.f (k + 1) a b = some (farv a b) := by
  unfold grid_far.f
  rw [mx_max, mn_min, sub_eq k _ _ (by omega) (by omega)]
  rfl
theorem rfar_eq (k : Nat) (a b : Int) (ha : In64 a) (hb : In64 b) : barrowref06_far.f (k + 1) a b = some (farv a b) := by
  unfold barrowref06_far.f farv
  split
  · rw [refsub_eq k _ _ hb ha]
    simp only [Option.bind_some]
    congr 2; omega
  · rw [refsub_eq k _ _ ha hb]
    simp only [Option.bind_some]
    congr 2; omega
def sqv (ax ay bx by_ : Int) : Int := satv (satv (farv ax bx * farv ax bx) + satv (farv ay by_ * farv ay by_))
def stepsv (ax ay bx by_ : Int) : Int := max (farv ax bx) (farv ay by_)
def nearv (ax ay bx by_ r : Int) : Bool := if r ≥ 0 then decide (sqv ax ay bx by_ ≤ satv (r * r)) else false
section
variable (k : Nat) (ax ay bx by_ : Int) (hax : In64 ax) (hay : In64 ay) (hbx : In64 bx) (hby : In64 by_)
include hax hay hbx hby
theorem square_eq : grid_Square.f (k + 1) ax ay bx by_ = some (sqv ax ay bx by_) := by
  unfold grid_Square.f sqv
  rw [far_eq k ax bx hax hbx, far_eq k ay by_ hay hby]
  simp only [Option.bind_some]
  rw [mul_eq _ _ (farv64 _ _) (farv64 _ _), mul_eq _ _ (farv64 _ _) (farv64 _ _)]
  simp only [Option.bind_some]
  rw [add_eq k _ _ (satv64 _) (satv64 _)]
  rfl
theorem rsquare_eq : barrowref06_Square.f (k + 1) ax ay bx by_ = some (sqv ax ay bx by_) := by
  unfold barrowref06_Square.f sqv
  rw [rfar_eq k ax bx hax hbx, rfar_eq k ay by_ hay hby]
  simp only [Option.bind_some]
  rw [refmul_eq _ _ (farv64 _ _) (farv64 _ _), refmul_eq _ _ (farv64 _ _) (farv64 _ _)]
  simp only [Option.bind_some]
  rw [refadd_eq k _ _ (satv64 _) (satv64 _)]
  rfl
theorem steps_eq : grid_Steps.f (k + 1) ax ay bx by_ = some (stepsv ax ay bx by_) := by
  unfold grid_Steps.f stepsv
  rw [far_eq k ax bx hax hbx, far_eq k ay by_ hay hby]
  simp only [Option.bind_some, mx_max]
theorem near_eq (r : Int) (hr : In64 r) : grid_Near.f (k + 1) ax ay bx by_ r = some (nearv ax ay bx by_ r) := by
  unfold grid_Near.f nearv
  split
  · rw [square_eq k ax ay bx by_ hax hay hbx hby]
    simp only [Option.bind_some]
    rw [mul_eq _ _ hr hr]
    rfl
  · rfl
end
theorem farv_comm (a b : Int) : farv a b = farv b a := by unfold farv; rw [show max a b - min a b = max b a - min b a by omega]
theorem farv_nonneg (a b : Int) : 0 ≤ farv a b := by unfold farv satv; (repeat' split) <;> omega
theorem farv_zero (a b : Int) : farv a b = 0 ↔ a = b := by unfold farv satv; (repeat' split) <;> omega
theorem sqv_comm (ax ay bx by_ : Int) : sqv ax ay bx by_ = sqv bx by_ ax ay := by unfold sqv; rw [farv_comm ax, farv_comm ay]
theorem stepsv_comm (ax ay bx by_ : Int) : stepsv ax ay bx by_ = stepsv bx by_ ax ay := by unfold stepsv; rw [farv_comm ax, farv_comm ay]
theorem stepsv_nonneg (ax ay bx by_ : Int) : 0 ≤ stepsv ax ay bx by_ := by unfold stepsv; have := farv_nonneg ax bx; omega
theorem stepsv_zero (ax ay bx by_ : Int) : stepsv ax ay bx by_ = 0 ↔ ax = bx ∧ ay = by_ := by
  have h1 := farv_zero ax bx
  have h2 := farv_zero ay by_
  have h3 := farv_nonneg ax bx
  have h4 := farv_nonneg ay by_
  unfold stepsv
  omega
theorem self_le {d : Int} (h : 0 ≤ d) : d ≤ d * d := by
  rcases Int.lt_or_le d 1 with h1 | h1
  · have : d = 0 := by omega
    subst this; decide
  · have := Int.mul_le_mul_of_nonneg_right h1 h
    omega
/-- A square, cut at the end, is above each number from 0 to 2^62 whose square is less. -/
theorem satv_sq {d : Int} (h : 0 ≤ d) (hd : In64 d) : 0 ≤ satv (d * d) ∧ d ≤ satv (d * d) := by
  have := self_le h
  unfold satv
  (repeat' split) <;> omega
theorem sqv_nonneg (ax ay bx by_ : Int) : 0 ≤ sqv ax ay bx by_ := by
  have h1 := (satv_sq (farv_nonneg ax bx) (farv64 ax bx)).1
  have h2 := (satv_sq (farv_nonneg ay by_) (farv64 ay by_)).1
  unfold sqv
  generalize satv (farv ax bx * farv ax bx) = p at *
  generalize satv (farv ay by_ * farv ay by_) = q at *
  unfold satv
  (repeat' split) <;> omega
theorem sqv_ge (ax ay bx by_ : Int) : satv (farv ax bx * farv ax bx) ≤ sqv ax ay bx by_ ∧ satv (farv ay by_ * farv ay by_) ≤ sqv ax ay bx by_ := by
  have h1 := (satv_sq (farv_nonneg ax bx) (farv64 ax bx)).1
  have h2 := (satv_sq (farv_nonneg ay by_) (farv64 ay by_)).1
  have h3 := satv64 (farv ax bx * farv ax bx)
  have h4 := satv64 (farv ay by_ * farv ay by_)
  unfold sqv
  generalize satv (farv ax bx * farv ax bx) = p at *
  generalize satv (farv ay by_ * farv ay by_) = q at *
  unfold satv
  (repeat' split) <;> omega
theorem sqv_zero (ax ay bx by_ : Int) : sqv ax ay bx by_ = 0 ↔ ax = bx ∧ ay = by_ := by
  constructor
  · intro h
    have h1 := sqv_ge ax ay bx by_
    have h2 := satv_sq (farv_nonneg ax bx) (farv64 ax bx)
    have h3 := satv_sq (farv_nonneg ay by_) (farv64 ay by_)
    have h4 := farv_nonneg ax bx
    have h5 := farv_nonneg ay by_
    have h6 := farv_zero ax bx
    have h7 := farv_zero ay by_
    omega
  · rintro ⟨rfl, rfl⟩
    have h1 := (farv_zero ax ax).2 rfl
    have h2 := (farv_zero ay ay).2 rfl
    unfold sqv
    rw [h1, h2]
    decide
theorem nearv_comm (ax ay bx by_ r : Int) : nearv ax ay bx by_ r = nearv bx by_ ax ay r := by unfold nearv; rw [sqv_comm]
theorem nearv_steps (ax ay bx by_ r : Int) (h : nearv ax ay bx by_ r = true) (hr : r ≤ 2147483648) : stepsv ax ay bx by_ ≤ r := by
  unfold nearv at h
  split at h
  · rename_i h0
    have h1 := of_decide_eq_true h
    have h2 := sqv_ge ax ay bx by_
    have hrr : r * r ≤ 4611686018427387904 := by
      have := Int.mul_le_mul hr hr h0 (by decide : (0 : Int) ≤ 2147483648)
      omega
    have hr0 : 0 ≤ r * r := Int.mul_nonneg h0 h0
    rw [satv_in (by omega)] at h1
    have key : ∀ d : Int, 0 ≤ d → satv (d * d) ≤ r * r → d ≤ r := by
      intro d hd hs
      rcases Int.lt_or_le r d with hlt | hle
      · have h5 : (r + 1) * (r + 1) ≤ d * d := Int.mul_le_mul (by omega) (by omega) (by omega) hd
        have h6 : (r + 1) * (r + 1) = r * r + 2 * r + 1 := by rw [Int.add_mul, Int.mul_add]; omega
        unfold satv at hs
        (repeat' split at hs) <;> omega
      · exact hle
    have h7 := key _ (farv_nonneg ax bx) (by omega)
    have h8 := key _ (farv_nonneg ay by_) (by omega)
    unfold stepsv
    omega
  · cases h
theorem nearv_self (ax ay r : Int) (hr : 0 ≤ r) : nearv ax ay ax ay r = true := by
  unfold nearv
  rw [if_pos hr, (sqv_zero ax ay ax ay).2 ⟨rfl, rfl⟩]
  have := Int.mul_nonneg hr hr
  refine decide_eq_true ?_
  unfold satv
  (repeat' split) <;> omega
end Go.Proofs.Ytljmecjciifceaa.Pure
namespace Go.Proofs.Ytljmecjciifceaa.Pure
open Go.RowKit Go.Proofs.Ytljmecjciifceaa.XSG Go.Proofs.YtljmecjciifceaaW.PrintWords Go.Proofs.YtljmecjciifceaaW.PrintLast

abbrev Bx (v : Int) : Prop := 0 ≤ v ∧ v ≤ 255
theorem small_mul {p q : Int} (hp : -255 ≤ p ∧ p ≤ 255) (hq : -255 ≤ q ∧ q ≤ 255) : -65025 ≤ p * q ∧ p * q ≤ 65025 := by
  have key : ∀ p q : Int, 0 ≤ p → p ≤ 255 → 0 ≤ q → q ≤ 255 → 0 ≤ p * q ∧ p * q ≤ 65025 := fun p q h1 h2 h3 h4 =>
    ⟨Int.mul_nonneg h1 h3, by have := Int.mul_le_mul h2 h4 h3 (by decide : (0 : Int) ≤ 255); omega⟩
  rcases Int.lt_or_le p 0 with h | h
  · rcases Int.lt_or_le q 0 with h' | h'
    · have := key (-p) (-q) (by omega) (by omega) (by omega) (by omega)
      rw [Int.neg_mul_neg] at this; omega
    · have := key (-p) q (by omega) (by omega) (by omega) (by omega)
      rw [Int.neg_mul] at this; omega
  · rcases Int.lt_or_le q 0 with h' | h'
    · have := key p (-q) (by omega) (by omega) (by omega) (by omega)
      rw [Int.mul_neg] at this; omega
    · have := key p q (by omega) (by omega) (by omega) (by omega)
      omega
/-- How far beside the line. -/
def nn (ax ay bx by_ x y : Int) : Int := (bx - ax) * (y - ay) - (by_ - ay) * (x - ax)
def lenv (ax ay bx by_ : Int) : Int := max (bx - ax) (ax - bx) + max (by_ - ay) (ay - by_)
/-- The line touches the tile. -/
def TP (ax ay bx by_ x y : Int) : Prop := 2 * max (nn ax ay bx by_ x y) (-(nn ax ay bx by_ x y)) ≤ lenv ax ay bx by_
instance (ax ay bx by_ x y : Int) : Decidable (TP ax ay bx by_ x y) := by unfold TP; infer_instance
theorem reach_eq {ax ay bx by_ : Int} (h1 : Bx ax) (h2 : Bx ay) (h3 : Bx bx) (h4 : Bx by_) : sight_lane_reach.f ax ay bx by_ = some (lenv ax ay bx by_) := by
  unfold sight_lane_reach.f sight_far.f lenv
  simp only [Option.bind_some, mx_max]
  rw [wrap64_in (x := ax - bx) (by omega), wrap64_in (x := bx - ax) (by omega), wrap64_in (x := ay - by_) (by omega), wrap64_in (x := by_ - ay) (by omega), wrap64_in (by omega)]
  congr 1
  omega
theorem beside_eq {ax ay bx by_ x y : Int} (h1 : Bx ax) (h2 : Bx ay) (h3 : Bx bx) (h4 : Bx by_) (h5 : Bx x) (h6 : Bx y) : sight_lane_beside.f ax ay bx by_ x y = some (2 * max (nn ax ay bx by_ x y) (-(nn ax ay bx by_ x y))) := by
  unfold sight_lane_beside.f nn
  have m1 := small_mul (p := bx - ax) (q := y - ay) (by omega) (by omega)
  have m2 := small_mul (p := by_ - ay) (q := x - ax) (by omega) (by omega)
  simp only [mx_max]
  rw [wrap64_in (x := bx - ax) (by omega), wrap64_in (x := y - ay) (by omega), wrap64_in (x := by_ - ay) (by omega), wrap64_in (x := x - ax) (by omega), wrap64_in (x := (bx - ax) * (y - ay)) (by omega), wrap64_in (x := (by_ - ay) * (x - ax)) (by omega),
    wrap64_in (x := (bx - ax) * (y - ay) - (by_ - ay) * (x - ax)) (by omega), wrap64_in (x := -((bx - ax) * (y - ay) - (by_ - ay) * (x - ax))) (by omega), wrap64_in (by omega)]
section
variable (ax ay bx by_ : Int)
/-- A row of the line, from x on: m tiles are left. -/
def rowL (y : Int) : Nat → Int → List (Int × Int)
  | 0, _ => []
  | m + 1, x => if TP ax ay bx by_ x y then (x, y) :: rowL y m (x + 1) else rowL y m (x + 1)
/-- The line, from y on: r rows are left. -/
def lineL (W : Nat) (x0 : Int) : Nat → Int → List (Int × Int)
  | 0, _ => []
  | r + 1, y => rowL ax ay bx by_ y W x0 ++ lineL W x0 r (y + 1)
/-- Behind a tile that is touched and one that is not, none is. -/
theorem row_done {y x1 x2 : Int} (h1 : TP ax ay bx by_ x1 y) (h12 : x1 < x2) (h2 : ¬ TP ax ay bx by_ x2 y) : ∀ (m : Nat) (x : Int), x2 < x → rowL ax ay bx by_ y m x = []
  | 0, _, _ => rfl
  | m + 1, x, hx => by
    rw [rowL, if_neg, row_done h1 h12 h2 m (x + 1) (by omega)]
    intro h3
    apply h2
    unfold TP nn at *
    -- between two that are touched
    generalize (bx - ax) * (y - ay) = c at *
    have e1 : (by_ - ay) * (x2 - ax) = (by_ - ay) * (x1 - ax) + (by_ - ay) * (x2 - x1) := by rw [← Int.mul_add]; congr 1; omega
    have e3 : (by_ - ay) * (x - ax) = (by_ - ay) * (x1 - ax) + (by_ - ay) * (x2 - x1) + (by_ - ay) * (x - x2) := by rw [← Int.mul_add, ← Int.mul_add]; congr 1; omega
    rcases Int.lt_or_le (by_ - ay) 0 with hd | hd
    · have p1 := Int.mul_nonneg_of_nonpos_of_nonpos (by omega : by_ - ay ≤ 0) (by omega : -(x2 - x1) ≤ 0)
      have p2 := Int.mul_nonneg_of_nonpos_of_nonpos (by omega : by_ - ay ≤ 0) (by omega : -(x - x2) ≤ 0)
      rw [Int.mul_neg] at p1 p2
      omega
    · have p1 := Int.mul_nonneg hd (by omega : 0 ≤ x2 - x1)
      have p2 := Int.mul_nonneg hd (by omega : 0 ≤ x - x2)
      omega
end
/-- What is done along a line: step tells whether one goes on. -/
def foldS {σ : Type} (step : σ → Int → Int → Option (Bool × σ)) : List (Int × Int) → σ → Option σ
  | [], s => some s
  | p :: l, s => (step s p.1 p.2).bind fun r => if r.1 = true then foldS step l r.2 else some r.2
/-- The lane's two loops do that along the line. -/
theorem all_fold {σ τ : Type} {ax ay bx by_ : Int} (h1 : Bx ax) (h2 : Bx ay) (h3 : Bx bx) (h4 : Bx by_) (l0 : Nat → Int → σ → Option τ) (l1 : Nat → Int → Bool → Int → σ → Option τ) (fin : σ → τ) (step : σ → Int → Int → Option (Bool × σ)) (I : σ → Prop) (K : Nat)
    (hI : ∀ s x y r, I s → Bx x → Bx y → step s x y = some r → I r.2)
    (e0 : ∀ k y s, min ay by_ ≤ y → y ≤ max ay by_ → l0 (k + 1) y s = l1 k y false (min ax bx) s)
    (e0' : ∀ k y s, y = max ay by_ + 1 → l0 (k + 1) y s = some (fin s))
    (e1 : ∀ k y met x s, K ≤ k → min ay by_ ≤ y → y ≤ max ay by_ → min ax bx ≤ x → x ≤ max ax bx → I s → l1 (k + 1) y met x s = if TP ax ay bx by_ x y then ((step s x y).bind fun r => if r.1 = true then l1 k y true (x + 1) r.2 else some (fin r.2)) else (if met = true then l0 k (y + 1) s else l1 k y false (x + 1) s))
    (e1' : ∀ k y met x s, min ay by_ ≤ y → y ≤ max ay by_ → x = max ax bx + 1 → l1 (k + 1) y met x s = l0 k (y + 1) s) :
    ∀ (r : Nat) (y : Int) (s : σ) (k : Nat), (r : Int) = max ay by_ + 1 - y → min ay by_ ≤ y → K + 300 * r + 2 ≤ k → I s →
      l0 k y s = (foldS step (lineL ax ay bx by_ (max ax bx + 1 - min ax bx).toNat (min ax bx) r y) s).map fin := by
  intro r
  induction r with
  | zero =>
    intro y s k hr hy hk _
    obtain ⟨k, rfl⟩ : ∃ q, k = q + 1 := ⟨k - 1, by omega⟩
    rw [e0' k y s (by omega)]
    rfl
  | succ r ihr =>
    intro y s k hr hy hk hs0
    obtain ⟨k, rfl⟩ : ∃ q, k = q + 1 := ⟨k - 1, by omega⟩
    rw [e0 k y s (by omega) (by omega)]
    have row : ∀ (m : Nat) (x : Int) (met : Bool) (s : σ) (k : Nat), (m : Int) = max ax bx + 1 - x → min ax bx ≤ x → K + 300 * r + 3 + m ≤ k → (met = true → ∃ x1, x1 < x ∧ TP ax ay bx by_ x1 y) → I s →
        l1 k y met x s = (foldS step (rowL ax ay bx by_ y m x ++ lineL ax ay bx by_ (max ax bx + 1 - min ax bx).toNat (min ax bx) r (y + 1)) s).map fin := by
      intro m
      induction m with
      | zero =>
        intro x met s k hm hx hk hmet hs
        obtain ⟨k, rfl⟩ : ∃ q, k = q + 1 := ⟨k - 1, by omega⟩
        rw [e1' k y met x s (by omega) (by omega) (by omega), ihr (y + 1) s k (by omega) (by omega) (by omega) hs]
        rfl
      | succ m ihm =>
        intro x met s k hm hx hk hmet hs
        obtain ⟨k, rfl⟩ : ∃ q, k = q + 1 := ⟨k - 1, by omega⟩
        rw [e1 k y met x s (by omega) (by omega) (by omega) (by omega) (by omega) hs, rowL]
        by_cases ht : TP ax ay bx by_ x y
        · rw [if_pos ht, if_pos ht]
          simp only [List.cons_append, foldS]
          cases hst : step s x y with
          | none => rfl
          | some r' =>
            simp only [Option.bind_some]
            split
            · exact ihm (x + 1) true r'.2 k (by omega) (by omega) (by omega) (fun _ => ⟨x, by omega, ht⟩) (hI s x y r' hs (by omega) (by omega) hst)
            · rfl
        · rw [if_neg ht, if_neg ht]
          by_cases hmt : met = true
          · rw [if_pos hmt]
            obtain ⟨x1, hx1, ht1⟩ := hmet hmt
            rw [row_done ax ay bx by_ ht1 hx1 ht m (x + 1) (by omega), List.nil_append]
            exact ihr (y + 1) s k (by omega) (by omega) (by omega) hs
          · rw [if_neg hmt]
            exact ihm (x + 1) false s k (by omega) (by omega) (by omega) (fun h => by cases h) hs
    rw [row (max ax bx + 1 - min ax bx).toNat (min ax bx) false s k (by omega) (by omega) (by omega) (fun h => by cases h) hs0, lineL]
/-- The line between two tiles. -/
def linev (ax ay bx by_ : Int) : List (Int × Int) := lineL ax ay bx by_ (max ax bx + 1 - min ax bx).toNat (min ax bx) (max ay by_ + 1 - min ay by_).toNat (min ay by_)
theorem rowL_mem {ax ay bx by_ y : Int} {p : Int × Int} : ∀ {m : Nat} {x : Int}, p ∈ rowL ax ay bx by_ y m x ↔ p.2 = y ∧ x ≤ p.1 ∧ p.1 < x + m ∧ TP ax ay bx by_ p.1 p.2
  | 0, x => by simp [rowL]; omega
  | m + 1, x => by
    rw [rowL]
    by_cases ht : TP ax ay bx by_ x y
    · rw [if_pos ht, List.mem_cons, rowL_mem]
      constructor
      · rintro (rfl | ⟨h1, h2, h3, h4⟩)
        · exact ⟨rfl, by simp, by simp; omega, ht⟩
        · exact ⟨h1, by omega, by omega, h4⟩
      · rintro ⟨h1, h2, h3, h4⟩
        rcases Int.lt_or_le x p.1 with h | h
        · exact .inr ⟨h1, by omega, by omega, h4⟩
        · exact .inl (Prod.ext (by omega) h1)
    · rw [if_neg ht, rowL_mem]
      constructor
      · rintro ⟨h1, h2, h3, h4⟩
        exact ⟨h1, by omega, by omega, h4⟩
      · rintro ⟨h1, h2, h3, h4⟩
        refine ⟨h1, ?_, by omega, h4⟩
        rcases Int.lt_or_le x p.1 with h | h
        · omega
        · have : p.1 = x := by omega
          rw [this, h1] at h4
          exact absurd h4 ht
theorem lineL_mem {ax ay bx by_ : Int} {W : Nat} {x0 : Int} {p : Int × Int} : ∀ {r : Nat} {y : Int}, p ∈ lineL ax ay bx by_ W x0 r y ↔ y ≤ p.2 ∧ p.2 < y + r ∧ x0 ≤ p.1 ∧ p.1 < x0 + W ∧ TP ax ay bx by_ p.1 p.2
  | 0, y => by simp [lineL]; omega
  | r + 1, y => by
    rw [lineL, List.mem_append, rowL_mem, lineL_mem]
    constructor
    · rintro (⟨h1, h2, h3, h4⟩ | ⟨h1, h2, h3, h4, h5⟩)
      · exact ⟨by omega, by omega, h2, h3, h4⟩
      · exact ⟨by omega, by omega, h3, h4, h5⟩
    · rintro ⟨h1, h2, h3, h4, h5⟩
      rcases Int.lt_or_le y p.2 with h | h
      · exact .inr ⟨by omega, by omega, h3, h4, h5⟩
      · exact .inl ⟨by omega, h3, h4, h5⟩
theorem linev_mem {ax ay bx by_ : Int} {p : Int × Int} : p ∈ linev ax ay bx by_ ↔ min ay by_ ≤ p.2 ∧ p.2 ≤ max ay by_ ∧ min ax bx ≤ p.1 ∧ p.1 ≤ max ax bx ∧ TP ax ay bx by_ p.1 p.2 := by
  unfold linev
  rw [lineL_mem]
  constructor <;> (rintro ⟨h1, h2, h3, h4, h5⟩; exact ⟨by omega, by omega, by omega, by omega, h5⟩)
theorem rowL_len {ax ay bx by_ y : Int} : ∀ (m : Nat) (x : Int), (rowL ax ay bx by_ y m x).length ≤ m
  | 0, _ => Nat.le_refl _
  | m + 1, x => by
    have := rowL_len (ax := ax) (ay := ay) (bx := bx) (by_ := by_) (y := y) m (x + 1)
    rw [rowL]
    split
    · rw [List.length_cons]; omega
    · omega
theorem lineL_len {ax ay bx by_ : Int} {W : Nat} {x0 : Int} : ∀ (r : Nat) (y : Int), (lineL ax ay bx by_ W x0 r y).length ≤ r * W
  | 0, _ => by simp [lineL]
  | r + 1, y => by
    have h1 := lineL_len (ax := ax) (ay := ay) (bx := bx) (by_ := by_) (W := W) (x0 := x0) r (y + 1)
    have h2 := rowL_len (ax := ax) (ay := ay) (bx := bx) (by_ := by_) (y := y) W x0
    rw [lineL, List.length_append, Nat.add_mul]
    omega
theorem linev_len {ax ay bx by_ : Int} (h1 : Bx ax) (h2 : Bx ay) (h3 : Bx bx) (h4 : Bx by_) : (linev ax ay bx by_).length ≤ 65536 := by
  have := lineL_len (ax := ax) (ay := ay) (bx := bx) (by_ := by_) (W := (max ax bx + 1 - min ax bx).toNat) (x0 := min ax bx) (max ay by_ + 1 - min ay by_).toNat (min ay by_)
  have h5 : (max ay by_ + 1 - min ay by_).toNat * (max ax bx + 1 - min ax bx).toNat ≤ 256 * 256 := Nat.mul_le_mul (by omega) (by omega)
  unfold linev
  omega
end Go.Proofs.Ytljmecjciifceaa.Pure
namespace Go.Proofs.Ytljmecjciifceaa.Pure
open Go.RowKit Go.Proofs.Ytljmecjciifceaa.XSG Go.Proofs.YtljmecjciifceaaW.PrintWords Go.Proofs.YtljmecjciifceaaW.PrintLast

def toS (p : Int × Int) : S26 := ⟨p.1, p.2⟩
theorem rg_box {w h x y : Int} {l : List Bool} (hr : RightG w h l) (hi : Ins w h x y) : Bx x ∧ Bx y := by
  obtain ⟨r1, r2, r3, r4, r5⟩ := hr
  unfold Ins at hi
  omega
theorem ins_between {w h ax ay bx by_ x y : Int} (ha : Ins w h ax ay) (hb : Ins w h bx by_) (h1 : min ax bx ≤ x) (h2 : x ≤ max ax bx) (h3 : min ay by_ ≤ y) (h4 : y ≤ max ay by_) : Ins w h x y := by
  unfold Ins at *
  omega
theorem between_eq (w h : Int) (l : List Bool) (ax ay bx by_ : Int) : sight_between.f w h l ax ay bx by_ = some (ax, ay, bx, by_, decide (RightG w h l ∧ Ins w h ax ay ∧ Ins w h bx by_)) := by
  unfold sight_between.f
  rw [in_eq, in_eq]
  simp only [Option.bind_some]
  by_cases h1 : RightG w h l ∧ Ins w h ax ay
  · rw [decide_eq_true h1, if_pos rfl]
    congr 5
    rw [decide_eq_decide]
    exact ⟨fun h => ⟨h.1, h1.2, h.2⟩, fun h => ⟨h.1, h.2.2⟩⟩
  · rw [decide_eq_false h1, if_neg (by decide)]
    congr 5
    symm
    rw [decide_eq_false_iff_not]
    exact fun h => h1 ⟨h.1, h.2.1⟩
theorem fold_line : ∀ (l : List (Int × Int)) (s : List S26), s.length + l.length < 8796093022208 → foldS (fun s x y => sight_Line_1_i1.f x y s) l s = some (s ++ l.map toS)
  | [], s, _ => by simp [foldS]
  | p :: l, s, h => by
    rw [List.length_cons] at h
    have e : sight_Line_1_i1.f p.1 p.2 s = some (true, s ++ [toS p]) := by
      unfold sight_Line_1_i1.f
      simp only [Option.bind_some, List.length_cons, List.length_nil]
      rw [if_pos (by omega)]
      rfl
    unfold foldS
    rw [e]
    simp only [Option.bind_some, if_true]
    rw [fold_line l _ (by rw [List.length_append]; simp; omega)]
    simp [toS]
theorem line_eq (w h : Int) (l : List Bool) (ax ay bx by_ : Int) (k : Nat) (hk : 80000 ≤ k) : sight_Line.f k w h l ax ay bx by_ = some (if RightG w h l ∧ Ins w h ax ay ∧ Ins w h bx by_ then (linev ax ay bx by_).map toS else []) := by
  unfold sight_Line.f
  rw [between_eq]
  simp only [Option.bind_some]
  by_cases hc : RightG w h l ∧ Ins w h ax ay ∧ Ins w h bx by_
  · rw [decide_eq_true hc, if_pos rfl, if_pos hc]
    obtain ⟨hr, ha, hb⟩ := hc
    obtain ⟨h1, h2⟩ := rg_box hr ha
    obtain ⟨h3, h4⟩ := rg_box hr hb
    unfold sight_lane_all_i2.f
    rw [reach_eq h1 h2 h3 h4, mn_min]
    simp only [Option.bind_some]
    have := all_fold h1 h2 h3 h4 (fun k y s => sight_lane_all_i2.l0 k ax ay bx by_ (lenv ax ay bx by_) y s) (fun k y met x s => sight_lane_all_i2.l1 k ax ay bx by_ (lenv ax ay bx by_) y met x s) id (fun s x y => sight_Line_1_i1.f x y s) (fun _ => True) 0 (fun _ _ _ _ _ _ _ _ => trivial)
      (fun k y s hy1 hy2 => by simp only [sight_lane_all_i2.l0, Option.bind_some, mx_max, mn_min]; rw [if_pos hy2])
      (fun k y s hy => by simp only [sight_lane_all_i2.l0, Option.bind_some, mx_max, mn_min]; rw [if_neg (by omega)]; rfl)
      (fun k y met x s _ hy1 hy2 hx1 hx2 _ => by
        simp only [sight_lane_all_i2.l1, Option.bind_some, mx_max]
        rw [if_pos hx2, beside_eq h1 h2 h3 h4 (by omega) (by omega)]
        simp only [Option.bind_some]
        rw [wrap64_in (x := x + 1) (by omega), wrap64_in (x := y + 1) (by omega)]
        rfl)
      (fun k y met x s hy1 hy2 hx => by
        simp only [sight_lane_all_i2.l1, Option.bind_some, mx_max]
        rw [if_neg (by omega), wrap64_in (x := y + 1) (by omega)])
      (max ay by_ + 1 - min ay by_).toNat (min ay by_) ([] : List S26) k (by omega) (by omega) (by omega) trivial
    have hl := linev_len h1 h2 h3 h4
    unfold linev at hl
    rw [this, fold_line _ _ (by simp only [List.length_nil]; omega)]
    simp [linev]
  · rw [decide_eq_false hc, if_neg (by decide), if_neg hc]
/-- A wall that stands between. -/
def wb (w : Int) (l : List Bool) (ax ay bx by_ x y : Int) : Bool := !(x == ax && y == ay) && !(x == bx && y == by_) && wallv w l x y
theorem walls_eq {w h : Int} {l : List Bool} {ax ay bx by_ x y : Int} (hr : RightG w h l) (hi : Ins w h x y) : sight_lane_walls_1_i1.f x y ax ay bx by_ w h l = some (wb w l ax ay bx by_ x y, ax, ay, bx, by_, w, h) := by
  obtain ⟨p1, p2, p3⟩ := place hr hi
  unfold sight_lane_walls_1_i1.f wb
  by_cases h1 : x = ax ∧ y = ay
  · simp [h1.1, h1.2]
  · have e1 : (x == ax && y == ay) = false := by simp; omega
    have e1' : (!(x == ax) || !(y == ay)) = true := by simp; omega
    rw [e1']
    by_cases h2 : x = bx ∧ y = by_
    · simp [h2.1, h2.2]
    · have e2 : (x == bx && y == by_) = false := by simp; omega
      have e2' : (!(x == bx) || !(y == by_)) = true := by simp; omega
      rw [e2', e1, e2, p1]
      simp only [if_true, Option.bind_some, if_pos p2, if_pos p3, wallv]
      cases rdOf false l (y * w + x) <;> rfl
/-- The nearest wall so far: found, and where. -/
def fstep (w : Int) (l : List Bool) (ax ay bx by_ : Int) (s : Bool × Int × Int) (x y : Int) : Option (Bool × (Bool × Int × Int)) :=
  some (true, if wb w l ax ay bx by_ x y = true ∧ (s.1 = false ∨ sqv ax ay x y < sqv ax ay s.2.1 s.2.2) then (true, x, y) else s)
def sstep (w : Int) (l : List Bool) (ax ay bx by_ : Int) (s : Bool) (x y : Int) : Option (Bool × Bool) := some (!wb w l ax ay bx by_ x y, !wb w l ax ay bx by_ x y)
theorem first1_eq {w h : Int} {l : List Bool} {ax ay bx by_ x y : Int} (hr : RightG w h l) (hi : Ins w h x y) (ha : Ins w h ax ay) (fo : Bool) (fx fy : Int) (hx : In64 fx) (hy : In64 fy) (k : Nat) (hk : 1 ≤ k) :
    sight_First_1_i1.f k x y ax ay bx by_ w h l fo ax ay fx fy = (fstep w l ax ay bx by_ (fo, fx, fy) x y).map fun r => (r.1, ax, ay, bx, by_, w, h, r.2.1, ax, ay, r.2.2.1, r.2.2.2) := by
  obtain ⟨k, rfl⟩ : ∃ q, k = q + 1 := ⟨k - 1, by omega⟩
  obtain ⟨h1, h2⟩ := rg_box hr hi
  obtain ⟨h3, h4⟩ := rg_box hr ha
  unfold sight_First_1_i1.f fstep
  rw [walls_eq hr hi]
  simp only [Option.bind_some, Option.map_some]
  rw [square_eq k ax ay x y (by omega) (by omega) (by omega) (by omega), square_eq k ax ay fx fy (by omega) (by omega) hx hy]
  simp only [Option.bind_some]
  cases wb w l ax ay bx by_ x y <;> cases fo <;> simp
  split <;> rfl
def firstv (w : Int) (l : List Bool) (ax ay bx by_ : Int) : Option (Bool × Int × Int) := foldS (fstep w l ax ay bx by_) (linev ax ay bx by_) (false, 0, 0)
theorem first_eq (w h : Int) (l : List Bool) (ax ay bx by_ : Int) (k : Nat) (hk : 80000 ≤ k) : sight_First.f k w h l ax ay bx by_ = if RightG w h l ∧ Ins w h ax ay ∧ Ins w h bx by_ then (firstv w l ax ay bx by_).map (fun s => (s.2.1, s.2.2, s.1)) else some (0, 0, false) := by
  unfold sight_First.f
  rw [between_eq]
  simp only [Option.bind_some]
  by_cases hc : RightG w h l ∧ Ins w h ax ay ∧ Ins w h bx by_
  · rw [decide_eq_true hc, if_pos rfl, if_pos hc]
    obtain ⟨hr, ha, hb⟩ := hc
    obtain ⟨h1, h2⟩ := rg_box hr ha
    obtain ⟨h3, h4⟩ := rg_box hr hb
    unfold sight_lane_walls.f sight_lane_all_i1.f
    simp only [Option.bind_some]
    rw [reach_eq h1 h2 h3 h4, mn_min]
    simp only [Option.bind_some]
    have := all_fold h1 h2 h3 h4 (fun k y (s : Bool × Int × Int) => sight_lane_all_i1.l0 k ax ay bx by_ l (lenv ax ay bx by_) y ax ay bx by_ w h s.1 ax ay s.2.1 s.2.2) (fun k y met x (s : Bool × Int × Int) => sight_lane_all_i1.l1 k ax ay bx by_ l (lenv ax ay bx by_) y met x ax ay bx by_ w h s.1 ax ay s.2.1 s.2.2)
      (fun s => (ax, ay, bx, by_, w, h, s.1, ax, ay, s.2.1, s.2.2)) (fstep w l ax ay bx by_) (fun s => In64 s.2.1 ∧ In64 s.2.2) 1
      (fun s x y r hs hx hy hst => by
        unfold fstep at hst
        injection hst with hst
        subst hst
        dsimp only
        split
        · exact ⟨by dsimp only; omega, by dsimp only; omega⟩
        · exact hs)
      (fun k y s hy1 hy2 => by simp only [sight_lane_all_i1.l0, Option.bind_some, mx_max, mn_min]; rw [if_pos hy2])
      (fun k y s hy => by simp only [sight_lane_all_i1.l0, Option.bind_some, mx_max, mn_min]; rw [if_neg (by omega)])
      (fun k y met x s hK hy1 hy2 hx1 hx2 hs => by
        simp only [sight_lane_all_i1.l1, Option.bind_some, mx_max]
        rw [if_pos hx2, beside_eq h1 h2 h3 h4 (by omega) (by omega)]
        simp only [Option.bind_some]
        rw [wrap64_in (x := x + 1) (by omega), wrap64_in (x := y + 1) (by omega), first1_eq hr (ins_between ha hb hx1 hx2 hy1 hy2) ha s.1 s.2.1 s.2.2 hs.1 hs.2 k hK]
        cases hst : fstep w l ax ay bx by_ (s.1, s.2.1, s.2.2) x y with
        | none => simp only [Option.map_none, Option.bind_none]; rfl
        | some r => simp only [Option.map_some, Option.bind_some]; rfl)
      (fun k y met x s hy1 hy2 hx => by
        simp only [sight_lane_all_i1.l1, Option.bind_some, mx_max]
        rw [if_neg (by omega), wrap64_in (x := y + 1) (by omega)])
      (max ay by_ + 1 - min ay by_).toNat (min ay by_) (false, 0, 0) k (by omega) (by omega) (by omega) ⟨by dsimp only; omega, by dsimp only; omega⟩
    rw [this]
    unfold firstv linev
    cases foldS (fstep w l ax ay bx by_) (lineL ax ay bx by_ (max ax bx + 1 - min ax bx).toNat (min ax bx) (max ay by_ + 1 - min ay by_).toNat (min ay by_)) (false, 0, 0) <;> rfl
  · rw [decide_eq_false hc, if_neg (by decide), if_neg hc]
theorem sees1_eq {w h : Int} {l : List Bool} {ax ay bx by_ x y : Int} (hr : RightG w h l) (hi : Ins w h x y) (s : Bool) :
    sight_Sees_1_i1.f x y ax ay bx by_ w h l s = (sstep w l ax ay bx by_ s x y).map fun r => (r.1, ax, ay, bx, by_, w, h, r.2) := by
  unfold sight_Sees_1_i1.f sstep
  rw [walls_eq hr hi]
  simp only [Option.bind_some, Option.map_some]
  cases wb w l ax ay bx by_ x y <;> rfl
def seesv (w : Int) (l : List Bool) (ax ay bx by_ : Int) : Option Bool := foldS (sstep w l ax ay bx by_) (linev ax ay bx by_) true
theorem sees_eq (w h : Int) (l : List Bool) (ax ay bx by_ : Int) (k : Nat) (hk : 80000 ≤ k) : sight_Sees.f k w h l ax ay bx by_ = if RightG w h l ∧ Ins w h ax ay ∧ Ins w h bx by_ then seesv w l ax ay bx by_ else some false := by
  unfold sight_Sees.f
  rw [between_eq]
  simp only [Option.bind_some]
  by_cases hc : RightG w h l ∧ Ins w h ax ay ∧ Ins w h bx by_
  · rw [decide_eq_true hc, if_pos rfl, if_pos hc]
    obtain ⟨hr, ha, hb⟩ := hc
    obtain ⟨h1, h2⟩ := rg_box hr ha
    obtain ⟨h3, h4⟩ := rg_box hr hb
    unfold sight_lane_walls.f sight_lane_all_i3.f
    simp only [Option.bind_some]
    rw [reach_eq h1 h2 h3 h4, mn_min]
    simp only [Option.bind_some]
    have := all_fold h1 h2 h3 h4 (fun k y (s : Bool) => sight_lane_all_i3.l0 k ax ay bx by_ l (lenv ax ay bx by_) y ax ay bx by_ w h s) (fun k y met x (s : Bool) => sight_lane_all_i3.l1 k ax ay bx by_ l (lenv ax ay bx by_) y met x ax ay bx by_ w h s)
      (fun s => (ax, ay, bx, by_, w, h, s)) (sstep w l ax ay bx by_) (fun s => True) 0 (fun _ _ _ _ _ _ _ _ => trivial)
      (fun k y s hy1 hy2 => by simp only [sight_lane_all_i3.l0, Option.bind_some, mx_max, mn_min]; rw [if_pos hy2])
      (fun k y s hy => by simp only [sight_lane_all_i3.l0, Option.bind_some, mx_max, mn_min]; rw [if_neg (by omega)])
      (fun k y met x s hK hy1 hy2 hx1 hx2 hs => by
        simp only [sight_lane_all_i3.l1, Option.bind_some, mx_max]
        rw [if_pos hx2, beside_eq h1 h2 h3 h4 (by omega) (by omega)]
        simp only [Option.bind_some]
        rw [wrap64_in (x := x + 1) (by omega), wrap64_in (x := y + 1) (by omega), sees1_eq hr (ins_between ha hb hx1 hx2 hy1 hy2) s]
        cases hst : sstep w l ax ay bx by_ s x y with
        | none => simp only [Option.map_none, Option.bind_none]; rfl
        | some r => simp only [Option.map_some, Option.bind_some]; rfl)
      (fun k y met x s hy1 hy2 hx => by
        simp only [sight_lane_all_i3.l1, Option.bind_some, mx_max]
        rw [if_neg (by omega), wrap64_in (x := y + 1) (by omega)])
      (max ay by_ + 1 - min ay by_).toNat (min ay by_) true k (by omega) (by omega) (by omega) trivial
    rw [this]
    unfold seesv linev
    cases foldS (sstep w l ax ay bx by_) (lineL ax ay bx by_ (max ax bx + 1 - min ax bx).toNat (min ax bx) (max ay by_ + 1 - min ay by_).toNat (min ay by_)) true <;> rfl
  · rw [decide_eq_false hc, if_neg (by decide), if_neg hc]
/-- One sees just if no wall stands on the line. -/
theorem sees_all (w : Int) (l : List Bool) (ax ay bx by_ : Int) : ∀ (L : List (Int × Int)), foldS (sstep w l ax ay bx by_) L true = some (L.all fun p => !wb w l ax ay bx by_ p.1 p.2)
  | [] => rfl
  | p :: L => by
    unfold foldS
    simp only [sstep, Option.bind_some, List.all_cons]
    cases hw : wb w l ax ay bx by_ p.1 p.2
    · simpa using sees_all w l ax ay bx by_ L
    · simp
theorem first_found (w : Int) (l : List Bool) (ax ay bx by_ : Int) : ∀ (L : List (Int × Int)) (s : Bool × Int × Int), ∃ r, foldS (fstep w l ax ay bx by_) L s = some r ∧ (r.1 = true ↔ s.1 = true ∨ ∃ p ∈ L, wb w l ax ay bx by_ p.1 p.2 = true) ∧ (r.1 = true → r = s ∨ (r.2 ∈ L ∧ wb w l ax ay bx by_ r.2.1 r.2.2 = true)) ∧ (r.1 = false → r = s)
  | [], s => ⟨s, rfl, by simp, fun _ => .inl rfl, fun _ => rfl⟩
  | p :: L, s => by
    unfold foldS
    simp only [fstep, Option.bind_some, if_true]
    obtain ⟨r, h1, h2, h3, h4⟩ := first_found w l ax ay bx by_ L (if wb w l ax ay bx by_ p.1 p.2 = true ∧ (s.1 = false ∨ sqv ax ay p.1 p.2 < sqv ax ay s.2.1 s.2.2) then (true, p.1, p.2) else s)
    refine ⟨r, h1, ?_, ?_, ?_⟩
    · rw [h2]
      by_cases hw : wb w l ax ay bx by_ p.1 p.2 = true
      · by_cases hs : s.1 = false
        · simp [hw, hs]
        · have : s.1 = true := by simpa using hs
          rw [this]
          split <;> simp [this]
      · simp [hw]
    · intro hr
      rcases h3 hr with h | ⟨h, h'⟩
      · split at h
        · rename_i hc
          right
          rw [h]
          exact ⟨by simp, hc.1⟩
        · exact .inl h
      · exact .inr ⟨List.mem_cons_of_mem _ h, h'⟩
    · intro hr
      have := h4 hr
      split at this
      · rw [this] at hr; cases hr
      · exact this
end Go.Proofs.Ytljmecjciifceaa.Pure
namespace Go.Proofs.Ytljmecjciifceaa.Pure
open Go.RowKit Go.Proofs.Ytljmecjciifceaa.XSG Go.Proofs.YtljmecjciifceaaW.PrintWords Go.Proofs.YtljmecjciifceaaW.PrintLast

theorem mid_mul {p q : Int} (hp : -255 ≤ p ∧ p ≤ 255) (hq : -511 ≤ q ∧ q ≤ 511) : -130305 ≤ p * q ∧ p * q ≤ 130305 := by
  have key : ∀ p q : Int, 0 ≤ p → p ≤ 255 → 0 ≤ q → q ≤ 511 → 0 ≤ p * q ∧ p * q ≤ 130305 := fun p q h1 h2 h3 h4 =>
    ⟨Int.mul_nonneg h1 h3, by have := Int.mul_le_mul h2 h4 h3 (by decide : (0 : Int) ≤ 255); omega⟩
  rcases Int.lt_or_le p 0 with h | h
  · rcases Int.lt_or_le q 0 with h' | h'
    · have := key (-p) (-q) (by omega) (by omega) (by omega) (by omega)
      rw [Int.neg_mul_neg] at this; omega
    · have := key (-p) q (by omega) (by omega) (by omega) (by omega)
      rw [Int.neg_mul] at this; omega
  · rcases Int.lt_or_le q 0 with h' | h'
    · have := key p (-q) (by omega) (by omega) (by omega) (by omega)
      rw [Int.mul_neg] at this; omega
    · have := key p q (by omega) (by omega) (by omega) (by omega)
      omega
theorem side_eq {ax ay bx by_ x y : Int} (h1 : Bx ax) (h2 : Bx ay) (h3 : Bx bx) (h4 : Bx by_) (h5 : -1 ≤ x ∧ x ≤ 511) (h6 : -1 ≤ y ∧ y ≤ 511) : barrowref07_side.f ax ay bx by_ x y = some ((bx - ax) * (y - 2 * ay) - (by_ - ay) * (x - 2 * ax)) := by
  unfold barrowref07_side.f
  have m1 := mid_mul (p := bx - ax) (q := y - 2 * ay) (by omega) (by omega)
  have m2 := mid_mul (p := by_ - ay) (q := x - 2 * ax) (by omega) (by omega)
  rw [wrap64_in (x := bx - ax) (by omega), wrap64_in (x := 2 * ay) (by omega), wrap64_in (x := y - 2 * ay) (by omega), wrap64_in (x := by_ - ay) (by omega), wrap64_in (x := 2 * ax) (by omega), wrap64_in (x := x - 2 * ax) (by omega), wrap64_in (x := (bx - ax) * (y - 2 * ay)) (by omega), wrap64_in (x := (by_ - ay) * (x - 2 * ax)) (by omega), wrap64_in (by omega)]
theorem touch_step {ax ay bx by_ x y : Int} (k : Nat) (u o : Bool) (i s cx cy : Int) (hi : i < 4) (hx : wrap64 (wrap64 (wrap64 (2 * x) - 1) + wrap64 (2 * Int.tmod i 2)) = cx) (hy : wrap64 (wrap64 (wrap64 (2 * y) - 1) + wrap64 (2 * wrap64 (Int.tdiv i 2))) = cy) (hs : barrowref07_side.f ax ay bx by_ cx cy = some s) :
    barrowref07_touches.l0 (k + 1) u o i ax ay bx by_ x y = barrowref07_touches.l0 k (u || decide (s ≤ 0)) (o || decide (s ≥ 0)) (wrap64 (i + 1)) ax ay bx by_ x y := by
  rw [barrowref07_touches.l0, if_pos hi, hx, hy, hs]
  simp only [Option.bind_some]
  cases u <;> cases o <;> simp
theorem touches_eq {ax ay bx by_ x y : Int} (h1 : Bx ax) (h2 : Bx ay) (h3 : Bx bx) (h4 : Bx by_) (h5 : Bx x) (h6 : Bx y) (k : Nat) (hk : 5 ≤ k) : barrowref07_touches.f k ax ay bx by_ x y = some (decide (TP ax ay bx by_ x y)) := by
  obtain ⟨k, rfl⟩ : ∃ q, k = q + 5 := ⟨k - 5, by omega⟩
  unfold barrowref07_touches.f
  have w0 : ∀ v : Int, Bx v → wrap64 (wrap64 (wrap64 (2 * v) - 1) + wrap64 0) = 2 * v - 1 := fun v hv => by
    rw [wrap64_in (x := 2 * v) (by omega), wrap64_in (x := 2 * v - 1) (by omega), wrap64_in (x := 0) (by omega), wrap64_in (by omega)]; omega
  have w1 : ∀ v : Int, Bx v → wrap64 (wrap64 (wrap64 (2 * v) - 1) + wrap64 2) = 2 * v + 1 := fun v hv => by
    rw [wrap64_in (x := 2 * v) (by omega), wrap64_in (x := 2 * v - 1) (by omega), wrap64_in (x := 2) (by omega), wrap64_in (by omega)]; omega
  rw [touch_step (k + 4) false false 0 _ (2 * x - 1) (2 * y - 1) (by omega) (w0 x h5) (by rw [show wrap64 (2 * wrap64 (Int.tdiv 0 2)) = wrap64 0 from by decide +kernel]; exact w0 y h6) (side_eq h1 h2 h3 h4 (by omega) (by omega)),
    show wrap64 (0 + 1) = 1 from by decide +kernel, touch_step (k + 3) _ _ 1 _ (2 * x + 1) (2 * y - 1) (by omega) (w1 x h5) (by rw [show wrap64 (2 * wrap64 (Int.tdiv 1 2)) = wrap64 0 from by decide +kernel]; exact w0 y h6) (side_eq h1 h2 h3 h4 (by omega) (by omega)),
    show wrap64 (1 + 1) = 2 from by decide +kernel, touch_step (k + 2) _ _ 2 _ (2 * x - 1) (2 * y + 1) (by omega) (by rw [show wrap64 (2 * Int.tmod 2 2) = wrap64 0 from by decide +kernel]; exact w0 x h5) (by rw [show wrap64 (2 * wrap64 (Int.tdiv 2 2)) = wrap64 2 from by decide +kernel]; exact w1 y h6) (side_eq h1 h2 h3 h4 (by omega) (by omega)),
    show wrap64 (2 + 1) = 3 from by decide +kernel, touch_step (k + 1) _ _ 3 _ (2 * x + 1) (2 * y + 1) (by omega) (by rw [show wrap64 (2 * Int.tmod 3 2) = wrap64 2 from by decide +kernel]; exact w1 x h5) (by rw [show wrap64 (2 * wrap64 (Int.tdiv 3 2)) = wrap64 2 from by decide +kernel]; exact w1 y h6) (side_eq h1 h2 h3 h4 (by omega) (by omega)),
    show wrap64 (3 + 1) = 4 from by decide +kernel, barrowref07_touches.l0, if_neg (by omega)]
  have fin : ∀ u o : Bool, (if u = true then some o else some false) = some (u && o) := fun u o => by cases u <;> rfl
  rw [fin]
  congr 1
  rw [Bool.eq_iff_iff]
  simp only [Bool.and_eq_true, Bool.or_eq_true, Bool.false_or, decide_eq_true_eq]
  unfold TP lenv nn
  have e : ∀ p q c : Int, p * (2 * q + c) = 2 * (p * q) + p * c := fun p q c => by rw [Int.mul_add, Int.mul_left_comm]
  rw [show 2 * y - 1 - 2 * ay = 2 * (y - ay) + -1 by omega, show 2 * y + 1 - 2 * ay = 2 * (y - ay) + 1 by omega, show 2 * x - 1 - 2 * ax = 2 * (x - ax) + -1 by omega, show 2 * x + 1 - 2 * ax = 2 * (x - ax) + 1 by omega]
  simp only [e, Int.mul_one, Int.mul_neg]
  generalize (bx - ax) * (y - ay) = p
  generalize (by_ - ay) * (x - ax) = q
  omega
section
variable {ax ay bx by_ : Int} (h1 : Bx ax) (h2 : Bx ay) (h3 : Bx bx) (h4 : Bx by_)
include h1 h2 h3 h4
theorem rrow {y : Int} (hy : Bx y) : ∀ (m : Nat) (x : Int) (acc : List S26) (k : Nat), (m : Int) = max ax bx + 1 - x → min ax bx ≤ x → acc.length + m < 8796093022208 → 5 ≤ k →
    barrowref07_Line.l1 (k + m + 1) true true acc y x ax ay bx by_ = barrowref07_Line.l0 k true true (acc ++ (rowL ax ay bx by_ y m x).map toS) (y + 1) ax ay bx by_ := by
  intro m
  induction m with
  | zero =>
    intro x acc k hm hx hl hk
    rw [barrowref07_Line.l1, mx_max, if_neg (by omega), wrap64_in (by omega)]
    simp [rowL]
  | succ m ih =>
    intro x acc k hm hx hl hk
    rw [show k + (m + 1) + 1 = (k + m + 1) + 1 by omega, barrowref07_Line.l1, mx_max, if_pos (by omega), wrap64_in (by omega), rowL]
    have go : (if acc.length < 8796093022208 then barrowref07_Line.l1 (k + m + 1) true true (acc ++ [(⟨x, y⟩ : S26)]) y (x + 1) ax ay bx by_ else none) = barrowref07_Line.l0 k true true (acc ++ ((x, y) :: rowL ax ay bx by_ y m (x + 1)).map toS) (y + 1) ax ay bx by_ := by
      rw [if_pos (by omega), ih (x + 1) (acc ++ [(⟨x, y⟩ : S26)]) k (by omega) (by omega) (by rw [List.length_append]; simp; omega) hk]
      simp [toS]
    by_cases hab : (ax == bx && ay == by_) = true
    · rw [if_pos hab]
      have : ax = bx ∧ ay = by_ := by simpa using hab
      have ht : TP ax ay bx by_ x y := by obtain ⟨e1, e2⟩ := this; unfold TP nn lenv; rw [e1, e2]; simp
      rw [if_pos ht]
      exact go
    · rw [if_neg hab, touches_eq h1 h2 h3 h4 (by omega) hy _ (by omega)]
      simp only [Option.bind_some]
      by_cases ht : TP ax ay bx by_ x y
      · rw [decide_eq_true ht, if_pos rfl, if_pos ht]
        exact go
      · rw [decide_eq_false ht, if_neg (by decide), if_neg ht]
        exact ih (x + 1) acc k (by omega) (by omega) (by omega) hk
theorem rrows : ∀ (r : Nat) (y : Int) (acc : List S26) (k : Nat), (r : Int) = max ay by_ + 1 - y → min ay by_ ≤ y → acc.length + 257 * r < 8796093022208 → 300 * r + 10 ≤ k →
    barrowref07_Line.l0 k true true acc y ax ay bx by_ = some (acc ++ (lineL ax ay bx by_ (max ax bx + 1 - min ax bx).toNat (min ax bx) r y).map toS) := by
  intro r
  induction r with
  | zero =>
    intro y acc k hr hy hl hk
    obtain ⟨k, rfl⟩ : ∃ q, k = q + 2 := ⟨k - 2, by omega⟩
    rw [barrowref07_Line.l0, mx_max, if_neg (by omega), barrowref07_Line.j1, if_neg (by decide)]
    simp [lineL]
  | succ r ih =>
    intro y acc k hr hy hl hk
    obtain ⟨k, rfl⟩ : ∃ q, k = q + (max ax bx + 1 - min ax bx).toNat + 1 + 2 := ⟨k - (max ax bx + 1 - min ax bx).toNat - 1 - 2, by omega⟩
    rw [barrowref07_Line.l0, mx_max, if_pos (by omega), if_pos rfl, barrowref07_Line.j1, if_pos rfl, mn_min, rrow h1 h2 h3 h4 (by omega) (max ax bx + 1 - min ax bx).toNat (min ax bx) acc k (by omega) (by omega) (by omega) (by omega)]
    have hrl := rowL_len (ax := ax) (ay := ay) (bx := bx) (by_ := by_) (y := y) (max ax bx + 1 - min ax bx).toNat (min ax bx)
    rw [ih (y + 1) _ k (by omega) (by omega) (by rw [List.length_append, List.length_map]; omega) (by omega), lineL]
    simp
end
theorem rline_eq (w h : Int) (l : List Bool) (ax ay bx by_ : Int) (k : Nat) (hk : 80000 ≤ k) : barrowref07_Line.f k w h l ax ay bx by_ = some (if RightG w h l ∧ Ins w h ax ay ∧ Ins w h bx by_ then (linev ax ay bx by_).map toS else []) := by
  unfold barrowref07_Line.f
  rw [rin_eq, rin_eq]
  simp only [Option.bind_some]
  by_cases hc : RightG w h l ∧ Ins w h ax ay ∧ Ins w h bx by_
  · obtain ⟨hr, ha, hb⟩ := hc
    obtain ⟨h1, h2⟩ := rg_box hr ha
    obtain ⟨h3, h4⟩ := rg_box hr hb
    rw [if_pos ⟨hr, ha, hb⟩, decide_eq_true (⟨hr, ha⟩ : RightG w h l ∧ Ins w h ax ay), decide_eq_true (⟨hr, hb⟩ : RightG w h l ∧ Ins w h bx by_), mn_min,
      rrows h1 h2 h3 h4 (max ay by_ + 1 - min ay by_).toNat (min ay by_) [] k (by omega) (by omega) (by simp only [List.length_nil]; omega) (by omega)]
    simp [linev]
  · rw [if_neg hc]
    obtain ⟨k, rfl⟩ : ∃ q, k = q + 2 := ⟨k - 2, by omega⟩
    have : ∀ u v : Bool, (u && v) = false → barrowref07_Line.l0 (k + 2) u v ([] : List S26) (mn ay by_) ax ay bx by_ = some [] := by
      intro u v huv
      rw [barrowref07_Line.l0]
      cases u <;> cases v <;> simp_all [barrowref07_Line.j1]
    exact this _ _ (by
      rw [Bool.and_eq_false_iff, decide_eq_false_iff_not, decide_eq_false_iff_not]
      by_cases h1 : RightG w h l ∧ Ins w h ax ay
      · exact .inr (fun h2 => hc ⟨h1.1, h1.2, h2.2⟩)
      · exact .inl h1)
theorem rd_map (L : List (Int × Int)) (i : Nat) (p : Int × Int) (h : L[i]? = some p) : rd_T26 (L.map toS) (i : Int) = toS p := by
  unfold rd_T26
  rw [Int.toNat_natCast, List.getD_eq_getElem?_getD, List.getElem?_map, h]
  rfl
/-- The nearest wall so far, by its place. -/
def stv (L : List (Int × Int)) : Option Nat → Bool × Int × Int
  | none => (false, 0, 0)
  | some i => match L[i]? with
    | some p => (true, p.1, p.2)
    | none => (false, 0, 0)
def bidx : Option Nat → Int
  | none => -1
  | some i => i
theorem rfirst_l0 {w h : Int} {l : List Bool} {ax ay bx by_ : Int} (hr : RightG w h l) (ha : Ins w h ax ay) (L : List (Int × Int)) (hL : ∀ p ∈ L, Ins w h p.1 p.2) (hlen : L.length ≤ 65536) : ∀ (n i : Nat) (b : Option Nat) (k : Nat), i + n = L.length → (∀ j, b = some j → j < i) → 2 * n + 3 ≤ k →
    barrowref07_First.l0 k (L.map toS) (bidx b) i w h l ax ay bx by_ = (foldS (fstep w l ax ay bx by_) (L.drop i) (stv L b)).map (fun s => (s.2.1, s.2.2, s.1)) := by
  intro n
  induction n with
  | zero =>
    intro i b k hn hb hk
    obtain ⟨k, rfl⟩ : ∃ q, k = q + 1 := ⟨k - 1, by omega⟩
    rw [barrowref07_First.l0, List.length_map, if_neg (by omega), List.drop_eq_nil_of_le (by omega)]
    cases b with
    | none => rfl
    | some j =>
      have hj := hb j rfl
      have hg : L[j]? = some L[j] := List.getElem?_eq_getElem (by omega)
      rw [show bidx (some j) = (j : Int) from rfl]
      simp only [stv, hg, foldS, Option.map_some]
      rw [if_neg (by omega), if_pos (by omega), if_pos (by omega), rd_map L j _ hg]
      rfl
  | succ n ih =>
    intro i b k hn hb hk
    obtain ⟨k, rfl⟩ : ∃ q, k = q + 2 := ⟨k - 2, by omega⟩
    have hg : L[i]? = some L[i] := List.getElem?_eq_getElem (by omega)
    have hi := hL L[i] (List.getElem_mem _)
    obtain ⟨b1, b2⟩ := rg_box hr hi
    obtain ⟨b3, b4⟩ := rg_box hr ha
    rw [barrowref07_First.l0, List.length_map, if_pos (by omega), if_pos (by omega), rd_map L i _ hg, show (toS L[i]).f0 = L[i].1 from rfl, show (toS L[i]).f1 = L[i].2 from rfl, rwall_eq hr hi]
    simp only [Option.bind_some]
    rw [List.drop_eq_getElem_cons (by omega : i < L.length)]
    simp only [foldS, fstep, Option.bind_some, if_true]
    have nxt : wrap64 ((i : Int) + 1) = ((i + 1 : Nat) : Int) := by rw [wrap64_in (by omega)]; omega
    have skip : barrowref07_First.j1 (k + 1) (L.map toS) (bidx b) i true w h l ax ay bx by_ = (foldS (fstep w l ax ay bx by_) (L.drop (i + 1)) (stv L b)).map (fun s => (s.2.1, s.2.2, s.1)) := by
      rw [barrowref07_First.j1, if_pos rfl, nxt]
      exact ih (i + 1) b k (by omega) (fun j hj => by have := hb j hj; omega) (by omega)
    unfold wb
    cases hw : wallv w l L[i].1 L[i].2
    · simp only [Bool.and_false, Bool.false_eq_true, false_and, if_false]
      exact skip
    · simp only [Bool.and_true, if_true]
      cases hpa : (L[i].1 == ax && L[i].2 == ay)
      · simp only [Bool.not_false, Bool.true_and, Bool.false_eq_true, if_false]
        cases hpb : (L[i].1 == bx && L[i].2 == by_)
        · simp only [Bool.not_false, true_and]
          rw [barrowref07_First.j1, if_neg (by decide), nxt]
          cases b with
          | none =>
            rw [show bidx none = -1 from rfl]
            simp only [stv]
            rw [if_pos (by omega), if_pos (.inl trivial)]
            have := ih (i + 1) (some i) k (by omega) (fun j hj => by injection hj with hj; omega) (by omega)
            simp only [bidx, stv, hg] at this
            exact this
          | some j =>
            have hj := hb j rfl
            have hgj : L[j]? = some L[j] := List.getElem?_eq_getElem (by omega)
            have hij := hL L[j] (List.getElem_mem _)
            obtain ⟨b5, b6⟩ := rg_box hr hij
            rw [show bidx (some j) = (j : Int) from rfl]
            simp only [stv, hgj]
            rw [if_neg (by omega), if_pos (by omega), List.length_map, if_pos (by omega), rd_map L j _ hgj, show (toS L[j]).f0 = L[j].1 from rfl, show (toS L[j]).f1 = L[j].2 from rfl, rd_map L i _ hg, show (toS L[i]).f0 = L[i].1 from rfl, show (toS L[i]).f1 = L[i].2 from rfl]
            obtain ⟨k, rfl⟩ : ∃ q, k = q + 1 := ⟨k - 1, by omega⟩
            rw [rsquare_eq k ax ay L[i].1 L[i].2 (by omega) (by omega) (by omega) (by omega), rsquare_eq k ax ay L[j].1 L[j].2 (by omega) (by omega) (by omega) (by omega)]
            simp only [Option.bind_some]
            rw [if_pos (by omega), if_pos (by omega)]
            by_cases hs : sqv ax ay L[i].1 L[i].2 < sqv ax ay L[j].1 L[j].2
            · rw [if_pos hs, if_pos (.inr hs)]
              have := ih (i + 1) (some i) (k + 1) (by omega) (fun j hj => by injection hj with hj; omega) (by omega)
              simp only [bidx, stv, hg] at this
              exact this
            · rw [if_neg hs, if_neg (by simp [hs])]
              have := ih (i + 1) (some j) (k + 1) (by omega) (fun j' hj' => by injection hj' with hj'; omega) (by omega)
              simp only [bidx, stv, hgj] at this
              exact this
        · simp only [Bool.not_true, Bool.false_eq_true, false_and, if_false]
          exact skip
      · simp only [Bool.not_true, Bool.false_and, Bool.false_eq_true, false_and, if_false, if_true]
        exact skip
theorem rfirst_eq (w h : Int) (l : List Bool) (ax ay bx by_ : Int) (k : Nat) (hk : 200000 ≤ k) : barrowref07_First.f k w h l ax ay bx by_ = if RightG w h l ∧ Ins w h ax ay ∧ Ins w h bx by_ then (firstv w l ax ay bx by_).map (fun s => (s.2.1, s.2.2, s.1)) else some (0, 0, false) := by
  unfold barrowref07_First.f
  rw [rline_eq w h l ax ay bx by_ k (by omega)]
  simp only [Option.bind_some]
  by_cases hc : RightG w h l ∧ Ins w h ax ay ∧ Ins w h bx by_
  · rw [if_pos hc, if_pos hc]
    obtain ⟨hr, ha, hb⟩ := hc
    obtain ⟨h1, h2⟩ := rg_box hr ha
    obtain ⟨h3, h4⟩ := rg_box hr hb
    have hlen := linev_len h1 h2 h3 h4
    have := rfirst_l0 (bx := bx) (by_ := by_) hr ha (linev ax ay bx by_) (fun p hp => by
      rw [linev_mem] at hp
      exact ins_between ha hb hp.2.2.1 hp.2.2.2.1 hp.1 hp.2.1) hlen (linev ax ay bx by_).length 0 none k (by omega) (fun j hj => by cases hj) (by omega)
    exact this
  · rw [if_neg hc, if_neg hc]
    obtain ⟨k, rfl⟩ : ∃ q, k = q + 1 := ⟨k - 1, by omega⟩
    rfl
theorem same_self : ∀ (L : List S26) (n i k : Nat), i + n = L.length → n < k → L.length ≤ 70000 → barrowref06_Same.l0 k L L i = some true
  | L, 0, i, k, h, hk, _ => by
    obtain ⟨k, rfl⟩ : ∃ q, k = q + 1 := ⟨k - 1, by omega⟩
    rw [barrowref06_Same.l0, if_neg (by omega)]
  | L, n + 1, i, k, h, hk, hl => by
    obtain ⟨k, rfl⟩ : ∃ q, k = q + 1 := ⟨k - 1, by omega⟩
    rw [barrowref06_Same.l0, if_pos (by omega), if_pos (by omega), if_pos (by omega), if_neg (by simp), wrap64_in (by omega)]
    have := same_self L n (i + 1) k (by omega) (by omega) hl
    rwa [show ((i + 1 : Nat) : Int) = (i : Int) + 1 by omega] at this
theorem same_eq (L : List S26) (k : Nat) (hl : L.length ≤ 70000) (hk : 80000 ≤ k) : barrowref06_Same.f k L L = some true := by
  unfold barrowref06_Same.f
  rw [if_pos rfl]
  exact same_self L L.length 0 k (by omega) (by omega) hl
end Go.Proofs.Ytljmecjciifceaa.Pure
namespace Go.Proofs.Ytljmecjciifceaa.Pure
open Go.RowKit Go.Proofs.Ytljmecjciifceaa.XSG Go.Proofs.YtljmecjciifceaaW.PrintWords Go.Proofs.YtljmecjciifceaaW.PrintLast

theorem small_ev : Ev (fun k => barrowlaw07_small.f k = some true) := Ev.of barrowlaw07_small.mono (K := 60) (by decide +kernel)
theorem line_self (ax ay bx by_ : Int) : (ax, ay) ∈ linev ax ay bx by_ := by
  rw [linev_mem]
  refine ⟨by dsimp only; omega, by dsimp only; omega, by dsimp only; omega, by dsimp only; omega, ?_⟩
  unfold TP nn lenv
  dsimp only
  rw [Int.sub_self ax, Int.sub_self ay, Int.mul_zero, Int.mul_zero]
  omega
/-- A wall stands between. -/
def foundv (w : Int) (l : List Bool) (ax ay bx by_ : Int) : Bool := (linev ax ay bx by_).any fun p => wb w l ax ay bx by_ p.1 p.2
theorem seesv_eq (w : Int) (l : List Bool) (ax ay bx by_ : Int) : seesv w l ax ay bx by_ = some (!foundv w l ax ay bx by_) := by
  unfold seesv foundv
  rw [sees_all, List.not_any_eq_all_not]
theorem firstv_eq (w : Int) (l : List Bool) (ax ay bx by_ : Int) : ∃ r, firstv w l ax ay bx by_ = some r ∧ r.1 = foundv w l ax ay bx by_ ∧ (r.1 = true → r.2 ∈ linev ax ay bx by_ ∧ wb w l ax ay bx by_ r.2.1 r.2.2 = true) := by
  obtain ⟨r, h1, h2, h3, h4⟩ := first_found w l ax ay bx by_ (linev ax ay bx by_) (false, 0, 0)
  refine ⟨r, h1, ?_, ?_⟩
  · rw [Bool.eq_iff_iff, h2]
    unfold foundv
    simp
  · intro hr
    rcases h3 hr with h | h
    · rw [h] at hr; cases hr
    · exact h
theorem rsees_eq (w h : Int) (l : List Bool) (ax ay bx by_ : Int) (k : Nat) (hk : 200000 ≤ k) : barrowref07_Sees.f k w h l ax ay bx by_ = if RightG w h l ∧ Ins w h ax ay ∧ Ins w h bx by_ then some (!foundv w l ax ay bx by_) else some false := by
  unfold barrowref07_Sees.f
  rw [rline_eq w h l ax ay bx by_ k (by omega), rfirst_eq w h l ax ay bx by_ k (by omega)]
  simp only [Option.bind_some]
  by_cases hc : RightG w h l ∧ Ins w h ax ay ∧ Ins w h bx by_
  · simp only [if_pos hc]
    obtain ⟨r, hr, hf, _⟩ := firstv_eq w l ax ay bx by_
    have hm := List.length_pos_of_mem (line_self ax ay bx by_)
    rw [hr]
    simp only [Option.map_some, Option.bind_some, List.length_map]
    rw [if_pos (by omega), hf]
    cases foundv w l ax ay bx by_ <;> rfl
  · simp only [if_neg hc, Option.bind_some, List.length_nil]
    rfl
theorem sees_eq' (w h : Int) (l : List Bool) (ax ay bx by_ : Int) (k : Nat) (hk : 80000 ≤ k) : sight_Sees.f k w h l ax ay bx by_ = if RightG w h l ∧ Ins w h ax ay ∧ Ins w h bx by_ then some (!foundv w l ax ay bx by_) else some false := by
  rw [sees_eq w h l ax ay bx by_ k hk, seesv_eq]
end Go.Proofs.Ytljmecjciifceaa.Pure
namespace Go.Proofs.Ytljmecjciifceaa.Pure
open Go.RowKit Go.Proofs.Ytljmecjciifceaa.XSG Go.Proofs.YtljmecjciifceaaW.PrintWords Go.Proofs.YtljmecjciifceaaW.PrintLast

def rowQ (Q : Int → Int → Bool) (y : Int) : Nat → Int → List (Int × Int)
  | 0, _ => []
  | m + 1, x => if Q x y = true then (x, y) :: rowQ Q y m (x + 1) else rowQ Q y m (x + 1)
def allQ (Q : Int → Int → Bool) (W : Nat) (x0 : Int) : Nat → Int → List (Int × Int)
  | 0, _ => []
  | r + 1, y => rowQ Q y W x0 ++ allQ Q W x0 r (y + 1)
section
variable {Q : Int → Int → Bool} {y : Int}
theorem rowQ_none : ∀ (m : Nat) (x : Int), (∀ z, x ≤ z → z < x + m → Q z y = false) → rowQ Q y m x = []
  | 0, _, _ => rfl
  | m + 1, x, h => by
    unfold rowQ
    rw [h x (by omega) (by omega), if_neg (by decide)]
    exact rowQ_none m (x + 1) (fun z h1 h2 => h z (by omega) (by omega))
theorem rowQ_len : ∀ (m : Nat) (x : Int), (rowQ Q y m x).length ≤ m
  | 0, _ => by simp [rowQ]
  | m + 1, x => by
    have := rowQ_len m (x + 1)
    unfold rowQ
    split
    · rw [List.length_cons]; omega
    · omega
theorem rowQ_skip (m : Nat) : ∀ (j : Nat) (x : Int), (∀ z, x ≤ z → z < x + j → Q z y = false) → rowQ Q y (j + m) x = rowQ Q y m (x + j)
  | 0, x, _ => by rw [Nat.zero_add, show x + (0 : Nat) = x by omega]
  | j + 1, x, h => by
    rw [show j + 1 + m = (j + m) + 1 by omega, rowQ, h x (by omega) (by omega), if_neg (by decide), rowQ_skip m j (x + 1) (fun z h1 h2 => h z (by omega) (by omega)), show x + 1 + (j : Int) = x + (j + 1 : Nat) by omega]
theorem rowQ_tail (j : Nat) : ∀ (m : Nat) (x : Int), (∀ z, x + m ≤ z → z < x + m + j → Q z y = false) → rowQ Q y (m + j) x = rowQ Q y m x
  | 0, x, h => by
    rw [Nat.zero_add]
    exact rowQ_none j x (fun z h1 h2 => h z (by omega) (by omega))
  | m + 1, x, h => by
    rw [show m + 1 + j = (m + j) + 1 by omega, rowQ, rowQ, rowQ_tail j m (x + 1) (fun z h1 h2 => h z (by omega) (by omega))]
/-- What lies without the ends is not such: the row is as long within them. -/
theorem rowQ_cut {w lo hi : Int} (h0 : 0 ≤ lo) (h1 : hi ≤ w) (h : ∀ z, 0 ≤ z → z < w → Q z y = true → lo ≤ z ∧ z < hi) : rowQ Q y w.toNat 0 = rowQ Q y (hi - lo).toNat lo := by
  have no : ∀ z, 0 ≤ z → z < w → ¬ (lo ≤ z ∧ z < hi) → Q z y = false := by
    intro z h2 h3 h4
    cases hq : Q z y
    · rfl
    · exact absurd (h z h2 h3 hq) h4
  rcases Int.lt_or_le lo hi with hl | hl
  · rw [show w.toNat = lo.toNat + ((hi - lo).toNat + (w - hi).toNat) by omega, rowQ_skip _ _ _ (fun z h1 h2 => no z (by omega) (by omega) (by omega)), rowQ_tail _ _ _ (fun z h1 h2 => no z (by omega) (by omega) (by omega)), show (0 : Int) + (lo.toNat : Nat) = lo by omega]
  · rw [show (hi - lo).toNat = 0 by omega]
    exact rowQ_none _ _ (fun z h1 h2 => no z (by omega) (by omega) (by omega))
end
section
variable {Q : Int → Int → Bool} {W : Nat} {x0 : Int}
theorem allQ_none : ∀ (r : Nat) (y : Int), (∀ z, y ≤ z → z < y + r → rowQ Q z W x0 = []) → allQ Q W x0 r y = []
  | 0, _, _ => rfl
  | r + 1, y, h => by
    unfold allQ
    rw [h y (by omega) (by omega), allQ_none r (y + 1) (fun z h1 h2 => h z (by omega) (by omega))]
    rfl
theorem allQ_skip (r : Nat) : ∀ (j : Nat) (y : Int), (∀ z, y ≤ z → z < y + j → rowQ Q z W x0 = []) → allQ Q W x0 (j + r) y = allQ Q W x0 r (y + j)
  | 0, y, _ => by rw [Nat.zero_add, show y + (0 : Nat) = y by omega]
  | j + 1, y, h => by
    rw [show j + 1 + r = (j + r) + 1 by omega, allQ, h y (by omega) (by omega), allQ_skip r j (y + 1) (fun z h1 h2 => h z (by omega) (by omega)), show y + 1 + (j : Int) = y + (j + 1 : Nat) by omega]
    rfl
theorem allQ_tail (j : Nat) : ∀ (r : Nat) (y : Int), (∀ z, y + r ≤ z → z < y + r + j → rowQ Q z W x0 = []) → allQ Q W x0 (r + j) y = allQ Q W x0 r y
  | 0, y, h => by
    rw [Nat.zero_add]
    exact allQ_none j y (fun z h1 h2 => h z (by omega) (by omega))
  | r + 1, y, h => by
    rw [show r + 1 + j = (r + j) + 1 by omega, allQ, allQ, allQ_tail j r (y + 1) (fun z h1 h2 => h z (by omega) (by omega))]
theorem allQ_congr {W' : Nat} {x0' : Int} : ∀ (r : Nat) (y : Int), (∀ z, y ≤ z → z < y + r → rowQ Q z W x0 = rowQ Q z W' x0') → allQ Q W x0 r y = allQ Q W' x0' r y
  | 0, _, _ => rfl
  | r + 1, y, h => by
    rw [allQ, allQ, h y (by omega) (by omega), allQ_congr r (y + 1) (fun z h1 h2 => h z (by omega) (by omega))]
theorem allQ_len : ∀ (r : Nat) (y : Int), (allQ Q W x0 r y).length ≤ r * W
  | 0, _ => by simp [allQ]
  | r + 1, y => by
    have h1 := rowQ_len (Q := Q) (y := y) W x0
    have h2 := allQ_len r (y + 1)
    rw [allQ, List.length_append, Nat.add_mul]
    omega
end
/-- Cut to what lies around, the same. -/
theorem allQ_cut {Q : Int → Int → Bool} {w h lo hi lo' hi' : Int} (h0 : 0 ≤ lo) (h1 : hi ≤ w) (h0' : 0 ≤ lo') (h1' : hi' ≤ h) (hq : ∀ x y, 0 ≤ x → x < w → 0 ≤ y → y < h → Q x y = true → (lo ≤ x ∧ x < hi) ∧ (lo' ≤ y ∧ y < hi')) :
    allQ Q w.toNat 0 h.toNat 0 = allQ Q (hi - lo).toNat lo (hi' - lo').toNat lo' := by
  have hrow : ∀ y, 0 ≤ y → y < h → rowQ Q y w.toNat 0 = rowQ Q y (hi - lo).toNat lo := fun y h2 h3 => rowQ_cut h0 h1 (fun z h4 h5 h6 => (hq z y h4 h5 h2 h3 h6).1)
  have hno : ∀ y, 0 ≤ y → y < h → ¬ (lo' ≤ y ∧ y < hi') → rowQ Q y w.toNat 0 = [] := fun y h2 h3 h4 => rowQ_none _ _ (fun z h5 h6 => by
    cases hc : Q z y
    · rfl
    · exact absurd (hq z y (by omega) (by omega) h2 h3 hc).2 h4)
  rcases Int.lt_or_le lo' hi' with hl | hl
  · rw [show h.toNat = lo'.toNat + ((hi' - lo').toNat + (h - hi').toNat) by omega, allQ_skip _ _ _ (fun z h1 h2 => hno z (by omega) (by omega) (by omega)), allQ_tail _ _ _ (fun z h1 h2 => hno z (by omega) (by omega) (by omega)), show (0 : Int) + (lo'.toNat : Nat) = lo' by omega]
    exact allQ_congr _ _ (fun z h1 h2 => hrow z (by omega) (by omega))
  · rw [show (hi' - lo').toNat = 0 by omega]
    exact allQ_none _ _ (fun z h1 h2 => hno z (by omega) (by omega) (by omega))
/-- A tile that lies near and is no wall. -/
def nw (w : Int) (l : List Bool) (ax ay r x y : Int) : Bool := nearv ax ay x y r && !wallv w l x y
theorem a1_eq (k : Nat) (a s : Int) (ha : In64 a) (hs : In64 s) : grid_Around_1_i1.f (k + 1) a s = some (max 0 (satv (a - s)), s) := by
  unfold grid_Around_1_i1.f
  rw [sub_eq k _ _ ha hs]
  simp only [Option.bind_some, mx_max]
theorem a2_eq (k : Nat) (a m s : Int) (ha : In64 a) (hs : In64 s) : grid_Around_2_i1.f (k + 1) a m s = some (min m (satv (satv (a + s) + 1)), s) := by
  unfold grid_Around_2_i1.f
  rw [add_eq k _ _ ha hs]
  simp only [Option.bind_some]
  rw [add_eq k _ _ (satv64 _) (by omega)]
  simp only [Option.bind_some, mn_min]
section
variable {w h : Int} {l : List Bool} {ax ay r : Int} (hg : RightG w h l) (hax : In64 ax) (hay : In64 ay) (hr : In64 r)
include hg hax hay hr
theorem arow {y : Int} (hy : 0 ≤ y ∧ y < h) : ∀ (m : Nat) (x : Int) (acc : List S26) (k : Nat), m = (min w (satv (satv (ax + r) + 1)) - x).toNat → 0 ≤ x → acc.length + m < 8796093022208 →
    grid_Around.l1 (k + m + 2) w h l ax ay y acc x r = grid_Around.l0 (k + 1) w h l ax ay (acc ++ (rowQ (nw w l ax ay r) y m x).map toS) (y + 1) r := by
  obtain ⟨g1, g2, g3, g4, g5⟩ := id hg
  intro m
  induction m with
  | zero =>
    intro x acc k hm hx hl
    rw [grid_Around.l1, a2_eq (k + 0) ax w r hax hr]
    simp only [Option.bind_some]
    rw [if_neg (by omega), wrap64_in (by omega)]
    simp [rowQ]
  | succ m ih =>
    intro x acc k hm hx hl
    have hxw : x < w := by omega
    rw [show k + (m + 1) + 2 = (k + m + 2) + 1 by omega, grid_Around.l1, a2_eq (k + m + 1) ax w r hax hr]
    simp only [Option.bind_some]
    rw [if_pos (by omega), near_eq (k + m + 1) ax ay x y hax hay (by omega) (by omega) r hr]
    simp only [Option.bind_some]
    rw [wall_eq hg ⟨hx, hxw, hy.1, hy.2⟩, wrap64_in (x := x + 1) (by omega), rowQ]
    simp only [Option.bind_some]
    have nx := fun acc' h' => ih (x + 1) acc' k (by omega) (by omega) h'
    cases hn : nearv ax ay x y r
    · have hq : nw w l ax ay r x y = false := by unfold nw; rw [hn]; rfl
      simp only [hq, Bool.false_eq_true, if_false]
      exact nx acc (by omega)
    · cases hw : wallv w l x y
      · have hq : nw w l ax ay r x y = true := by unfold nw; rw [hn, hw]; rfl
        simp only [hq, Bool.false_eq_true, if_false, if_true, List.length_cons, List.length_nil]
        rw [if_pos (by omega), nx _ (by rw [List.length_append]; simp; omega)]
        simp [toS]
      · have hq : nw w l ax ay r x y = false := by unfold nw; rw [hn, hw]; rfl
        simp only [hq, Bool.false_eq_true, if_false, if_true]
        exact nx acc (by omega)
theorem arows : ∀ (n : Nat) (y : Int) (acc : List S26) (k : Nat), n = (min h (satv (satv (ay + r) + 1)) - y).toNat → 0 ≤ y → acc.length + 257 * n < 8796093022208 → 300 * n + 10 ≤ k →
    grid_Around.l0 k w h l ax ay acc y r = some (acc ++ (allQ (nw w l ax ay r) (min w (satv (satv (ax + r) + 1)) - max 0 (satv (ax - r))).toNat (max 0 (satv (ax - r))) n y).map toS) := by
  obtain ⟨g1, g2, g3, g4, g5⟩ := id hg
  intro n
  induction n with
  | zero =>
    intro y acc k hn hy hl hk
    obtain ⟨k, rfl⟩ : ∃ q, k = q + 2 := ⟨k - 2, by omega⟩
    rw [grid_Around.l0, a2_eq k ay h r hay hr]
    simp only [Option.bind_some]
    rw [if_neg (by omega)]
    simp [allQ]
  | succ n ih =>
    intro y acc k hn hy hl hk
    obtain ⟨k, rfl⟩ : ∃ q, k = (q + (min w (satv (satv (ax + r) + 1)) - max 0 (satv (ax - r))).toNat + 2) + 1 := ⟨k - (min w (satv (satv (ax + r) + 1)) - max 0 (satv (ax - r))).toNat - 3, by omega⟩
    rw [grid_Around.l0, a2_eq (k + (min w (satv (satv (ax + r) + 1)) - max 0 (satv (ax - r))).toNat + 1) ay h r hay hr]
    simp only [Option.bind_some]
    rw [a1_eq (k + (min w (satv (satv (ax + r) + 1)) - max 0 (satv (ax - r))).toNat + 1) ax r hax hr]
    simp only [Option.bind_some]
    rw [if_pos (by omega), arow hg hax hay hr (y := y) ⟨hy, by omega⟩ _ _ acc k rfl (by omega) (by omega)]
    have hrl := rowQ_len (Q := nw w l ax ay r) (y := y) (min w (satv (satv (ax + r) + 1)) - max 0 (satv (ax - r))).toNat (max 0 (satv (ax - r)))
    rw [ih (y + 1) _ (k + 1) (by omega) (by omega) (by rw [List.length_append, List.length_map]; omega) (by omega), allQ]
    simp
omit hg in
theorem rnear_eq {x y : Int} (hx : In64 x) (hy : In64 y) (k : Nat) : barrowref06_Near.f (k + 1) ax ay x y r = some (nearv ax ay x y r) := by
  unfold barrowref06_Near.f nearv
  split
  · rw [rsquare_eq k ax ay x y hax hay hx hy]
    simp only [Option.bind_some]
    rw [refmul_eq _ _ hr hr]
    rfl
  · rfl
theorem rarow {y : Int} (hy : 0 ≤ y ∧ y < h) (g : Bool) : ∀ (m : Nat) (x : Int) (acc : List S26) (k : Nat), m = (w - x).toNat → 0 ≤ x → acc.length + m < 8796093022208 →
    barrowref06_Around.l1 (k + m + 2) w h l ax ay r g y acc x = barrowref06_Around.l0 (k + 1) w h l ax ay r g (acc ++ (rowQ (nw w l ax ay r) y m x).map toS) (y + 1) := by
  obtain ⟨g1, g2, g3, g4, g5⟩ := id hg
  intro m
  induction m with
  | zero =>
    intro x acc k hm hx hl
    rw [barrowref06_Around.l1, if_neg (by omega), wrap64_in (by omega)]
    simp [rowQ]
  | succ m ih =>
    intro x acc k hm hx hl
    have hxw : x < w := by omega
    rw [show k + (m + 1) + 2 = (k + m + 2) + 1 by omega, barrowref06_Around.l1, if_pos hxw, rnear_eq hax hay hr (by omega) (by omega), rwall_eq hg ⟨hx, hxw, hy.1, hy.2⟩, wrap64_in (x := x + 1) (by omega), rowQ]
    simp only [Option.bind_some]
    have nx := fun acc' h' => ih (x + 1) acc' k (by omega) (by omega) h'
    cases hn : nearv ax ay x y r
    · have hq : nw w l ax ay r x y = false := by unfold nw; rw [hn]; rfl
      simp only [hq, Bool.false_eq_true, if_false]
      exact nx acc (by omega)
    · cases hw : wallv w l x y
      · have hq : nw w l ax ay r x y = true := by unfold nw; rw [hn, hw]; rfl
        simp only [hq, Bool.false_eq_true, if_false, if_true, List.length_cons, List.length_nil]
        rw [if_pos (by omega), nx _ (by rw [List.length_append]; simp; omega)]
        simp [toS]
      · have hq : nw w l ax ay r x y = false := by unfold nw; rw [hn, hw]; rfl
        simp only [hq, Bool.false_eq_true, if_false, if_true]
        exact nx acc (by omega)
theorem rarows (hr256 : r ≤ 256) : ∀ (n : Nat) (y : Int) (acc : List S26) (k : Nat), n = (h - y).toNat → 0 ≤ y → acc.length + 257 * n < 8796093022208 → 300 * n + 10 ≤ k →
    barrowref06_Around.l0 k w h l ax ay r true acc y = some (acc ++ (allQ (nw w l ax ay r) w.toNat 0 n y).map toS) := by
  obtain ⟨g1, g2, g3, g4, g5⟩ := id hg
  intro n
  induction n with
  | zero =>
    intro y acc k hn hy hl hk
    obtain ⟨k, rfl⟩ : ∃ q, k = q + 2 := ⟨k - 2, by omega⟩
    rw [barrowref06_Around.l0, if_neg (by omega)]
    simp [allQ]
  | succ n ih =>
    intro y acc k hn hy hl hk
    obtain ⟨k, rfl⟩ : ∃ q, k = (q + w.toNat + 2) + 1 := ⟨k - w.toNat - 3, by omega⟩
    rw [barrowref06_Around.l0, if_pos (by omega), if_pos rfl, if_pos hr256, rarow hg hax hay hr (y := y) ⟨hy, by omega⟩ true w.toNat 0 acc k (by omega) (by omega) (by omega)]
    have hrl := rowQ_len (Q := nw w l ax ay r) (y := y) w.toNat 0
    rw [ih (y + 1) _ (k + 1) (by omega) (by omega) (by rw [List.length_append, List.length_map]; omega) (by omega), allQ]
    simp
end
theorem near_box {a z r : Int} (ha : In64 a) (h1 : 0 ≤ z) (h2 : z ≤ 255) (h3 : 0 ≤ r) (h4 : r ≤ 256) (h : satv (max a z - min a z) ≤ r) : satv (a - r) ≤ z ∧ z < satv (satv (a + r) + 1) := by
  have h' : max a z - min a z ≤ r := by
    unfold satv at h
    split at h
    · omega
    · split at h <;> omega
  rw [satv_in (x := a - r) (by omega), satv_in (x := a + r) (by omega), satv_in (by omega)]
  omega
/-- The tiles around. -/
def aroundv (w h : Int) (l : List Bool) (ax ay r : Int) : List (Int × Int) := if RightG w h l ∧ 0 ≤ r ∧ r ≤ 256 then allQ (nw w l ax ay r) w.toNat 0 h.toNat 0 else []
theorem around_eq (w h : Int) (l : List Bool) (ax ay r : Int) (hax : In64 ax) (hay : In64 ay) (hr : In64 r) (k : Nat) (hk : 100000 ≤ k) : grid_Around.f k w h l ax ay r = some ((aroundv w h l ax ay r).map toS) := by
  unfold grid_Around.f aroundv
  rw [right_eq]
  simp only [Option.bind_some]
  by_cases hg : RightG w h l
  · rw [decide_eq_true hg, if_pos rfl]
    by_cases h1 : r > 256
    · rw [if_pos h1, if_neg (fun h => by omega)]; rfl
    · rw [if_neg h1]
      by_cases h2 : r < 0
      · rw [if_pos h2, if_neg (fun h => by omega)]; rfl
      · rw [if_neg h2, if_pos ⟨hg, by omega, by omega⟩]
        obtain ⟨k, rfl⟩ : ∃ q, k = q + 1 := ⟨k - 1, by omega⟩
        obtain ⟨g1, g2, g3, g4, g5⟩ := id hg
        rw [a1_eq k ay r hay hr]
        simp only [Option.bind_some]
        rw [arows hg hax hay hr _ _ [] (k + 1) rfl (by omega) (by rw [List.length_nil]; omega) (by omega), List.nil_append]
        congr 2
        symm
        refine allQ_cut (by omega) (by omega) (by omega) (by omega) (fun x y hx1 hx2 hy1 hy2 hq => ?_)
        unfold nw at hq
        rw [Bool.and_eq_true] at hq
        have hs := nearv_steps ax ay x y r hq.1 (by omega)
        unfold stepsv farv at hs
        have n1 := near_box hax hx1 (by omega : x ≤ 255) (by omega : 0 ≤ r) (by omega : r ≤ 256) (by omega)
        have n2 := near_box hay hy1 (by omega : y ≤ 255) (by omega : 0 ≤ r) (by omega : r ≤ 256) (by omega)
        exact ⟨⟨by omega, by omega⟩, ⟨by omega, by omega⟩⟩
  · rw [decide_eq_false hg, if_neg (by decide), if_neg (fun h => hg h.1)]
    rfl
theorem raround_eq (w h : Int) (l : List Bool) (ax ay r : Int) (hax : In64 ax) (hay : In64 ay) (hr : In64 r) (k : Nat) (hk : 100000 ≤ k) : barrowref06_Around.f k w h l ax ay r = some ((aroundv w h l ax ay r).map toS) := by
  unfold barrowref06_Around.f aroundv
  rw [rright_eq]
  simp only [Option.bind_some]
  by_cases hg : RightG w h l
  · rw [decide_eq_true hg]
    obtain ⟨g1, g2, g3, g4, g5⟩ := id hg
    by_cases h1 : r ≤ 256
    · rw [rarows hg hax hay hr h1 h.toNat 0 [] k (by omega) (by omega) (by rw [List.length_nil]; omega) (by omega), List.nil_append]
      by_cases h2 : 0 ≤ r
      · rw [if_pos ⟨hg, h2, h1⟩]
      · rw [if_neg (fun h => h2 h.2.1), allQ_none _ _ (fun z _ _ => rowQ_none _ _ (fun x _ _ => by unfold nw nearv; rw [if_neg (by omega)]; rfl))]
    · obtain ⟨k, rfl⟩ : ∃ q, k = q + 1 := ⟨k - 1, by omega⟩
      rw [barrowref06_Around.l0, if_pos (by omega), if_pos rfl, if_neg h1, if_neg (fun h => h1 h.2.2)]
      rfl
  · rw [decide_eq_false hg, if_neg (fun h => hg h.1)]
    obtain ⟨k, rfl⟩ : ∃ q, k = q + 1 := ⟨k - 1, by omega⟩
    rw [barrowref06_Around.l0]
    split <;> rfl
theorem aroundv_len (w h : Int) (l : List Bool) (ax ay r : Int) : (aroundv w h l ax ay r).length ≤ 65536 := by
  unfold aroundv
  split
  · rename_i hc
    obtain ⟨⟨g1, g2, g3, g4, g5⟩, _⟩ := hc
    have := allQ_len (Q := nw w l ax ay r) (W := w.toNat) (x0 := 0) h.toNat 0
    have := Nat.mul_le_mul (show h.toNat ≤ 256 by omega) (show w.toNat ≤ 256 by omega)
    omega
  · simp
/-- One sees from here to there. -/
def sv (w h : Int) (l : List Bool) (ax ay : Int) (p : Int × Int) : Bool := if RightG w h l ∧ Ins w h ax ay ∧ Ins w h p.1 p.2 then !foundv w l ax ay p.1 p.2 else false
theorem sv_sees (w h : Int) (l : List Bool) (ax ay : Int) (p : Int × Int) (k : Nat) (hk : 80000 ≤ k) : sight_Sees.f k w h l ax ay p.1 p.2 = some (sv w h l ax ay p) := by
  rw [sees_eq' w h l ax ay p.1 p.2 k hk]; unfold sv; split <;> rfl
theorem sv_rsees (w h : Int) (l : List Bool) (ax ay : Int) (p : Int × Int) (k : Nat) (hk : 200000 ≤ k) : barrowref07_Sees.f k w h l ax ay p.1 p.2 = some (sv w h l ax ay p) := by
  rw [rsees_eq w h l ax ay p.1 p.2 k hk]; unfold sv; split <;> rfl
theorem seen_l0 (w h : Int) (l : List Bool) (ax ay : Int) (L : List (Int × Int)) (hl : L.length ≤ 65536) : ∀ (n i : Nat) (acc : List S26) (k : Nat), i + n = L.length → acc.length ≤ i → 80000 + n ≤ k →
    sight_Seen.l0 k w h l ax ay (L.map toS) acc i = some (acc ++ ((L.drop i).filter (sv w h l ax ay)).map toS) := by
  intro n
  induction n with
  | zero =>
    intro i acc k hn ha hk
    obtain ⟨k, rfl⟩ : ∃ q, k = q + 1 := ⟨k - 1, by omega⟩
    rw [sight_Seen.l0, List.length_map, if_neg (by omega), List.drop_eq_nil_of_le (by omega)]
    simp
  | succ n ih =>
    intro i acc k hn ha hk
    obtain ⟨k, rfl⟩ : ∃ q, k = q + 1 := ⟨k - 1, by omega⟩
    have hgi : L[i]? = some L[i] := List.getElem?_eq_getElem (by omega)
    rw [sight_Seen.l0, List.length_map, if_pos (by omega), if_pos (by omega), rd_map L i _ hgi, show (toS L[i]).f0 = L[i].1 from rfl, show (toS L[i]).f1 = L[i].2 from rfl, sv_sees w h l ax ay L[i] k (by omega), List.drop_eq_getElem_cons (by omega : i < L.length), wrap64_in (by omega), show ((i : Int) + 1) = ((i + 1 : Nat) : Int) by omega]
    simp only [Option.bind_some]
    rw [List.filter_cons]
    cases sv w h l ax ay L[i]
    · simp only [Bool.false_eq_true, if_false]
      exact ih (i + 1) acc k (by omega) (by omega) (by omega)
    · simp only [if_true, List.length_cons, List.length_nil]
      rw [if_pos (by omega), ih (i + 1) _ k (by omega) (by rw [List.length_append]; simp; omega) (by omega)]
      simp [toS]
theorem rseen_l0 (w h : Int) (l : List Bool) (ax ay : Int) (L : List (Int × Int)) (hl : L.length ≤ 65536) : ∀ (n i : Nat) (acc : List S26) (k : Nat), i + n = L.length → acc.length ≤ i → 200000 + n ≤ k →
    barrowref07_Seen.l0 k w h l ax ay (L.map toS) acc i = some (acc ++ ((L.drop i).filter (sv w h l ax ay)).map toS) := by
  intro n
  induction n with
  | zero =>
    intro i acc k hn ha hk
    obtain ⟨k, rfl⟩ : ∃ q, k = q + 1 := ⟨k - 1, by omega⟩
    rw [barrowref07_Seen.l0, List.length_map, if_neg (by omega), List.drop_eq_nil_of_le (by omega)]
    simp
  | succ n ih =>
    intro i acc k hn ha hk
    obtain ⟨k, rfl⟩ : ∃ q, k = q + 1 := ⟨k - 1, by omega⟩
    have hgi : L[i]? = some L[i] := List.getElem?_eq_getElem (by omega)
    rw [barrowref07_Seen.l0, List.length_map, if_pos (by omega), if_pos (by omega), rd_map L i _ hgi, show (toS L[i]).f0 = L[i].1 from rfl, show (toS L[i]).f1 = L[i].2 from rfl, sv_rsees w h l ax ay L[i] k (by omega), List.drop_eq_getElem_cons (by omega : i < L.length), wrap64_in (by omega), show ((i : Int) + 1) = ((i + 1 : Nat) : Int) by omega]
    simp only [Option.bind_some]
    rw [List.filter_cons]
    cases sv w h l ax ay L[i]
    · simp only [Bool.false_eq_true, if_false]
      exact ih (i + 1) acc k (by omega) (by omega) (by omega)
    · simp only [if_true, List.length_cons, List.length_nil]
      rw [if_pos (by omega), ih (i + 1) _ k (by omega) (by rw [List.length_append]; simp; omega) (by omega)]
      simp [toS]
def seenv (w h : Int) (l : List Bool) (ax ay r : Int) : List (Int × Int) := (aroundv w h l ax ay r).filter (sv w h l ax ay)
theorem seen_eq (w h : Int) (l : List Bool) (ax ay r : Int) (hax : In64 ax) (hay : In64 ay) (hr : In64 r) (k : Nat) (hk : 200000 ≤ k) : sight_Seen.f k w h l ax ay r = some ((seenv w h l ax ay r).map toS) := by
  have hl := aroundv_len w h l ax ay r
  unfold sight_Seen.f
  rw [around_eq w h l ax ay r hax hay hr k (by omega)]
  simp only [Option.bind_some]
  have := seen_l0 w h l ax ay _ hl (aroundv w h l ax ay r).length 0 [] k (by omega) (by simp) (by omega)
  rw [List.drop_zero, List.nil_append] at this
  exact this
theorem rseen_eq (w h : Int) (l : List Bool) (ax ay r : Int) (hax : In64 ax) (hay : In64 ay) (hr : In64 r) (k : Nat) (hk : 300000 ≤ k) : barrowref07_Seen.f k w h l ax ay r = some ((seenv w h l ax ay r).map toS) := by
  have hl := aroundv_len w h l ax ay r
  unfold barrowref07_Seen.f
  rw [raround_eq w h l ax ay r hax hay hr k (by omega)]
  simp only [Option.bind_some]
  have := rseen_l0 w h l ax ay _ hl (aroundv w h l ax ay r).length 0 [] k (by omega) (by simp) (by omega)
  rw [List.drop_zero, List.nil_append] at this
  exact this
end Go.Proofs.Ytljmecjciifceaa.Pure
namespace Go.Proofs.Ytljmecjciifceaa.Pure
open Go.RowKit Go.Proofs.Ytljmecjciifceaa.XSG Go.Proofs.YtljmecjciifceaaW.PrintWords Go.Proofs.YtljmecjciifceaaW.PrintLast
theorem SightAround : barrowlaw07_SightAround.Pure := by
  intro w h l ax ay r h1 h2 h3 h4 h5 h6
  obtain ⟨K, hk⟩ := small_ev
  refine ⟨K + 300000, ?_⟩
  unfold barrowlaw07_SightAround.f
  rw [hk (K + 300000) (by omega)]
  simp only [Option.bind_some, barrowlaw06_Few.f, if_true]
  split
  · split
    · rfl
    · have hl : (seenv w h l ax ay r).length ≤ 65536 := Nat.le_trans (List.length_filter_le _ _) (aroundv_len w h l ax ay r)
      rw [seen_eq w h l ax ay r (i64_of h4) (i64_of h5) (i64_of h6) _ (by omega), rseen_eq w h l ax ay r (i64_of h4) (i64_of h5) (i64_of h6) _ (by omega)]
      simp only [Option.bind_some]
      rw [same_eq _ _ (by rw [List.length_map]; omega) (by omega)]
      rfl
  · rfl
end Go.Proofs.Ytljmecjciifceaa.Pure
