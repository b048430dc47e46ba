/- What sums, differences and products come to: plain numbers. What the document's sums, differences and products come to: plain numbers. Words of loops that end ('Ev'), of numbers of 64 bits. How far two tiles are apart, and whether they are near, as plain numbers. Rising rows of numbers, each once: of what stands in them there is one such row. Maps as lists of entries, in plain Lean. Talk: where units are, in which group, who hears: what the program's functions come to. Talk: what the document's functions come to; who hears. Talk: the small case. Talk: texts that are right, and texts that are cut. Talk: small letters, and words. Talk: words taken out of a text. -/
import Derived.Test.YtdpeflbdoaccbaaXCHx3
import Derived.Test.YtdpeflbdoaccbaaXCHx2
import Derived.Laws.BitsLemmas
import Derived.Test.YtdpeflbdoaccbaaXCHx9
import Derived.Test.YtdpeflbdoaccbaaXCHx3
import Derived.Test.YtdpeflbdoaccbaaXCHx4
import Derived.Test.YtdpeflbdoaccbaaXCHx9
import Derived.Test.YtdpeflbdoaccbaaXCHx10
import Derived.Test.YtdpeflbdoaccbaaSL6
import Derived.Test.YtdpeflbdoaccbaaSL5
import Derived.Test.YtdpeflbdoaccbaaXCHx2
import Derived.Test.YtdpeflbdoaccbaaXCHx4
import Derived.Test.YtdpeflbdoaccbaaXCHx5
import Derived.Test.YtdpeflbdoaccbaaXCHx6
import Derived.Test.YtdpeflbdoaccbaaXCHx8
import Derived.Test.YtdpeflbdoaccbaaXCHx9
import Derived.Test.YtdpeflbdoaccbaaXCHx10
import Derived.Test.YtdpeflbdoaccbaaXCHx11
import Derived.Test.YtdpeflbdoaccbaaXCHx15
import Derived.Test.YtdpeflbdoaccbaaXCHx7
import Derived.Test.YtdpeflbdoaccbaaXCHx8
import Derived.Test.YtdpeflbdoaccbaaXCHx6
import Derived.Test.YtdpeflbdoaccbaaXCHx6
import Derived.Test.YtdpeflbdoaccbaaXCHx8
import Derived.Test.YtdpeflbdoaccbaaXCHx12
import Derived.Test.YtdpeflbdoaccbaaXCHx14
import Derived.Test.YtdpeflbdoaccbaaXCHx7
import Derived.Test.YtdpeflbdoaccbaaXCHx6
import Derived.Test.YtdpeflbdoaccbaaXCHx8
import Derived.Test.YtdpeflbdoaccbaaXCHx13
import Derived.Test.YtdpeflbdoaccbaaXCHx7
import Derived.Test.YtdpeflbdoaccbaaXCHx12
import Derived.Test.YtdpeflbdoaccbaaXCHx17
set_option linter.unusedSimpArgs false
set_option linter.unusedVariables false
namespace Go.Proofs.Ytdpeflbdoaccbaa.Pure
open Go.RowKit Go.Proofs.Ytdpeflbdoaccbaa.XCH Go.Proofs.YtdpeflbdoaccbaaW.PrintWords Go.Proofs.YtdpeflbdoaccbaaW.PrintLast Go.Proofs.YtdpeflbdoaccbaaW.PrintMore

theorem i64_of {a : Int} (h : (Lit.int .i64 a).wf = true) : -9223372036854775808 ≤ a ∧ a ≤ 9223372036854775807 := by
  simp [Lit.wf, IntKind.min, IntKind.max, IntKind.bits, IntKind.signed] at h
  omega
theorem u64_wrap (n : Int) : IntKind.u64.wrap n = n % 18446744073709551616 := by simp [IntKind.wrap, IntKind.bits, IntKind.signed]
def satv (x : Int) : Int := if x > 9223372036854775807 then 9223372036854775807 else if x < -9223372036854775808 then -9223372036854775808 else x
theorem satv_mono {x y : Int} (h : x ≤ y) : satv x ≤ satv y := by unfold satv; (repeat' split) <;> omega
theorem satv_in {x : Int} (h : -9223372036854775808 ≤ x ∧ x ≤ 9223372036854775807) : satv x = x := by unfold satv; (repeat' split) <;> omega

theorem add_eq (k : Nat) (a b : Int) (ha : -9223372036854775808 ≤ a ∧ a ≤ 9223372036854775807) (hb : -9223372036854775808 ≤ b ∧ b ≤ 9223372036854775807) : sat_Add.f (k + 1) a b = some (satv (a + b)) := by
  unfold sat_Add.f satv
  simp only [sat_Add.j0, wrap64]
  split <;> split <;> (try split) <;> simp_all <;> (repeat' split) <;> (first | rfl | omega | (simp; omega) | skip)
theorem sub_eq (k : Nat) (a b : Int) (ha : -9223372036854775808 ≤ a ∧ a ≤ 9223372036854775807) (hb : -9223372036854775808 ≤ b ∧ b ≤ 9223372036854775807) : sat_Sub.f (k + 1) a b = some (satv (a - b)) := by
  unfold sat_Sub.f satv
  simp only [sat_Sub.j0, wrap64]
  split <;> split <;> (try split) <;> simp_all <;> (repeat' split) <;> (first | rfl | omega | (simp; omega) | skip)

theorem and32 (x : Int) (h0 : 0 ≤ x) (h1 : x < 18446744073709551616) : Go.bits .and .u64 x 4294967295 = x % 4294967296 :=
  bits_mask .u64 64 (by decide) (fun n h0 h1 => by rw [u64_wrap]; omega) 32 (by decide) x h0 h1
theorem mul64_eq (x y : Int) (hx : 0 ≤ x ∧ x < 18446744073709551616) (hy : 0 ≤ y ∧ y < 18446744073709551616) : bits_Mul64.f x y = some (x * y / 18446744073709551616, x * y % 18446744073709551616) := by
  unfold bits_Mul64.f
  rw [and32 x hx.1 hx.2, and32 y hy.1 hy.2]
  simp only [u64_wrap]
  obtain ⟨x1, hx1⟩ : ∃ q, x / 4294967296 = q := ⟨_, rfl⟩
  obtain ⟨x0, hx0⟩ : ∃ q, x % 4294967296 = q := ⟨_, rfl⟩
  obtain ⟨y1, hy1⟩ : ∃ q, y / 4294967296 = q := ⟨_, rfl⟩
  obtain ⟨y0, hy0⟩ : ∃ q, y % 4294967296 = q := ⟨_, rfl⟩
  have ex : x = x1 * 4294967296 + x0 := by omega
  have ey : y = y1 * 4294967296 + y0 := by omega
  rw [hx1, hx0, hy1, hy0]
  have b0 : 0 ≤ x0 ∧ x0 ≤ 4294967295 := by omega
  have b1 : 0 ≤ x1 ∧ x1 ≤ 4294967295 := by omega
  have c0 : 0 ≤ y0 ∧ y0 ≤ 4294967295 := by omega
  have c1 : 0 ≤ y1 ∧ y1 ≤ 4294967295 := by omega
  have bd : ∀ p q : Int, 0 ≤ p → p ≤ 4294967295 → 0 ≤ q → q ≤ 4294967295 → 0 ≤ p * q ∧ p * q ≤ 18446744065119617025 := fun p q h1 h2 h3 h4 =>
    ⟨Int.mul_nonneg h1 h3, by have := Int.mul_le_mul h2 h4 h3 (by decide : (0 : Int) ≤ 4294967295); omega⟩
  have e : x * y = x1 * y1 * 18446744073709551616 + (x1 * y0 + x0 * y1) * 4294967296 + x0 * y0 := by
    rw [ex, ey, Int.add_mul, Int.mul_add, Int.mul_add]
    have r1 : x1 * 4294967296 * (y1 * 4294967296) = x1 * y1 * 18446744073709551616 := by
      rw [Int.mul_assoc, Int.mul_left_comm 4294967296 y1 4294967296, ← Int.mul_assoc]; rfl
    have r2 : x1 * 4294967296 * y0 = x1 * y0 * 4294967296 := by rw [Int.mul_assoc, Int.mul_comm 4294967296 y0, ← Int.mul_assoc]
    have r3 : x0 * (y1 * 4294967296) = x0 * y1 * 4294967296 := by rw [← Int.mul_assoc]
    rw [r1, r2, r3]; omega
  have d00 := bd x0 y0 b0.1 b0.2 c0.1 c0.2
  have d10 := bd x1 y0 b1.1 b1.2 c0.1 c0.2
  have d01 := bd x0 y1 b0.1 b0.2 c1.1 c1.2
  have d11 := bd x1 y1 b1.1 b1.2 c1.1 c1.2
  rw [e]
  generalize x0 * y0 = p00 at *
  generalize x1 * y0 = p10 at *
  generalize x0 * y1 = p01 at *
  generalize x1 * y1 = p11 at *
  clear bd hx hy hx1 hx0 hy1 hy0 ex ey b0 b1 c0 c1 e
  congr 2
  have hm : ((p10 + p00 / 4294967296) % 18446744073709551616) = p10 + p00 / 4294967296 := by omega
  rw [Int.emod_eq_of_lt d00.1 (by omega), Int.emod_eq_of_lt d10.1 (by omega), Int.emod_eq_of_lt d11.1 (by omega), Int.emod_eq_of_lt d01.1 (by omega), hm]
  have a32 : ∀ z : Int, 0 ≤ z → z < 18446744073709551616 → Go.bits .and .u64 z 4294967295 = z % 4294967296 := and32
  rw [a32 _ (by omega) (by omega)]
  omega
theorem size_eq (a : Int) (ha : -9223372036854775808 ≤ a ∧ a ≤ 9223372036854775807) : sat_size.f a = some (if a < 0 then -a else a) := by
  unfold sat_size.f
  simp only [u64_wrap]
  split <;> congr 1 <;> omega
theorem size_max : sat_size.f 9223372036854775807 = some 9223372036854775807 := by rw [size_eq _ (by omega)]; rfl
theorem size_min : sat_size.f (-9223372036854775808) = some 9223372036854775808 := by rw [size_eq _ (by omega)]; rfl
theorem mul_eq (a b : Int) (ha : -9223372036854775808 ≤ a ∧ a ≤ 9223372036854775807) (hb : -9223372036854775808 ≤ b ∧ b ≤ 9223372036854775807) : sat_Mul.f a b = some (satv (a * b)) := by
  unfold sat_Mul.f
  rw [size_eq a ha, size_eq b hb, size_max, size_min]
  simp only [Option.bind_some]
  obtain ⟨x, hx⟩ : ∃ q, (if a < 0 then -a else a) = q := ⟨_, rfl⟩
  obtain ⟨y, hy⟩ : ∃ q, (if b < 0 then -b else b) = q := ⟨_, rfl⟩
  rw [hx, hy]
  have x0 : 0 ≤ x ∧ x ≤ 9223372036854775808 := by rw [← hx]; split <;> omega
  have y0 : 0 ≤ y ∧ y ≤ 9223372036854775808 := by rw [← hy]; split <;> omega
  rw [mul64_eq x y (by omega) (by omega)]
  simp only [Option.bind_some]
  have hp : 0 ≤ x * y := Int.mul_nonneg x0.1 y0.1
  have e : a * b = if ((decide (a < 0)) != (decide (b < 0))) = true then -(x * y) else x * y := by
    by_cases h1 : a < 0 <;> by_cases h2 : b < 0
    · rw [if_pos h1] at hx; rw [if_pos h2] at hy; simp [h1, h2, ← hx, ← hy, Int.neg_mul, Int.mul_neg]
    · rw [if_pos h1] at hx; rw [if_neg h2] at hy; simp [h1, h2, ← hx, ← hy, Int.neg_mul, Int.mul_neg]
    · rw [if_neg h1] at hx; rw [if_pos h2] at hy; simp [h1, h2, ← hx, ← hy, Int.neg_mul, Int.mul_neg]
    · rw [if_neg h1] at hx; rw [if_neg h2] at hy; simp [h1, h2, ← hx, ← hy, Int.neg_mul, Int.mul_neg]
  rw [e]
  clear e hx hy x0 y0 ha hb
  generalize x * y = p at *
  generalize ((decide (a < 0)) != (decide (b < 0))) = s at *
  have e1 : sat_end.f true = some (-9223372036854775808) := rfl
  have e2 : sat_end.f false = some 9223372036854775807 := rfl
  cases s
  · simp only [e2, Option.bind_some, wrap64, Bool.false_eq_true, if_false]
    unfold satv
    (repeat' split) <;> (first | rfl | omega | (congr 1; omega))
  · simp only [e1, Option.bind_some, u64_wrap, wrap64, if_true]
    unfold satv
    (repeat' split) <;> (first | rfl | omega | (congr 1; omega))

end Go.Proofs.Ytdpeflbdoaccbaa.Pure
namespace Go.Proofs.Ytdpeflbdoaccbaa.Pure
open Go.RowKit Go.Proofs.Ytdpeflbdoaccbaa.XCH Go.Proofs.YtdpeflbdoaccbaaW.PrintWords Go.Proofs.YtdpeflbdoaccbaaW.PrintLast Go.Proofs.YtdpeflbdoaccbaaW.PrintMore

theorem refadd_eq (k : Nat) (a b : Int) (ha : -9223372036854775808 ≤ a ∧ a ≤ 9223372036854775807) (hb : -9223372036854775808 ≤ b ∧ b ≤ 9223372036854775807) : barrowref01_Add.f (k + 1) a b = some (satv (a + b)) := by
  unfold barrowref01_Add.f satv
  simp only [barrowref01_Add.j0, wrap64]
  by_cases h1 : a > 0
  · rw [if_pos h1]
    by_cases h2 : b > (9223372036854775807 - a + 9223372036854775808) % 18446744073709551616 - 9223372036854775808
    · rw [if_pos (decide_eq_true h2), if_pos (by omega)]
    · rw [if_neg (by simpa using h2), if_neg (by omega), if_neg (by omega), if_neg (by omega)]; congr 1; omega
  · rw [if_neg h1, if_neg (by decide)]
    (repeat' split) <;> (first | rfl | omega | (congr 1; omega))
theorem refsub_eq (k : Nat) (a b : Int) (ha : -9223372036854775808 ≤ a ∧ a ≤ 9223372036854775807) (hb : -9223372036854775808 ≤ b ∧ b ≤ 9223372036854775807) : barrowref01_Sub.f (k + 1) a b = some (satv (a - b)) := by
  unfold barrowref01_Sub.f satv
  simp only [barrowref01_Sub.j0, wrap64]
  by_cases h1 : b < 0
  · rw [if_pos h1]
    by_cases h2 : a > (9223372036854775807 + b + 9223372036854775808) % 18446744073709551616 - 9223372036854775808
    · rw [if_pos (decide_eq_true h2), if_pos (by omega)]
    · rw [if_neg (by simpa using h2), if_neg (by omega), if_neg (by omega), if_neg (by omega)]; congr 1; omega
  · rw [if_neg h1, if_neg (by decide)]
    (repeat' split) <;> (first | rfl | omega | (congr 1; omega))
theorem refmul_eq (a b : Int) (ha : -9223372036854775808 ≤ a ∧ a ≤ 9223372036854775807) (hb : -9223372036854775808 ≤ b ∧ b ≤ 9223372036854775807) : barrowref01_Mul.f a b = some (satv (a * b)) := by
  unfold barrowref01_Mul.f
  rw [if_pos ⟨ha, hb⟩]; rfl
end Go.Proofs.Ytdpeflbdoaccbaa.Pure
namespace Go.Proofs.Ytdpeflbdoaccbaa.Pure
open Go.RowKit Go.Proofs.Ytdpeflbdoaccbaa.XCH Go.Proofs.YtdpeflbdoaccbaaW.PrintWords Go.Proofs.YtdpeflbdoaccbaaW.PrintLast

/-- With rounds enough it is so. -/
def Ev (P : Nat → Prop) : Prop := ∃ K, ∀ k, K ≤ k → P k
theorem Ev.ge (B : Nat) : Ev (fun k => B ≤ k) := ⟨B, fun _ h => h⟩
theorem Ev.and {P Q : Nat → Prop} (h : Ev P) (h' : Ev Q) : Ev (fun k => P k ∧ Q k) := by
  obtain ⟨K, h⟩ := h
  obtain ⟨K', h'⟩ := h'
  exact ⟨max K K', fun k hk => ⟨h k (by omega), h' k (by omega)⟩⟩
theorem Ev.imp {P Q : Nat → Prop} (h : Ev P) (hs : ∀ k, P k → Q k) : Ev Q := let ⟨K, h⟩ := h; ⟨K, fun k hk => hs k (h k hk)⟩
theorem Ev.get {P : Nat → Prop} (h : Ev P) : ∃ k, P k := let ⟨K, h⟩ := h; ⟨K, h K (Nat.le_refl _)⟩
theorem Ev.of {α : Type} {f : Nat → Option α} (hm : ∀ k, LeO (f k) (f (k + 1))) {K : Nat} {v : α} (h : f K = some v) : Ev (fun k => f k = some v) := by
  refine ⟨K, fun k hk => ?_⟩
  obtain ⟨d, rfl⟩ := Nat.exists_eq_add_of_le hk
  induction d with
  | zero => exact h
  | succ d ih => exact hm _ _ (ih (by omega))
abbrev In64 (a : Int) : Prop := -9223372036854775808 ≤ a ∧ a ≤ 9223372036854775807
theorem satv64 (x : Int) : In64 (satv x) := by unfold satv; (repeat' split) <;> constructor <;> omega
theorem mn_min (a b : Int) : mn a b = min a b := by unfold mn; split <;> omega
theorem mx_max (a b : Int) : mx a b = max a b := by unfold mx; split <;> omega
theorem wrap64_in {x : Int} (h : In64 x) : wrap64 x = x := by unfold wrap64; omega
end Go.Proofs.Ytdpeflbdoaccbaa.Pure
namespace Go.Proofs.Ytdpeflbdoaccbaa.Pure
open Go.RowKit Go.Proofs.Ytdpeflbdoaccbaa.XCH Go.Proofs.YtdpeflbdoaccbaaW.PrintWords Go.Proofs.YtdpeflbdoaccbaaW.PrintLast Go.Proofs.YtdpeflbdoaccbaaW.PrintMore

def farv (a b : Int) : Int := satv (max a b - min a b)
theorem farv64 (a b : Int) : In64 (farv a b) := satv64 _
theorem far_eq (k : Nat) (a b : Int) (ha : In64 a) (hb : In64 b) : grid_far.f (k + 1) a b = some (farv a b) := by
  unfold grid_far.f
  rw [mx_max, mn_min, sub_eq k _ _ (by omega) (by omega)]
  rfl
theorem rfar_eq (k : Nat) (a b : Int) (ha : In64 a) (hb : In64 b) : barrowref06_far.f (k + 1) a b = some (farv a b) := by
  unfold barrowref06_far.f farv
  split
  · rw [refsub_eq k _ _ hb ha]
    simp only [Option.bind_some]
    congr 2; omega
  · rw [refsub_eq k _ _ ha hb]
    simp only [Option.bind_some]
    congr 2; omega
def sqv (ax ay bx by_ : Int) : Int := satv (satv (farv ax bx * farv ax bx) + satv (farv ay by_ * farv ay by_))
def nearv (ax ay bx by_ r : Int) : Bool := if r ≥ 0 then decide (sqv ax ay bx by_ ≤ satv (r * r)) else false
section
variable (k : Nat) (ax ay bx by_ : Int) (hax : In64 ax) (hay : In64 ay) (hbx : In64 bx) (hby : In64 by_)
include hax hay hbx hby
theorem square_eq : grid_Square.f (k + 1) ax ay bx by_ = some (sqv ax ay bx by_) := by
  unfold grid_Square.f sqv
  rw [far_eq k ax bx hax hbx, far_eq k ay by_ hay hby]
  simp only [Option.bind_some]
  rw [mul_eq _ _ (farv64 _ _) (farv64 _ _), mul_eq _ _ (farv64 _ _) (farv64 _ _)]
  simp only [Option.bind_some]
  rw [add_eq k _ _ (satv64 _) (satv64 _)]
  rfl
theorem rsquare_eq : barrowref06_Square.f (k + 1) ax ay bx by_ = some (sqv ax ay bx by_) := by
  unfold barrowref06_Square.f sqv
  rw [rfar_eq k ax bx hax hbx, rfar_eq k ay by_ hay hby]
  simp only [Option.bind_some]
  rw [refmul_eq _ _ (farv64 _ _) (farv64 _ _), refmul_eq _ _ (farv64 _ _) (farv64 _ _)]
  simp only [Option.bind_some]
  rw [refadd_eq k _ _ (satv64 _) (satv64 _)]
  rfl
theorem near_eq (r : Int) (hr : In64 r) : grid_Near.f (k + 1) ax ay bx by_ r = some (nearv ax ay bx by_ r) := by
  unfold grid_Near.f nearv
  split
  · rw [square_eq k ax ay bx by_ hax hay hbx hby]
    simp only [Option.bind_some]
    rw [mul_eq _ _ hr hr]
    rfl
  · rfl
theorem rnear_eq (r : Int) (hr : In64 r) : barrowref06_Near.f (k + 1) ax ay bx by_ r = some (nearv ax ay bx by_ r) := by
  unfold barrowref06_Near.f nearv
  split
  · rw [rsquare_eq k ax ay bx by_ hax hay hbx hby]
    simp only [Option.bind_some]
    rw [refmul_eq _ _ hr hr]
    rfl
  · rfl
end
theorem farv_comm (a b : Int) : farv a b = farv b a := by unfold farv; rw [show max a b - min a b = max b a - min b a by omega]
theorem farv_nonneg (a b : Int) : 0 ≤ farv a b := by unfold farv satv; (repeat' split) <;> omega
theorem farv_zero (a b : Int) : farv a b = 0 ↔ a = b := by unfold farv satv; (repeat' split) <;> omega
theorem sqv_comm (ax ay bx by_ : Int) : sqv ax ay bx by_ = sqv bx by_ ax ay := by unfold sqv; rw [farv_comm ax, farv_comm ay]
theorem self_le {d : Int} (h : 0 ≤ d) : d ≤ d * d := by
  rcases Int.lt_or_le d 1 with h1 | h1
  · have : d = 0 := by omega
    subst this; decide
  · have := Int.mul_le_mul_of_nonneg_right h1 h
    omega
/-- A square, cut at the end, is above each number from 0 to 2^62 whose square is less. -/
theorem satv_sq {d : Int} (h : 0 ≤ d) (hd : In64 d) : 0 ≤ satv (d * d) ∧ d ≤ satv (d * d) := by
  have := self_le h
  unfold satv
  (repeat' split) <;> omega
theorem sqv_nonneg (ax ay bx by_ : Int) : 0 ≤ sqv ax ay bx by_ := by
  have h1 := (satv_sq (farv_nonneg ax bx) (farv64 ax bx)).1
  have h2 := (satv_sq (farv_nonneg ay by_) (farv64 ay by_)).1
  unfold sqv
  generalize satv (farv ax bx * farv ax bx) = p at *
  generalize satv (farv ay by_ * farv ay by_) = q at *
  unfold satv
  (repeat' split) <;> omega
theorem sqv_ge (ax ay bx by_ : Int) : satv (farv ax bx * farv ax bx) ≤ sqv ax ay bx by_ ∧ satv (farv ay by_ * farv ay by_) ≤ sqv ax ay bx by_ := by
  have h1 := (satv_sq (farv_nonneg ax bx) (farv64 ax bx)).1
  have h2 := (satv_sq (farv_nonneg ay by_) (farv64 ay by_)).1
  have h3 := satv64 (farv ax bx * farv ax bx)
  have h4 := satv64 (farv ay by_ * farv ay by_)
  unfold sqv
  generalize satv (farv ax bx * farv ax bx) = p at *
  generalize satv (farv ay by_ * farv ay by_) = q at *
  unfold satv
  (repeat' split) <;> omega
theorem sqv_zero (ax ay bx by_ : Int) : sqv ax ay bx by_ = 0 ↔ ax = bx ∧ ay = by_ := by
  constructor
  · intro h
    have h1 := sqv_ge ax ay bx by_
    have h2 := satv_sq (farv_nonneg ax bx) (farv64 ax bx)
    have h3 := satv_sq (farv_nonneg ay by_) (farv64 ay by_)
    have h4 := farv_nonneg ax bx
    have h5 := farv_nonneg ay by_
    have h6 := farv_zero ax bx
    have h7 := farv_zero ay by_
    omega
  · rintro ⟨rfl, rfl⟩
    have h1 := (farv_zero ax ax).2 rfl
    have h2 := (farv_zero ay ay).2 rfl
    unfold sqv
    rw [h1, h2]
    decide
theorem nearv_comm (ax ay bx by_ r : Int) : nearv ax ay bx by_ r = nearv bx by_ ax ay r := by unfold nearv; rw [sqv_comm]
theorem nearv_self (ax ay r : Int) (hr : 0 ≤ r) : nearv ax ay ax ay r = true := by
  unfold nearv
  rw [if_pos hr, (sqv_zero ax ay ax ay).2 ⟨rfl, rfl⟩]
  have := Int.mul_nonneg hr hr
  refine decide_eq_true ?_
  unfold satv
  (repeat' split) <;> omega
theorem nearv_up (ax ay bx by_ r : Int) (hr : 0 ≤ r) (h : nearv ax ay bx by_ r = true) : nearv ax ay bx by_ (r + 1) = true := by
  unfold nearv at *
  rw [if_pos hr] at h
  rw [if_pos (by omega)]
  have h1 := of_decide_eq_true h
  refine decide_eq_true (Int.le_trans h1 (satv_mono ?_))
  have := Int.mul_le_mul (show r ≤ r + 1 by omega) (show r ≤ r + 1 by omega) hr (by omega)
  exact this
end Go.Proofs.Ytdpeflbdoaccbaa.Pure
namespace Go.Proofs.Ytdpeflbdoaccbaa.Pure
open Go.Proofs.YtdpeflbdoaccbaaS
theorem strict_ext : ∀ {a b : List Int}, a.Pairwise (· < ·) → b.Pairwise (· < ·) → (∀ x, x ∈ a ↔ x ∈ b) → a = b
  | [], [], _, _, _ => rfl
  | [], y :: b, _, _, h => by have := (h y).2 (by simp); simp at this
  | x :: a, [], _, _, h => by have := (h x).1 (by simp); simp at this
  | x :: a, y :: b, ha, hb, h => by
    have ha' := List.pairwise_cons.1 ha
    have hb' := List.pairwise_cons.1 hb
    have hxy : x = y := by
      have h1 : y ≤ x := by
        rcases List.mem_cons.1 ((h x).1 (by simp)) with e | e
        · omega
        · have := hb'.1 x e; omega
      have h2 : x ≤ y := by
        rcases List.mem_cons.1 ((h y).2 (by simp)) with e | e
        · omega
        · have := ha'.1 y e; omega
      omega
    subst hxy
    rw [strict_ext ha'.2 hb'.2 (fun z => ?_)]
    constructor
    · intro hz
      have h1 := ha'.1 z hz
      rcases List.mem_cons.1 ((h z).1 (List.mem_cons_of_mem _ hz)) with e | e
      · omega
      · exact e
    · intro hz
      have h1 := hb'.1 z hz
      rcases List.mem_cons.1 ((h z).2 (List.mem_cons_of_mem _ hz)) with e | e
      · omega
      · exact e
/-- A number in its place among rising ones, once. -/
def ins (x : Int) : List Int → List Int
  | [] => [x]
  | y :: l => if x < y then x :: y :: l else if x = y then y :: l else y :: ins x l
theorem mem_ins (x : Int) : ∀ (l : List Int) (z : Int), z ∈ ins x l ↔ z = x ∨ z ∈ l
  | [], z => by simp [ins]
  | y :: l, z => by
    unfold ins
    split
    · simp
    · split
      · rename_i h; subst h; simp
      · simp only [List.mem_cons, mem_ins x l z]
        constructor
        · rintro (h | h | h) <;> simp [h]
        · rintro (h | h | h) <;> simp [h]
theorem ins_up (x : Int) : ∀ {l : List Int}, l.Pairwise (· < ·) → (ins x l).Pairwise (· < ·)
  | [], _ => by simp [ins]
  | y :: l, h => by
    have h' := List.pairwise_cons.1 h
    unfold ins
    split
    · rename_i c
      refine List.pairwise_cons.2 ⟨fun z hz => ?_, h⟩
      rcases List.mem_cons.1 hz with e | e
      · omega
      · have := h'.1 z e; omega
    · split
      · exact h
      · refine List.pairwise_cons.2 ⟨fun z hz => ?_, ins_up x h'.2⟩
        rcases (mem_ins x l z).1 hz with e | e
        · omega
        · exact h'.1 z e
theorem ins_len (x : Int) : ∀ l : List Int, (ins x l).length ≤ l.length + 1
  | [] => by simp [ins]
  | y :: l => by
    unfold ins
    have := ins_len x l
    (repeat' split) <;> simp <;> omega
/-- Numbers, rising, each once. -/
def canonv (l : List Int) : List Int := l.foldr ins []
theorem mem_canonv : ∀ (l : List Int) (z : Int), z ∈ canonv l ↔ z ∈ l
  | [], z => by simp [canonv]
  | x :: l, z => by
    have := mem_canonv l z
    simp only [canonv, List.foldr_cons, mem_ins] at *
    rw [this]; simp
theorem canonv_up : ∀ (l : List Int), (canonv l).Pairwise (· < ·)
  | [] => by simp [canonv]
  | x :: l => by
    have := canonv_up l
    simp only [canonv, List.foldr_cons] at *
    exact ins_up x this
theorem canonv_len : ∀ (l : List Int), (canonv l).length ≤ l.length
  | [] => by simp [canonv]
  | x :: l => by
    have h1 := canonv_len l
    have h2 := ins_len x (canonv l)
    simp only [canonv, List.foldr_cons] at *
    simp; omega
theorem canonv_ext {a b : List Int} (h : ∀ z, z ∈ a ↔ z ∈ b) : canonv a = canonv b := strict_ext (canonv_up a) (canonv_up b) (fun z => by rw [mem_canonv, mem_canonv]; exact h z)
theorem canonv_of {a b : List Int} (h : a.Pairwise (· < ·)) (hm : ∀ z, z ∈ a ↔ z ∈ b) : a = canonv b := strict_ext h (canonv_up b) (fun z => by rw [mem_canonv]; exact hm z)
theorem canonv_self {a : List Int} (h : a.Pairwise (· < ·)) : canonv a = a := (canonv_of h (fun _ => Iff.rfl)).symm
theorem canonv_nil {a : List Int} : canonv a = [] ↔ a = [] := by
  constructor
  · intro h
    cases a with
    | nil => rfl
    | cons x l => have := (mem_canonv (x :: l) x).2 (by simp); rw [h] at this; simp at this
  · rintro rfl; rfl
theorem sortI_mem (l : List Int) (z : Int) : z ∈ sortI l ↔ z ∈ l := (List.mergeSort_perm l _).mem_iff
theorem sortI_up (l : List Int) : (sortI l).Pairwise (· ≤ ·) := by
  have := List.pairwise_mergeSort (le := fun x y : Int => decide (x ≤ y)) (by intro a b c h1 h2; simp at *; omega) (by intro a b; simp; omega) l
  refine this.imp ?_
  intro a b h
  simpa using h
theorem compact_up {d : Array Int} (h : d.toList.Pairwise (· ≤ ·)) : ∀ m, m ≤ d.size → (Lib.compactUpTo d m).Pairwise (· < ·) ∧ ∀ z, z ∈ Lib.compactUpTo d m ↔ ∃ j, j < m ∧ d[j]! = z
  | 0, _ => by simp [Lib.compactUpTo]
  | m + 1, hm => by
    obtain ⟨h1, h2⟩ := compact_up h m (by omega)
    have get : ∀ i j, i < j → j < d.size → d[i]! ≤ d[j]! := by
      intro i j hij hj
      have := List.pairwise_iff_getElem.1 h i j (by simp; omega) (by simpa using hj) hij
      simpa [getElem!_pos, hj, (by omega : i < d.size)] using this
    rw [Lib.compactUpTo_succ]
    by_cases hk : Lib.keeps d m = true
    · rw [if_pos hk]
      have hk' : m = 0 ∨ d[m]! ≠ d[m - 1]! := by simpa [Lib.keeps] using hk
      constructor
      · refine List.pairwise_append.2 ⟨h1, by simp, fun a ha b hb => ?_⟩
        obtain ⟨j, hj, rfl⟩ := (h2 a).1 ha
        simp at hb
        subst hb
        have e1 : d[j]! ≤ d[m - 1]! := by
          rcases Nat.lt_or_ge j (m - 1) with c | c
          · exact get _ _ c (by omega)
          · rw [show j = m - 1 by omega]; exact Int.le_refl _
        have e2 : d[m - 1]! ≤ d[m]! := get _ _ (by omega) (by omega)
        rcases hk' with c | c
        · omega
        · omega
      · intro z
        simp only [List.mem_append, List.mem_singleton, h2 z]
        constructor
        · rintro (⟨j, hj, e⟩ | e)
          · exact ⟨j, by omega, e⟩
          · exact ⟨m, by omega, e.symm⟩
        · rintro ⟨j, hj, e⟩
          rcases Nat.lt_or_ge j m with c | c
          · exact .inl ⟨j, c, e⟩
          · obtain rfl : j = m := by omega
            exact .inr e.symm
    · rw [if_neg hk, List.append_nil]
      refine ⟨h1, fun z => ?_⟩
      have hk' : ¬ (m = 0 ∨ d[m]! ≠ d[m - 1]!) := by simpa [Lib.keeps] using hk
      rw [h2 z]
      constructor
      · rintro ⟨j, hj, e⟩
        exact ⟨j, by omega, e⟩
      · rintro ⟨j, hj, e⟩
        rcases Nat.lt_or_ge j m with c | c
        · exact ⟨j, c, e⟩
        · obtain rfl : j = m := by omega
          have hm0 : j ≠ 0 := fun h => hk' (.inl h)
          have he : d[j]! = d[j - 1]! := by
            by_cases q : d[j]! = d[j - 1]!
            · exact q
            · exact absurd (.inr q) hk'
          exact ⟨j - 1, by omega, by rw [← he]; exact e⟩
/-- Sorted, and each once. -/
theorem canon_eq (l : List Int) : Lib.compact (sortI l) = canonv l := by
  have h := compact_up (d := (sortI l).toArray) (by simpa using sortI_up l) (sortI l).length (by simp)
  refine canonv_of h.1 (fun z => ?_)
  refine (h.2 z).trans ?_
  rw [← sortI_mem l z, List.mem_iff_getElem]
  constructor
  · rintro ⟨j, hj, e⟩
    exact ⟨j, hj, by rw [← e]; simp [getElem!_pos, hj]⟩
  · rintro ⟨j, hj, e⟩
    exact ⟨j, hj, by rw [← e]; simp [getElem!_pos, hj]⟩
end Go.Proofs.Ytdpeflbdoaccbaa.Pure
namespace Go.Proofs.Ytdpeflbdoaccbaa.Pure
open Go.Proofs.YtdpeflbdoaccbaaS
section
variable {κ β : Type} [DecidableEq κ]
def mgo : List (κ × β) → κ → Option β
  | [], _ => none
  | p :: D, k => if p.1 = k then some p.2 else mgo D k
theorem mgetD_mgo (z : β) (k : κ) : ∀ D : List (κ × β), mgetD z D k = (mgo D k).getD z
  | [] => rfl
  | p :: D => by unfold mgetD mgo; split <;> simp [mgetD_mgo z k D]
theorem mhas_mgo (k : κ) : ∀ D : List (κ × β), mhas D k = (mgo D k).isSome
  | [] => rfl
  | p :: D => by unfold mhas mgo; split <;> simp [mhas_mgo k D]
theorem mgo_mput (k : κ) (v : β) (u : κ) : ∀ D : List (κ × β), mgo (mput D k v) u = if k = u then some v else mgo D u
  | [] => by simp [mput, mgo]
  | p :: D => by
    unfold mput
    by_cases e : p.1 = k
    · rw [if_pos e]
      by_cases c : k = u
      · simp [mgo, c]
      · simp [mgo, c, e]
    · rw [if_neg e]
      simp only [mgo, mgo_mput k v u D]
      by_cases c : p.1 = u
      · have : ¬ k = u := fun h => e (c.trans h.symm)
        simp [c, this]
      · simp [c]
theorem mput_keys (k : κ) (v : β) : ∀ D : List (κ × β), (mput D k v).map (·.1) = if mhas D k = true then D.map (·.1) else D.map (·.1) ++ [k]
  | [] => by simp [mput, mhas]
  | p :: D => by
    unfold mput mhas
    by_cases e : p.1 = k
    · simp [e]
    · have := mput_keys k v D
      simp only [e, if_false, List.map_cons, this]
      split <;> simp
theorem nodup_mput {k : κ} {v : β} {D : List (κ × β)} (h : (D.map (·.1)).Nodup) : ((mput D k v).map (·.1)).Nodup := by
  rw [mput_keys]
  split
  · exact h
  · rename_i c
    rw [List.nodup_append]
    refine ⟨h, by simp, fun x hx y hy e => ?_⟩
    simp at hy
    subst hy; subst e
    rw [← mhas_iff] at hx
    exact c hx
theorem mput_len (k : κ) (v : β) (D : List (κ × β)) : (mput D k v).length ≤ D.length + 1 := by
  have h1 : (mput D k v).length = ((mput D k v).map (·.1)).length := by simp
  rw [h1, mput_keys]
  split <;> simp
theorem mem_mgo {D : List (κ × β)} (h : (D.map (·.1)).Nodup) (p : κ × β) : p ∈ D ↔ mgo D p.1 = some p.2 := by
  induction D with
  | nil => simp [mgo]
  | cons q D ih =>
    simp only [List.map_cons, List.nodup_cons] at h
    unfold mgo
    by_cases e : q.1 = p.1
    · rw [if_pos e]
      constructor
      · intro hp
        rcases List.mem_cons.1 hp with c | c
        · rw [c]
        · exact absurd (List.mem_map.2 ⟨p, c, e.symm⟩) h.1
      · intro hp
        injection hp with hp
        rw [show p = q from Prod.ext e.symm hp.symm]
        simp
    · rw [if_neg e, ← ih h.2]
      simp only [List.mem_cons]
      exact ⟨fun hp => hp.resolve_left (fun c => e (by rw [c])), .inr⟩
theorem mdel_sub (k : κ) : ∀ D : List (κ × β), (mdel D k).Sublist D
  | [] => by simp [mdel]
  | p :: D => by
    unfold mdel
    split
    · exact List.sublist_cons_self _ _
    · exact (mdel_sub k D).cons_cons p
theorem nodup_mdel {k : κ} {D : List (κ × β)} (h : (D.map (·.1)).Nodup) : ((mdel D k).map (·.1)).Nodup := h.sublist ((mdel_sub k D).map _)
theorem mdel_len {p : κ × β} {D : List (κ × β)} (h : p ∈ D) : (mdel D p.1).length + 1 = D.length := by
  induction D with
  | nil => simp at h
  | cons q D ih =>
    unfold mdel
    by_cases e : q.1 = p.1
    · simp [e]
    · rw [if_neg e]
      have : p ∈ D := (List.mem_cons.1 h).resolve_left (fun c => e (by rw [c]))
      simp [ih this]
theorem mem_mdel {k : κ} {D : List (κ × β)} (h : (D.map (·.1)).Nodup) (q : κ × β) : q ∈ mdel D k ↔ q ∈ D ∧ q.1 ≠ k := by
  induction D with
  | nil => simp [mdel]
  | cons p D ih =>
    simp only [List.map_cons, List.nodup_cons] at h
    unfold mdel
    by_cases e : p.1 = k
    · rw [if_pos e]
      constructor
      · intro hq
        exact ⟨List.mem_cons_of_mem _ hq, fun c => h.1 (List.mem_map.2 ⟨q, hq, c.trans e.symm⟩)⟩
      · rintro ⟨hq, hn⟩
        exact (List.mem_cons.1 hq).resolve_left (fun c => hn (by rw [c]; exact e))
    · rw [if_neg e]
      simp only [List.mem_cons, ih h.2]
      constructor
      · rintro (c | ⟨c1, c2⟩)
        · exact ⟨.inl c, by rw [c]; exact e⟩
        · exact ⟨.inr c1, c2⟩
      · rintro ⟨c1 | c1, c2⟩
        · exact .inl c1
        · exact .inr ⟨c1, c2⟩
theorem mgo_mdel {k u : κ} {D : List (κ × β)} (h : (D.map (·.1)).Nodup) : mgo (mdel D k) u = if u = k then none else mgo D u := by
  induction D with
  | nil => simp [mdel, mgo]
  | cons p D ih =>
    simp only [List.map_cons, List.nodup_cons] at h
    have hnone : ∀ D : List (κ × β), k ∉ D.map (·.1) → mgo D k = none := by
      intro D hk
      have h1 := mhas_mgo k D
      have h2 : mhas D k = false := by
        cases hh : mhas D k with
        | false => rfl
        | true => exact absurd ((mhas_iff k D).1 hh) hk
      rw [h2] at h1
      cases hm : mgo D k with
      | none => rfl
      | some v => rw [hm] at h1; cases h1
    unfold mdel
    by_cases e : p.1 = k
    · rw [if_pos e]
      by_cases c : u = k
      · rw [if_pos c, c]; exact hnone D (e ▸ h.1)
      · rw [if_neg c]
        have : ¬ p.1 = u := fun q => c (q.symm.trans e)
        simp [mgo, this]
    · rw [if_neg e]
      simp only [mgo, ih h.2]
      by_cases c : u = k
      · have : ¬ p.1 = u := fun q => e (q.trans c)
        simp [c, e]
      · simp [c]
end
end Go.Proofs.Ytdpeflbdoaccbaa.Pure
namespace Go.Proofs.Ytdpeflbdoaccbaa.Pure
open Go.RowKit Go.Proofs.Ytdpeflbdoaccbaa.XCH Go.Proofs.YtdpeflbdoaccbaaW.PrintWords Go.Proofs.YtdpeflbdoaccbaaW.PrintLast Go.Proofs.YtdpeflbdoaccbaaS

theorem rd44_drop {l : List S44} {i : Nat} (h : i < l.length) : l.drop i = rd_T44 l i :: l.drop (i + 1) := by
  unfold rd_T44
  rw [Int.toNat_natCast, List.getD_eq_getElem?_getD, List.getElem?_eq_getElem h]
  exact List.drop_eq_getElem_cons h
theorem rd71_drop {l : List S71} {i : Nat} (h : i < l.length) : l.drop i = rd_T71 l i :: l.drop (i + 1) := by
  unfold rd_T71
  rw [Int.toNat_natCast, List.getD_eq_getElem?_getD, List.getElem?_eq_getElem h]
  exact List.drop_eq_getElem_cons h
theorem rd_drop {l : List Int} {i : Nat} (h : i < l.length) : l.drop i = rd l i :: l.drop (i + 1) := by
  unfold rd
  rw [Int.toNat_natCast, List.getD_eq_getElem?_getD, List.getElem?_eq_getElem h]
  exact List.drop_eq_getElem_cons h
theorem succ_cast (i : Nat) : ((i : Int) + 1) = ((i + 1 : Nat) : Int) := by omega
def placeOf : List S44 → Int → Option S42
  | [], _ => none
  | p :: l, u => if p.f0 = u then some p.f1 else placeOf l u
theorem placeOf_some {l : List S44} {u : Int} : (placeOf l u).isSome = true ↔ u ∈ l.map (·.f0) := by
  induction l with
  | nil => simp [placeOf]
  | cons p l ih =>
    unfold placeOf
    by_cases e : p.f0 = u
    · simp [e]
    · rw [if_neg e, ih]; simp [Ne.symm e]
theorem placeOf_mem {l : List S44} {u : Int} {q : S42} (h : placeOf l u = some q) : ∃ p ∈ l, p.f0 = u ∧ p.f1 = q := by
  induction l with
  | nil => simp [placeOf] at h
  | cons p l ih =>
    unfold placeOf at h
    by_cases e : p.f0 = u
    · rw [if_pos e] at h; injection h with h; exact ⟨p, by simp, e, h⟩
    · rw [if_neg e] at h
      obtain ⟨p, h1, h2⟩ := ih h
      exact ⟨p, by simp [h1], h2⟩
theorem placeOf_append (a b : List S44) (u : Int) : placeOf (a ++ b) u = (placeOf a u).or (placeOf b u) := by
  induction a with
  | nil => simp [placeOf]
  | cons p a ih => simp only [List.cons_append, placeOf, ih]; split <;> simp
structure PD (l : List S44) (D : List (Int × S42)) : Prop where
  go : ∀ u, mgo D u = placeOf l u
  nd : (D.map (·.1)).Nodup
  len : D.length ≤ l.length
theorem places_l0 (l : List S44) (hl : l.length ≤ 100) : ∀ (n i k : Nat) (D : List (Int × S42)), i + n = l.length → n < k → PD (l.take i) D → ∃ D', chat_places.l0 k l i D = some D' ∧ PD l D' := by
  intro n
  induction n with
  | zero =>
    intro i k D hi hk h
    obtain ⟨k, rfl⟩ : ∃ q, k = q + 1 := ⟨k - 1, by omega⟩
    rw [chat_places.l0, if_neg (by omega)]
    rw [List.take_of_length_le (by omega)] at h
    exact ⟨D, rfl, h⟩
  | succ n ih =>
    intro i k D hi hk h
    obtain ⟨k, rfl⟩ : ∃ q, k = q + 1 := ⟨k - 1, by omega⟩
    rw [chat_places.l0, if_pos (by omega), if_pos (by omega), Option.bind_some, Option.bind_some, mhas_mgo, h.go, wrap64_in (by omega), succ_cast]
    have ht : l.take (i + 1) = l.take i ++ [rd_T44 l i] := by
      have := rd44_drop (l := l) (i := i) (by omega)
      rw [List.take_add_one, ← List.head?_drop, this]; rfl
    have hone : ∀ u, placeOf [rd_T44 l i] u = if (rd_T44 l i).f0 = u then some (rd_T44 l i).f1 else none := fun u => rfl
    split
    · rename_i c
      refine ih (i + 1) k D (by omega) (by omega) ⟨fun u => ?_, h.nd, by have := h.len; simp at this ⊢; omega⟩
      rw [h.go, ht, placeOf_append, hone]
      split
      · rename_i e; rw [← e]
        cases hp : placeOf (l.take i) (rd_T44 l i).f0 with
        | none => rw [hp] at c; cases c
        | some v => rfl
      · cases placeOf (l.take i) u <;> rfl
    · rename_i c
      rw [Option.bind_some]
      refine ih (i + 1) k _ (by omega) (by omega) ⟨fun u => ?_, nodup_mput h.nd, ?_⟩
      · rw [mgo_mput, h.go, ht, placeOf_append, hone]
        split
        · rename_i e
          subst e
          cases hp : placeOf (l.take i) (rd_T44 l i).f0 with
          | none => rfl
          | some v => rw [hp] at c; simp at c
        · cases placeOf (l.take i) u <;> rfl
      · have := h.len
        have h2 := mput_len (rd_T44 l i).f0 (⟨(rd_T44 l i).f1.f0, (rd_T44 l i).f1.f1⟩ : S42) D
        rw [ht, List.length_append, List.length_singleton]; omega
theorem places_eq (l : List S44) (hl : l.length ≤ 100) {k : Nat} (hk : 100 < k) : ∃ D, chat_places.f k l = some D ∧ PD l D :=
  places_l0 l hl l.length 0 k [] (by omega) (by omega) ⟨fun u => by simp [mgo, placeOf], by simp, by simp⟩
theorem member_l0 (l : List S71) (u : Int) (hl : l.length ≤ 100) : ∀ (n i k : Nat), i + n = l.length → n < k → ∃ j, api_Member_67_i1.l0 k l i u = some (j, u) ∧ (j ≥ 0 ↔ u ∈ (l.drop i).map (·.f0)) := by
  intro n
  induction n with
  | zero =>
    intro i k hi hk
    obtain ⟨k, rfl⟩ : ∃ q, k = q + 1 := ⟨k - 1, by omega⟩
    rw [api_Member_67_i1.l0, if_neg (by omega), List.drop_of_length_le (by omega)]
    exact ⟨_, rfl, by simp⟩
  | succ n ih =>
    intro i k hi hk
    obtain ⟨k, rfl⟩ : ∃ q, k = q + 1 := ⟨k - 1, by omega⟩
    rw [api_Member_67_i1.l0, if_pos (by omega), if_pos (by omega), chat_in_1_i1.f, rd71_drop (by omega), wrap64_in (by omega), succ_cast]
    by_cases e : (rd_T71 l i).f0 = u
    · rw [if_pos e]
      simp only [Option.bind_some, if_true]
      refine ⟨_, rfl, ?_⟩
      simp [e]
    · rw [if_neg e]
      simp only [Option.bind_some, Bool.false_eq_true, if_false]
      obtain ⟨j, h1, h2⟩ := ih (i + 1) k (by omega) (by omega)
      refine ⟨j, h1, ?_⟩
      rw [h2]
      simp [Ne.symm e]
def nr (p q : S42) (r : Int) : Bool := nearv p.f0 p.f1 q.f0 q.f1 r
def In42 (p : S42) : Prop := In64 p.f0 ∧ In64 p.f1
theorem near42 (k : Nat) (hk : 0 < k) {p q : S42} {r : Int} (hp : In42 p) (hq : In42 q) (hr : In64 r) : grid_Near.f k p.f0 p.f1 q.f0 q.f1 r = some (nr p q r) := by
  obtain ⟨k, rfl⟩ : ∃ m, k = m + 1 := ⟨k - 1, by omega⟩
  exact near_eq k _ _ _ _ hp.1 hp.2 hq.1 hq.2 r hr
theorem same_l0 (l m : List Int) (hl : l.length = m.length) (hb : l.length ≤ 100000) : ∀ (n i k : Nat), i + n = l.length → n < k → barrowref02_Same.l0 k l m i = some (decide (l.drop i = m.drop i)) := by
  intro n
  induction n with
  | zero =>
    intro i k hi hk
    obtain ⟨k, rfl⟩ : ∃ q, k = q + 1 := ⟨k - 1, by omega⟩
    rw [barrowref02_Same.l0, if_neg (by omega), List.drop_of_length_le (by omega), List.drop_of_length_le (by omega)]
    simp
  | succ n ih =>
    intro i k hi hk
    obtain ⟨k, rfl⟩ : ∃ q, k = q + 1 := ⟨k - 1, by omega⟩
    rw [barrowref02_Same.l0, if_pos (by omega), if_pos (by omega), if_pos (by omega), rd_drop (l := l) (by omega), rd_drop (l := m) (by omega), wrap64_in (by omega), succ_cast]
    by_cases e : rd l i = rd m i
    · rw [if_pos e, ih (i + 1) k (by omega) (by omega)]
      simp [e]
    · rw [if_neg e]
      simp [e]
theorem same_eq (l m : List Int) (hb : l.length ≤ 100000) {k : Nat} (hk : l.length < k) : barrowref02_Same.f k l m = some (decide (l = m)) := by
  unfold barrowref02_Same.f
  by_cases h : l.length = m.length
  · rw [if_pos (by omega)]
    have := same_l0 l m h hb l.length 0 k (by omega) hk
    rw [List.drop_zero, List.drop_zero] at this
    exact this
  · rw [if_neg (by omega)]
    have : l ≠ m := fun e => h (by rw [e])
    simp [this]
theorem rd46_drop {l : List S46} {i : Nat} (h : i < l.length) : l.drop i = rd_T46 l i :: l.drop (i + 1) := by
  unfold rd_T46
  rw [Int.toNat_natCast, List.getD_eq_getElem?_getD, List.getElem?_eq_getElem h]
  exact List.drop_eq_getElem_cons h
theorem in_eq (l : List S71) (u : Int) (hl : l.length ≤ 100) {k : Nat} (hk : 100 < k) : chat_in.f k l u = some (decide (u ∈ l.map (·.f0))) := by
  obtain ⟨j, h1, h2⟩ := member_l0 l u hl l.length 0 k (by omega) (by omega)
  unfold chat_in.f api_Member_46_i1.f api_Member_67_i1.f
  rw [show (0 : Int) = ((0 : Nat) : Int) from rfl, h1]
  simp only [Option.bind_some]
  rw [List.drop_zero] at h2
  by_cases c : j ≥ 0
  · rw [if_pos (by exact c), decide_eq_true (h2.1 c)]; rfl
  · rw [if_neg (by exact c), decide_eq_false (fun h => c (h2.2 h))]; rfl
/-- In which group a unit is; 0: in none. -/
def groupOf : List S71 → Int → Int
  | [], _ => 0
  | p :: l, u => if p.f0 = u then p.f1 else groupOf l u
theorem find_l0 (l : List S71) (u : Int) (hl : l.length ≤ 100) : ∀ (n i k : Nat), i + n = l.length → n < k → ∃ j, api_Member_67_i2.l0 k l i u = some (j, u) ∧ ((j < 0 ∧ groupOf (l.drop i) u = 0) ∨ (0 ≤ j ∧ j < l.length ∧ (rd_T71 l j).f1 = groupOf (l.drop i) u)) := by
  intro n
  induction n with
  | zero =>
    intro i k hi hk
    obtain ⟨k, rfl⟩ : ∃ q, k = q + 1 := ⟨k - 1, by omega⟩
    rw [api_Member_67_i2.l0, if_neg (by omega), List.drop_of_length_le (by omega)]
    exact ⟨_, rfl, .inl ⟨by omega, rfl⟩⟩
  | succ n ih =>
    intro i k hi hk
    obtain ⟨k, rfl⟩ : ∃ q, k = q + 1 := ⟨k - 1, by omega⟩
    rw [api_Member_67_i2.l0, if_pos (by omega), if_pos (by omega), roster_find_1_i1.f, rd71_drop (by omega), wrap64_in (by omega), succ_cast]
    by_cases e : (rd_T71 l i).f0 = u
    · rw [if_pos e]
      simp only [Option.bind_some, if_true]
      refine ⟨_, rfl, .inr ⟨by omega, by omega, ?_⟩⟩
      simp [groupOf, e]
    · rw [if_neg e]
      simp only [Option.bind_some, Bool.false_eq_true, if_false]
      obtain ⟨j, h1, h2⟩ := ih (i + 1) k (by omega) (by omega)
      refine ⟨j, h1, ?_⟩
      rw [groupOf, if_neg e]
      exact h2
theorem group_eq (l : List S71) (u : Int) (hl : l.length ≤ 100) {k : Nat} (hk : 100 < k) : roster_Group.f k l u = some (groupOf l u) := by
  obtain ⟨j, h1, h2⟩ := find_l0 l u hl l.length 0 k (by omega) (by omega)
  unfold roster_Group.f roster_find.f api_Member_67_i2.f
  rw [show api_Member_67_i2.l0 k l 0 u = some (j, u) from h1]
  simp only [Option.bind_some]
  rw [List.drop_zero] at h2
  rcases h2 with ⟨a, b⟩ | ⟨a, b, c⟩
  · rw [if_pos a, b]
  · rw [if_neg (by omega), if_pos a, if_pos b, c]
/-- Does one not hear another one? -/
def muted (l : List S46) (a b : Int) : Bool := l.any fun m => decide (m.f0 = a ∧ m.f1 = b)
theorem mute_l0 (l : List S46) (a b : Int) (hl : l.length ≤ 100) : ∀ (n i k : Nat), i + n = l.length → n < k → ∃ j, api_Mute_42.l0 k l l.length i a b = some j ∧ decide (j ≥ 0) = muted (l.drop i) a b := by
  intro n
  induction n with
  | zero =>
    intro i k hi hk
    obtain ⟨k, rfl⟩ : ∃ q, k = q + 1 := ⟨k - 1, by omega⟩
    rw [api_Mute_42.l0, if_neg (by omega), List.drop_of_length_le (by omega)]
    exact ⟨_, rfl, rfl⟩
  | succ n ih =>
    intro i k hi hk
    obtain ⟨k, rfl⟩ : ∃ q, k = q + 1 := ⟨k - 1, by omega⟩
    rw [api_Mute_42.l0, if_pos (by omega), if_pos (by omega), if_pos (by omega), rd46_drop (by omega), wrap64_in (by omega), succ_cast]
    by_cases e : (rd_T46 l i).f0 = a ∧ (rd_T46 l i).f1 = b
    · rw [if_pos (by simp [e.1, e.2])]
      refine ⟨_, rfl, ?_⟩
      simp [muted, e.1, e.2]
    · rw [if_neg (by simp; intro h1 h2; exact e ⟨h1.symm, h2.symm⟩)]
      obtain ⟨j, h1, h2⟩ := ih (i + 1) k (by omega) (by omega)
      refine ⟨j, h1, ?_⟩
      rw [h2]
      simp only [muted, List.any_cons, decide_eq_false e, Bool.false_or]
theorem mutes_eq (l : List S46) (a b : Int) (hl : l.length ≤ 100) {k : Nat} (hk : 100 < k) : chat_Mutes.f k l a b = some (muted l a b) := by
  obtain ⟨j, h1, h2⟩ := mute_l0 l a b hl l.length 0 k (by omega) (by omega)
  unfold chat_Mutes.f api_Mute_28.f api_Mute_42.f
  rw [show api_Mute_42.l0 k l l.length 0 a b = some j from h1]
  simp only [Option.bind_some]
  rw [h2, List.drop_zero]
/-- Where a unit is, or nowhere. -/
def placeD (l : List S44) (u : Int) : S42 := (placeOf l u).getD z42
theorem placeD_in {l : List S44} (hin : ∀ p ∈ l, In42 p.f1) (u : Int) : In42 (placeD l u) := by
  unfold placeD
  cases h : placeOf l u with
  | none => exact ⟨⟨by decide, by decide⟩, ⟨by decide, by decide⟩⟩
  | some q => obtain ⟨p, h1, _, h2⟩ := placeOf_mem h; exact h2 ▸ hin p h1
/-- Could a unit hear what is said? -/
def hearsv (l : List S44) (m : List S71) (kind a b r u : Int) : Bool :=
  if kind = 1 then nr (placeD l a) (placeD l u) r
  else if kind = 2 then decide (a ∈ m.map (·.f0)) && decide (u ∈ m.map (·.f0))
  else if kind = 3 then decide (a ∈ m.map (·.f0)) && decide (u ∈ m.map (·.f0)) && decide (groupOf m a = groupOf m u)
  else if kind = 4 then decide (u = a ∨ u = b)
  else false
theorem beq_dec (a b : Int) : (a == b) = decide (a = b) := rfl
theorem reaches_eq (l : List S44) (m : List S71) (kind a b r u : Int) (hm : m.length ≤ 100) (hr : In64 r) (hin : ∀ p ∈ l, In42 p.f1) {D : List (Int × S42)} (hD : PD l D) {k : Nat} (hk : 100 < k) :
    chat_talk_reaches_i1.f k kind a b r m u D = some (hearsv l m kind a b r u) := by
  unfold chat_talk_reaches_i1.f
  have hg : ∀ v, mgetD z42 D v = placeD l v := fun v => by rw [mgetD_mgo, hD.go]; rfl
  rw [in_eq m a hm hk, in_eq m u hm hk, group_eq m a hm hk, group_eq m u hm hk]
  simp only [Option.bind_some, hg]
  rw [near42 k (by omega) (placeD_in hin a) (placeD_in hin u) hr]
  unfold hearsv
  generalize decide (a ∈ m.map (·.f0)) = P
  generalize decide (u ∈ m.map (·.f0)) = Q
  cases P <;> cases Q <;> by_cases h1 : kind = 1 <;> by_cases h2 : kind = 2 <;> by_cases h3 : kind = 3 <;> by_cases h4 : kind = 4 <;> by_cases x : u = a <;> by_cases y : u = b <;> simp_all [beq_dec]
/-- Does a unit with a place hear it? -/
def hv (l : List S44) (m : List S71) (t : List S46) (kind a b r u : Int) : Bool := hearsv l m kind a b r u && (decide (u = a) || !muted t u a)
theorem sortI_nodup {l : List Int} (h : l.Nodup) : sortI l = canonv l := by
  refine canonv_of ?_ (fun z => sortI_mem l z)
  have h1 := sortI_up l
  have h2 : (sortI l).Nodup := (List.mergeSort_perm l _).nodup_iff.2 h
  refine (h1.and h2).imp ?_
  intro a b hab
  have := hab.1; have := hab.2; omega
theorem mdel_keys {κ β : Type} [DecidableEq κ] {p : κ × β} {D : List (κ × β)} (h : p ∈ D) : (D.map (·.1)).Perm (p.1 :: (mdel D p.1).map (·.1)) := by
  induction D with
  | nil => simp at h
  | cons q D ih =>
    unfold mdel
    by_cases e : q.1 = p.1
    · rw [if_pos e]; simp [e]
    · rw [if_neg e]
      have : p ∈ D := (List.mem_cons.1 h).resolve_left (fun c => e (by rw [c]))
      simp only [List.map_cons]
      exact ((ih this).cons q.1).trans (List.Perm.swap _ _ _)
theorem hear_l0 (l : List S44) (m : List S71) (t : List S46) (kind a b r : Int) (hm : m.length ≤ 100) (ht : t.length ≤ 100) (hr : In64 r) (hin : ∀ p ∈ l, In42 p.f1) {D : List (Int × S42)} (hD : PD l D) :
    ∀ (n k : Nat) (R : List (Int × S42)) (out : List Int), R.length = n → 200 + n < k → (out ++ R.map (·.1)).Nodup → out.length + n ≤ 1000 →
    chat_Hear.l0 k m t kind a b r D out R = some (canonv (out ++ (R.map (·.1)).filter (hv l m t kind a b r))) := by
  intro n
  induction n with
  | zero =>
    intro k R out hn hk hd ho
    obtain ⟨k, rfl⟩ : ∃ q, k = q + 1 := ⟨k - 1, by omega⟩
    obtain rfl : R = [] := List.eq_nil_of_length_eq_zero hn
    rw [chat_Hear.l0, if_pos (show ([] : List (Int × S42)).isEmpty = true from rfl)]
    unfold slices_Sort_int_int_c.f
    rw [if_pos (by omega), sortI_nodup (by simpa using hd)]
    simp
  | succ n ih =>
    intro k R out hn hk hd ho
    obtain ⟨k, rfl⟩ : ∃ q, k = q + 1 := ⟨k - 1, by omega⟩
    have hne : R ≠ [] := by intro e; rw [e] at hn; cases hn
    rw [chat_Hear.l0, if_neg (by simpa using hne)]
    refine everyOf_of hne fun p hp => ?_
    have hl := mdel_len hp
    have hperm := mdel_keys hp
    have hd1 : (out ++ (p.1 :: (mdel R p.1).map (·.1))).Nodup := ((hperm.append_left out).nodup_iff).1 hd
    have hd2 : ((out ++ [p.1]) ++ (mdel R p.1).map (·.1)).Nodup := by simpa using hd1
    have hd3 : (out ++ (mdel R p.1).map (·.1)).Nodup := hd1.sublist (List.Sublist.append_left (List.sublist_cons_self _ _) out)
    have hext : ∀ z, z ∈ out ++ (R.map (·.1)).filter (hv l m t kind a b r) ↔ z ∈ out ++ (p.1 :: (mdel R p.1).map (·.1)).filter (hv l m t kind a b r) := fun z => by
      simp only [List.mem_append, List.mem_filter, hperm.mem_iff]
    rw [canonv_ext hext, reaches_eq l m kind a b r p.1 hm hr hin hD (by omega), mutes_eq t p.1 a ht (by omega)]
    simp only [Option.bind_some]
    have hc : hv l m t kind a b r p.1 = (hearsv l m kind a b r p.1 && (decide (p.1 = a) || !muted t p.1 a)) := rfl
    have yes : hv l m t kind a b r p.1 = true → (if out.length + ([p.1] : List Int).length < 17592186044416 then chat_Hear.l0 k m t kind a b r D (out ++ [p.1]) (mdel R p.1) else none) = some (canonv (out ++ (p.1 :: (mdel R p.1).map (·.1)).filter (hv l m t kind a b r))) := by
      intro c
      rw [if_pos (by simp; omega), ih k _ _ (by omega) (by omega) hd2 (by simp; omega), List.filter_cons_of_pos c]
      simp
    have no : hv l m t kind a b r p.1 = false → chat_Hear.l0 k m t kind a b r D out (mdel R p.1) = some (canonv (out ++ (p.1 :: (mdel R p.1).map (·.1)).filter (hv l m t kind a b r))) := by
      intro c
      rw [ih k _ _ (by omega) (by omega) hd3 (by omega), List.filter_cons_of_neg (by rw [c]; simp)]
    by_cases c1 : hearsv l m kind a b r p.1 = true
    · rw [if_pos c1]
      by_cases c2 : p.1 = a
      · rw [if_pos c2]; exact yes (by rw [hc, c1, decide_eq_true c2]; rfl)
      · rw [if_neg c2]
        by_cases c3 : muted t p.1 a = true
        · rw [if_pos c3]; exact no (by rw [hc, c1, c3, decide_eq_false c2]; rfl)
        · rw [if_neg c3]; exact yes (by rw [hc, c1, decide_eq_false c2]; simpa using c3)
    · rw [if_neg c1]; exact no (by rw [hc]; simp [c1])
/-- Who hears what is said. -/
def hearv (l : List S44) (m : List S71) (t : List S46) (kind a b r : Int) : List Int := if a ∈ l.map (·.f0) then canonv ((l.map (·.f0)).filter (hv l m t kind a b r)) else []
theorem hear_eq (l : List S44) (m : List S71) (t : List S46) (kind a b r : Int) (hl : l.length ≤ 100) (hm : m.length ≤ 100) (ht : t.length ≤ 100) (hr : In64 r) (hin : ∀ p ∈ l, In42 p.f1) {k : Nat} (hk : 400 < k) :
    chat_Hear.f k l m t kind a b r = some (hearv l m t kind a b r) := by
  obtain ⟨D, hD1, hD⟩ := places_eq l hl (k := k) (by omega)
  unfold chat_Hear.f hearv
  rw [hD1]
  simp only [Option.bind_some]
  have hmem : ∀ z, z ∈ D.map (·.1) ↔ z ∈ l.map (·.f0) := fun z => by
    rw [← mhas_iff, mhas_mgo, hD.go, placeOf_some]
  by_cases c : a ∈ l.map (·.f0)
  · rw [if_pos ((mhas_iff a D).2 ((hmem a).2 c)), if_pos c, hear_l0 l m t kind a b r hm ht hr hin hD D.length k D [] rfl (by have := hD.len; omega) (by simpa using hD.nd) (by have := hD.len; simp; omega)]
    rw [List.nil_append]
    exact congrArg some (canonv_ext fun z => by simp only [List.mem_filter, hmem])
  · rw [if_neg (fun h => c ((hmem a).1 ((mhas_iff a D).1 h))), if_neg c]
end Go.Proofs.Ytdpeflbdoaccbaa.Pure
namespace Go.Proofs.Ytdpeflbdoaccbaa.Pure
open Go.RowKit Go.Proofs.Ytdpeflbdoaccbaa.XCH Go.Proofs.YtdpeflbdoaccbaaW.PrintWords Go.Proofs.YtdpeflbdoaccbaaW.PrintLast Go.Proofs.YtdpeflbdoaccbaaS
theorem rmutes_l0 (l : List S46) (a b : Int) (hl : l.length ≤ 100) : ∀ (n i k : Nat), i + n = l.length → n < k → barrowref38_Mutes.l0 k l a b i = some (muted (l.drop i) a b) := by
  intro n
  induction n with
  | zero =>
    intro i k hi hk
    obtain ⟨k, rfl⟩ : ∃ q, k = q + 1 := ⟨k - 1, by omega⟩
    rw [barrowref38_Mutes.l0, if_neg (by omega), List.drop_of_length_le (by omega)]
    rfl
  | succ n ih =>
    intro i k hi hk
    obtain ⟨k, rfl⟩ : ∃ q, k = q + 1 := ⟨k - 1, by omega⟩
    rw [barrowref38_Mutes.l0, if_pos (by omega), if_pos (by omega), rd46_drop (by omega), wrap64_in (by omega), succ_cast, ih (i + 1) k (by omega) (by omega)]
    by_cases h1 : (rd_T46 l i).f0 = a <;> by_cases h2 : (rd_T46 l i).f1 = b <;> simp [muted, h1, h2]
theorem rmutes_eq (l : List S46) (a b : Int) (hl : l.length ≤ 100) {k : Nat} (hk : 100 < k) : barrowref38_Mutes.f k l a b = some (muted l a b) := by
  have := rmutes_l0 l a b hl l.length 0 k (by omega) (by omega)
  rw [List.drop_zero] at this
  exact this
def placev (l : List S44) (u : Int) : Int × Int × Bool := match placeOf l u with | some q => (q.f0, q.f1, true) | none => (0, 0, false)
theorem rplace_l0 (l : List S44) (u : Int) (hl : l.length ≤ 100) : ∀ (n i k : Nat), i + n = l.length → n < k → barrowref38_place.l0 k l u i = some (placev (l.drop i) u) := by
  intro n
  induction n with
  | zero =>
    intro i k hi hk
    obtain ⟨k, rfl⟩ : ∃ q, k = q + 1 := ⟨k - 1, by omega⟩
    rw [barrowref38_place.l0, if_neg (by omega), List.drop_of_length_le (by omega)]
    rfl
  | succ n ih =>
    intro i k hi hk
    obtain ⟨k, rfl⟩ : ∃ q, k = q + 1 := ⟨k - 1, by omega⟩
    rw [barrowref38_place.l0, if_pos (by omega), if_pos (by omega), rd44_drop (by omega), wrap64_in (by omega), succ_cast]
    by_cases e : (rd_T44 l i).f0 = u
    · rw [if_pos e]; simp [placev, placeOf, e]
    · rw [if_neg e, ih (i + 1) k (by omega) (by omega)]; simp [placev, placeOf, e]
theorem rplace_eq (l : List S44) (u : Int) (hl : l.length ≤ 100) {k : Nat} (hk : 100 < k) : barrowref38_place.f k l u = some (placev l u) := by
  have := rplace_l0 l u hl l.length 0 k (by omega) (by omega)
  rw [List.drop_zero] at this
  exact this
theorem placev_D (l : List S44) (u : Int) : placev l u = ((placeD l u).f0, (placeD l u).f1, (placeOf l u).isSome) := by
  unfold placev placeD
  cases placeOf l u <;> rfl
theorem rfind_l0 (l : List S71) (u : Int) (hl : l.length ≤ 100) : ∀ (n i k : Nat), i + n = l.length → n < k → ∃ j, barrowref22_find.l0 k l u i = some j ∧ ((j < 0 ∧ groupOf (l.drop i) u = 0) ∨ (0 ≤ j ∧ j < l.length ∧ (rd_T71 l j).f1 = groupOf (l.drop i) u)) := by
  intro n
  induction n with
  | zero =>
    intro i k hi hk
    obtain ⟨k, rfl⟩ : ∃ q, k = q + 1 := ⟨k - 1, by omega⟩
    rw [barrowref22_find.l0, if_neg (by omega), List.drop_of_length_le (by omega)]
    exact ⟨_, rfl, .inl ⟨by omega, rfl⟩⟩
  | succ n ih =>
    intro i k hi hk
    obtain ⟨k, rfl⟩ : ∃ q, k = q + 1 := ⟨k - 1, by omega⟩
    rw [barrowref22_find.l0, if_pos (by omega), if_pos (by omega), rd71_drop (by omega), wrap64_in (by omega), succ_cast]
    by_cases e : (rd_T71 l i).f0 = u
    · rw [if_pos e]
      refine ⟨_, rfl, .inr ⟨by omega, by omega, ?_⟩⟩
      simp [groupOf, e]
    · rw [if_neg e]
      obtain ⟨j, h1, h2⟩ := ih (i + 1) k (by omega) (by omega)
      refine ⟨j, h1, ?_⟩
      rw [groupOf, if_neg e]
      exact h2
theorem rgroup_eq (l : List S71) (u : Int) (hl : l.length ≤ 100) {k : Nat} (hk : 100 < k) : barrowref22_Group.f k l u = some (groupOf l u) := by
  obtain ⟨j, h1, h2⟩ := rfind_l0 l u hl l.length 0 k (by omega) (by omega)
  unfold barrowref22_Group.f barrowref22_find.f
  rw [show barrowref22_find.l0 k l u 0 = some j from h1]
  simp only [Option.bind_some]
  rw [List.drop_zero] at h2
  rcases h2 with ⟨a, b⟩ | ⟨a, b, c⟩
  · rw [if_pos a, b]
  · rw [if_neg (by omega), if_pos a, if_pos b, c]
theorem rnear42 (k : Nat) (hk : 0 < k) {p q : S42} {r : Int} (hp : In42 p) (hq : In42 q) (hr : In64 r) : barrowref06_Near.f k p.f0 p.f1 q.f0 q.f1 r = some (nr p q r) := by
  obtain ⟨k, rfl⟩ : ∃ m, k = m + 1 := ⟨k - 1, by omega⟩
  exact rnear_eq k _ _ _ _ hp.1 hp.2 hq.1 hq.2 r hr
theorem rhears_l0 (l : List S44) (m : List S71) (kind a b r u : Int) (hm : m.length ≤ 100) (hr : In64 r) (hin : ∀ p ∈ l, In42 p.f1) :
    ∀ (n i k : Nat) (one two : Bool), i + n = m.length → n + 2 < k → (one || decide (a ∈ (m.drop i).map (·.f0))) = decide (a ∈ m.map (·.f0)) → (two || decide (u ∈ (m.drop i).map (·.f0))) = decide (u ∈ m.map (·.f0)) →
    barrowref38_hears.l0 k m kind a b r u (groupOf m a) (groupOf m u) one two i (placeD l a).f0 (placeD l a).f1 (placeD l u).f0 (placeD l u).f1 = some (hearsv l m kind a b r u) := by
  intro n
  induction n with
  | zero =>
    intro i k one two hi hk h1 h2
    obtain ⟨k, rfl⟩ : ∃ q, k = q + 1 := ⟨k - 1, by omega⟩
    rw [List.drop_of_length_le (by omega)] at h1 h2
    rw [barrowref38_hears.l0, if_neg (by omega), rnear42 k (by omega) (placeD_in hin a) (placeD_in hin u) hr]
    unfold hearsv
    rw [← h1, ← h2]
    cases one <;> cases two <;> by_cases h1 : kind = 1 <;> by_cases h2 : kind = 2 <;> by_cases h3 : kind = 3 <;> by_cases h4 : kind = 4 <;> by_cases x : u = a <;> by_cases y : u = b <;> simp_all [beq_dec]
  | succ n ih =>
    intro i k one two hi hk h1 h2
    obtain ⟨k, rfl⟩ : ∃ q, k = q + 1 := ⟨k - 1, by omega⟩
    rw [rd71_drop (l := m) (i := i) (by omega)] at h1 h2
    have e1 : (one || decide ((rd_T71 m i).f0 = a) || decide (a ∈ (m.drop (i + 1)).map (·.f0))) = decide (a ∈ m.map (·.f0)) := by
      rw [← h1]; cases one <;> simp [eq_comm]
    have e2 : (two || decide ((rd_T71 m i).f0 = u) || decide (u ∈ (m.drop (i + 1)).map (·.f0))) = decide (u ∈ m.map (·.f0)) := by
      rw [← h2]; cases two <;> simp [eq_comm]
    rw [barrowref38_hears.l0, if_pos (by omega), if_pos (by omega : (0 : Int) ≤ i), if_pos (by omega : (0 : Int) ≤ i), wrap64_in (by omega), succ_cast, beq_dec, beq_dec]
    have key := fun o t h1 h2 => ih (i + 1) k o t (by omega) (by omega) h1 h2
    cases one with
    | true =>
      cases two with
      | true => exact key true true (by simpa using e1) (by simpa using e2)
      | false => exact key true _ (by simpa using e1) (by simpa using e2)
    | false =>
      cases two with
      | true => exact key _ true (by simpa using e1) (by simpa using e2)
      | false => exact key _ _ (by simpa using e1) (by simpa using e2)
theorem rhears_eq (l : List S44) (m : List S71) (kind a b r u : Int) (hl : l.length ≤ 100) (hm : m.length ≤ 100) (hr : In64 r) (hin : ∀ p ∈ l, In42 p.f1) {k : Nat} (hk : 200 < k) :
    barrowref38_hears.f k l m kind a b r u = some (hearsv l m kind a b r u) := by
  unfold barrowref38_hears.f
  rw [rplace_eq l a hl (by omega), rplace_eq l u hl (by omega), rgroup_eq m a hm (by omega), rgroup_eq m u hm (by omega), placev_D, placev_D]
  simp only [Option.bind_some]
  exact rhears_l0 l m kind a b r u hm hr hin m.length 0 k false false (by omega) (by omega) (by simp) (by simp)
theorem ins_skip {x : Int} : ∀ (a b : List Int), (∀ y ∈ a, y < x) → ins x (a ++ b) = a ++ ins x b
  | [], b, _ => rfl
  | y :: a, b, h => by
    have := h y (by simp)
    rw [List.cons_append, ins, if_neg (by omega), if_neg (by omega), ins_skip a b (fun z hz => h z (List.mem_cons_of_mem _ hz))]
    rfl
theorem ins_canonv (x : Int) (l : List Int) : ins x (canonv l) = canonv (x :: l) := rfl
theorem canonv_snoc (l : List Int) (x : Int) : ins x (canonv l) = canonv (l ++ [x]) := by
  rw [ins_canonv]; exact canonv_ext fun z => by simp [or_comm]
theorem rhear_l1 (l : List S44) (m : List S71) (t : List S46) (kind a b r : Int) (there : Bool) (out : List Int) (hl : l.length ≤ 100) (ho : out.length ≤ 1000) (i : Nat) (hi : i < l.length) :
    ∀ (n j k : Nat), j + n = out.length → n < k → (∀ y ∈ out.take j, y < (rd_T44 l i).f0) →
    ∃ k', k ≤ k' + n + 1 ∧ barrowref38_Hear.l1 k l m t kind a b r there out i j = barrowref38_Hear.l0 k' l m t kind a b r there (ins (rd_T44 l i).f0 out) (i + 1 : Nat) := by
  intro n
  induction n with
  | zero =>
    intro j k hj hk h
    obtain ⟨k, rfl⟩ : ∃ q, k = q + 1 := ⟨k - 1, by omega⟩
    refine ⟨k, by omega, ?_⟩
    have he : ins (rd_T44 l i).f0 out = out ++ [(rd_T44 l i).f0] := by
      conv => lhs; rw [← List.append_nil out]
      rw [ins_skip _ _ (by rw [List.take_of_length_le (by omega)] at h; exact h)]; rfl
    rw [barrowref38_Hear.l1, if_neg (by omega), if_pos (by omega : (j : Int) = (out.length : Int))]
    simp only [Option.bind_some, List.nil_append, List.length_nil]
    rw [if_pos (by omega), if_pos (by omega), if_pos (by simp; omega), if_pos (by simp; omega), if_pos (by simp; omega), wrap64_in (by omega), succ_cast, Int.toNat_natCast, List.take_of_length_le (by omega), List.drop_of_length_le (by omega), List.append_nil, he]
  | succ n ih =>
    intro j k hj hk h
    obtain ⟨k, rfl⟩ : ∃ q, k = q + 1 := ⟨k - 1, by omega⟩
    have hd := rd_drop (l := out) (i := j) (by omega)
    have ht : out.take (j + 1) = out.take j ++ [rd out j] := by
      rw [List.take_add_one, ← List.head?_drop, hd]; rfl
    have hs : out = out.take j ++ (rd out j :: out.drop (j + 1)) := by rw [← hd, List.take_append_drop]
    rw [barrowref38_Hear.l1, if_pos (by omega), if_pos (by omega)]
    by_cases c : rd out j < (rd_T44 l i).f0
    · rw [if_pos c, wrap64_in (by omega), succ_cast]
      obtain ⟨k', h1, h2⟩ := ih (j + 1) k (by omega) (by omega) (fun y hy => by
        rw [ht] at hy
        rcases List.mem_append.1 hy with q | q
        · exact h y q
        · simp at q; omega)
      exact ⟨k', by omega, h2⟩
    · rw [if_neg c, if_neg (by omega : ¬ ((j : Int) = (out.length : Int)))]
      refine ⟨k, by omega, ?_⟩
      have hi1 : ins (rd_T44 l i).f0 out = out.take j ++ ins (rd_T44 l i).f0 (rd out j :: out.drop (j + 1)) := by
        conv => lhs; rw [hs]
        exact ins_skip _ _ h
      by_cases e : rd out j = (rd_T44 l i).f0
      · rw [if_pos e, wrap64_in (by omega), succ_cast]
        have : ins (rd_T44 l i).f0 out = out := by
          rw [hi1, ins, if_neg (by omega), if_pos e.symm, ← hs]
        rw [this]
      · rw [if_neg e]
        simp only [Option.bind_some, List.nil_append, List.length_nil]
        rw [if_pos (by omega), if_pos (by simp; omega), if_pos (by simp; omega), if_pos (by simp; omega), wrap64_in (by omega), succ_cast, Int.toNat_natCast]
        have : ins (rd_T44 l i).f0 out = out.take j ++ [(rd_T44 l i).f0] ++ out.drop j := by
          rw [hi1, ins, if_pos (by omega), hd]; simp
        rw [this]
theorem rhear_l0 (l : List S44) (m : List S71) (t : List S46) (kind a b r : Int) (hl : l.length ≤ 100) (hm : m.length ≤ 100) (ht : t.length ≤ 100) (hr : In64 r) (hin : ∀ p ∈ l, In42 p.f1) :
    ∀ (n i k : Nat) (A : List Int), i + n = l.length → 1000 + 200 * n < k → A.length ≤ i →
    barrowref38_Hear.l0 k l m t kind a b r true (canonv A) i = some (canonv (A ++ ((l.drop i).map (·.f0)).filter (hv l m t kind a b r))) := by
  intro n
  induction n with
  | zero =>
    intro i k A hi hk hA
    obtain ⟨k, rfl⟩ : ∃ q, k = q + 1 := ⟨k - 1, by omega⟩
    rw [barrowref38_Hear.l0, if_neg (by omega), List.drop_of_length_le (by omega)]
    simp
  | succ n ih =>
    intro i k A hi hk hA
    obtain ⟨k, rfl⟩ : ∃ q, k = q + 1 := ⟨k - 1, by omega⟩
    have hlen := canonv_len A
    rw [barrowref38_Hear.l0, if_pos (by omega), if_pos rfl, if_pos (by omega), rhears_eq l m kind a b r _ hl hm hr hin (by omega), Option.bind_some, rmutes_eq t _ a ht (by omega), Option.bind_some, wrap64_in (by omega), succ_cast, rd44_drop (l := l) (by omega), List.map_cons]
    have hc : hv l m t kind a b r (rd_T44 l i).f0 = (hearsv l m kind a b r (rd_T44 l i).f0 && (decide ((rd_T44 l i).f0 = a) || !muted t (rd_T44 l i).f0 a)) := rfl
    have no : hv l m t kind a b r (rd_T44 l i).f0 = false → barrowref38_Hear.l0 k l m t kind a b r true (canonv A) (i + 1 : Nat) = some (canonv (A ++ ((rd_T44 l i).f0 :: (l.drop (i + 1)).map (·.f0)).filter (hv l m t kind a b r))) := by
      intro c
      rw [ih (i + 1) k A (by omega) (by omega) (by omega), List.filter_cons_of_neg (by rw [c]; simp)]
    have yes : hv l m t kind a b r (rd_T44 l i).f0 = true → barrowref38_Hear.l1 k l m t kind a b r true (canonv A) i 0 = some (canonv (A ++ ((rd_T44 l i).f0 :: (l.drop (i + 1)).map (·.f0)).filter (hv l m t kind a b r))) := by
      intro c
      obtain ⟨k', h1, h2⟩ := rhear_l1 l m t kind a b r true (canonv A) hl (by omega) i (by omega) (canonv A).length 0 k (by omega) (by omega) (by simp)
      refine Eq.trans h2 ?_
      rw [canonv_snoc, ih (i + 1) k' _ (by omega) (by omega) (by simp; omega), List.filter_cons_of_pos c]
      simp
    by_cases c1 : hearsv l m kind a b r (rd_T44 l i).f0 = true
    · rw [if_pos c1]
      by_cases c2 : (rd_T44 l i).f0 = a
      · rw [if_pos c2]; exact yes (by rw [hc, c1, decide_eq_true c2]; rfl)
      · rw [if_neg c2]
        by_cases c3 : muted t (rd_T44 l i).f0 a = true
        · rw [if_pos c3]; exact no (by rw [hc, c1, c3, decide_eq_false c2]; rfl)
        · rw [if_neg c3]; exact yes (by rw [hc, c1, decide_eq_false c2]; simpa using c3)
    · rw [if_neg c1]; exact no (by rw [hc]; simp [c1])
theorem rhear_eq (l : List S44) (m : List S71) (t : List S46) (kind a b r : Int) (hl : l.length ≤ 100) (hm : m.length ≤ 100) (ht : t.length ≤ 100) (hr : In64 r) (hin : ∀ p ∈ l, In42 p.f1) {k : Nat} (hk : 30000 < k) :
    barrowref38_Hear.f k l m t kind a b r = some (hearv l m t kind a b r) := by
  unfold barrowref38_Hear.f hearv
  rw [rplace_eq l a hl (by omega), placev_D]
  simp only [Option.bind_some]
  by_cases c : a ∈ l.map (·.f0)
  · rw [if_pos c, placeOf_some.2 c]
    have := rhear_l0 l m t kind a b r hl hm ht hr hin l.length 0 k [] (by omega) (by omega) (by simp)
    rw [List.drop_zero, List.nil_append] at this
    exact this
  · rw [if_neg c]
    have hn : (placeOf l a).isSome = false := by
      cases h : (placeOf l a).isSome with
      | false => rfl
      | true => exact absurd (placeOf_some.1 h) c
    rw [hn]
    obtain ⟨k, rfl⟩ : ∃ q, k = q + 1 := ⟨k - 1, by omega⟩
    rw [barrowref38_Hear.l0]
    simp
end Go.Proofs.Ytdpeflbdoaccbaa.Pure
namespace Go.Proofs.Ytdpeflbdoaccbaa.Pure
open Go.RowKit Go.Proofs.Ytdpeflbdoaccbaa.XCH Go.Proofs.YtdpeflbdoaccbaaW.PrintWords Go.Proofs.YtdpeflbdoaccbaaW.PrintLast Go.Proofs.YtdpeflbdoaccbaaS
def at3 : List S44 := [⟨3, ⟨1, 0⟩⟩, ⟨1, ⟨0, 0⟩⟩, ⟨2, ⟨9, 0⟩⟩]
theorem small_ev : Ev (fun k => barrowlaw38_small.f k = some true) := by
  have hin : ∀ p ∈ at3, In42 p.f1 := by
    intro p hp
    simp [at3] at hp
    rcases hp with rfl | rfl | rfl <;> exact ⟨⟨by decide, by decide⟩, ⟨by decide, by decide⟩⟩
  have c1 : Ev (fun k => chat_Clean.f k (⟨#[66, 97, 100, 32, 98, 97, 100, 103, 101, 114]⟩ : ByteArray) [⟨#[98, 97, 100]⟩, ⟨#[98, 97, 100, 103, 101]⟩] = some ⟨#[42, 42, 42, 32, 42, 42, 42, 42, 42, 114]⟩) := Ev.of (fun k => chat_Clean.mono _ _ k) (K := 100) (by decide +kernel)
  have c2 : Ev (fun k => chat_Cut.f k (⟨#[97, 98, 32, 99, 100, 32, 101, 102]⟩ : ByteArray) 5 = some [⟨#[97, 98, 32]⟩, ⟨#[99, 100, 32, 101, 102]⟩]) := Ev.of (fun k => chat_Cut.mono _ _ k) (K := 100) (by decide +kernel)
  have c3 : Ev (fun k => chat_Words.f k (⟨#[65, 98, 45, 99, 44, 32, 68]⟩ : ByteArray) = some [⟨#[97, 98]⟩, ⟨#[99]⟩, ⟨#[100]⟩]) := Ev.of (fun k => chat_Words.mono _ k) (K := 100) (by decide +kernel)
  have c4 : Ev (fun k => barrowref37_SameTexts.f k [⟨#[97, 98, 32]⟩, ⟨#[99, 100, 32, 101, 102]⟩] [⟨#[97, 98, 32]⟩, ⟨#[99, 100, 32, 101, 102]⟩] = some true) := Ev.of (fun k => barrowref37_SameTexts.mono _ _ k) (K := 100) (by decide +kernel)
  have c5 : Ev (fun k => barrowref37_SameTexts.f k [⟨#[97, 98]⟩, ⟨#[99]⟩, ⟨#[100]⟩] [⟨#[97, 98]⟩, ⟨#[99]⟩, ⟨#[100]⟩] = some true) := Ev.of (fun k => barrowref37_SameTexts.mono _ _ k) (K := 100) (by decide +kernel)
  have c6 : Ev (fun k => chat_Right.f k (⟨#[97, 126]⟩ : ByteArray) = some true) := Ev.of (fun k => chat_Right.mono _ k) (K := 100) (by decide +kernel)
  have c7 : Ev (fun k => chat_Right.f k (⟨#[10]⟩ : ByteArray) = some false) := Ev.of (fun k => chat_Right.mono _ k) (K := 100) (by decide +kernel)
  refine ((((((((Ev.ge 1000).and c1).and c2).and c3).and c4).and c5).and c6).and c7).imp ?_
  rintro k ⟨⟨⟨⟨⟨⟨⟨hk, e1⟩, e2⟩, e3⟩, e4⟩, e5⟩, e6⟩, e7⟩
  have h1 := hear_eq at3 [] [⟨3, 2⟩] 1 1 0 4 (by decide) (by decide) (by decide) (by constructor <;> decide) hin (k := k) (by omega)
  have h2 := hear_eq at3 [] [⟨3, 1⟩] 4 1 3 0 (by decide) (by decide) (by decide) (by constructor <;> decide) hin (k := k) (by omega)
  have v1 : hearv at3 [] [⟨3, 2⟩] 1 1 0 4 = [1, 3] := by decide +kernel
  have v2 : hearv at3 [] [⟨3, 1⟩] 4 1 3 0 = [1] := by decide +kernel
  rw [v1] at h1
  rw [v2] at h2
  unfold at3 at h1 h2
  have l1 : (⟨#[42, 42, 42, 32, 42, 42, 42, 42, 42, 114]⟩ : ByteArray).toList = ([42, 42, 42, 32, 42, 42, 42, 42, 42, 114] : List UInt8) := by rw [ByteArray.toList_eq]
  unfold barrowlaw38_small.f
  simp only [Option.bind_some, e1, l1, if_true, e2, e3, e4, e5, h1, h2, same_eq [1, 3] [1, 3] (by decide) (k := k) (by simp; omega), same_eq [1] [1] (by decide) (k := k) (by simp; omega), decide_true, e6, e7]
  simp
end Go.Proofs.Ytdpeflbdoaccbaa.Pure
namespace Go.Proofs.Ytdpeflbdoaccbaa.Pure
open Go.RowKit Go.Proofs.Ytdpeflbdoaccbaa.XCH Go.Proofs.YtdpeflbdoaccbaaW.PrintWords Go.Proofs.YtdpeflbdoaccbaaW.PrintLast Go.Proofs.YtdpeflbdoaccbaaS
theorem nil_size (s : ByteArray) : s.toList = ([] : List UInt8) ↔ s.size = 0 := by
  rw [ByteArray.toList_eq]
  constructor
  · intro h
    have := congrArg List.length h
    simpa using this
  · intro h
    exact List.eq_nil_of_length_eq_zero (by simpa using h)
theorem right_same (s : ByteArray) : ∀ (k : Nat) (i : Int), chat_Right.l0 k s s.size i = barrowref38_Right.l0 k s i := by
  intro k
  induction k with
  | zero => intro i; rfl
  | succ k ih =>
    intro i
    rw [chat_Right.l0, barrowref38_Right.l0, ih]
    by_cases c : i < (s.size : Int)
    · rw [if_pos c, if_pos c, if_pos c]
    · rw [if_neg c, if_neg c]
      by_cases e : s.size = 0
      · rw [if_pos ((nil_size s).2 e), if_neg (by omega)]
      · rw [if_neg (fun h => e ((nil_size s).1 h)), if_pos (by omega)]
theorem right_tot (s : ByteArray) (hs : s.size ≤ 2000) : ∀ (n i k : Nat), i + n = s.size → n < k → ∃ v, barrowref38_Right.l0 k s i = some v := by
  intro n
  induction n with
  | zero =>
    intro i k hi hk
    obtain ⟨k, rfl⟩ : ∃ q, k = q + 1 := ⟨k - 1, by omega⟩
    rw [barrowref38_Right.l0, if_neg (by omega)]
    split <;> exact ⟨_, rfl⟩
  | succ n ih =>
    intro i k hi hk
    obtain ⟨k, rfl⟩ : ∃ q, k = q + 1 := ⟨k - 1, by omega⟩
    rw [barrowref38_Right.l0, if_pos (by omega), if_pos (by omega), wrap64_in (by omega), succ_cast]
    split
    · exact ⟨_, rfl⟩
    · split
      · exact ⟨_, rfl⟩
      · exact ih (i + 1) k (by omega) (by omega)
theorem right_eq (s : ByteArray) (hs : s.size ≤ 2000) {k : Nat} (hk : 2000 < k) : ∃ v, chat_Right.f k s = some v ∧ barrowref38_Right.f k s = some v := by
  obtain ⟨v, h⟩ := right_tot s hs s.size 0 k (by omega) (by omega)
  exact ⟨v, (right_same s k 0).trans h, h⟩
theorem bt_extract (s : ByteArray) (a b j : Nat) (h : a + j < b) (hb : b ≤ s.size) : bt (s.extract a b) (j : Int) = bt s ((a + j : Nat) : Int) := by
  unfold bt
  rw [dif_pos (by rw [ByteArray.size_extract]; omega), dif_pos (by omega)]
  simp only [Int.toNat_natCast, ByteArray.getElem_extract]
/-- Behind the last space ahead of a place; 0: there is none. -/
def sc (s : ByteArray) : Nat → Nat
  | 0 => 0
  | n + 1 => if bt s (n : Int) = 32 then n + 1 else sc s n
theorem sc_le (s : ByteArray) : ∀ n, sc s n ≤ n
  | 0 => Nat.le_refl _
  | n + 1 => by
    have := sc_le s n
    unfold sc; split <;> omega
theorem sc_extract (s : ByteArray) (m : Nat) (hm : m ≤ s.size) : ∀ n, n ≤ m → sc (s.extract 0 m) n = sc s n
  | 0, _ => rfl
  | n + 1, h => by
    have := bt_extract s 0 m n (by omega) hm
    rw [Nat.zero_add] at this
    unfold sc
    rw [this, sc_extract s m hm n (by omega)]
theorem last_l0 (t : ByteArray) (ht : t.size ≤ 2000) : ∀ (n k : Nat), n ≤ t.size → n < k → bytealg_LastIndexByteString.l0 k t 32 ((n : Int) - 1) = some ((sc t n : Int) - 1) := by
  intro n
  induction n with
  | zero =>
    intro k _ hk
    obtain ⟨k, rfl⟩ : ∃ q, k = q + 1 := ⟨k - 1, by omega⟩
    rw [bytealg_LastIndexByteString.l0, if_neg (by omega)]
    rfl
  | succ n ih =>
    intro k hn hk
    obtain ⟨k, rfl⟩ : ∃ q, k = q + 1 := ⟨k - 1, by omega⟩
    rw [show ((n + 1 : Nat) : Int) - 1 = (n : Int) by omega, bytealg_LastIndexByteString.l0, if_pos (by omega), if_pos (by omega), if_pos (by omega), sc]
    by_cases c : bt t (n : Int) = 32
    · rw [if_pos c, if_pos c]; congr 1; omega
    · rw [if_neg c, if_neg c, wrap64_in (by omega)]
      exact ih k (by omega) (by omega)
/-- How long the first piece is. -/
def pn (s : ByteArray) (most : Nat) : Nat := if s.size ≤ most then s.size else if sc s most = 0 then most else sc s most
theorem pn_le (s : ByteArray) (most : Nat) : pn s most ≤ s.size := by
  have := sc_le s most
  unfold pn
  (repeat' split) <;> omega
theorem pn_pos (s : ByteArray) (most : Nat) (h : 1 ≤ most) (hs : 1 ≤ s.size) : 1 ≤ pn s most := by
  unfold pn
  (repeat' split) <;> omega
theorem piece_eq (s : ByteArray) (most : Nat) (hs : s.size ≤ 2000) {k : Nat} (hk : 2001 < k) : chat_piece.f k s (most : Int) = some (pn s most : Int) := by
  unfold chat_piece.f pn
  by_cases c : s.size ≤ most
  · rw [if_pos (by omega), if_pos c]
  · rw [if_neg (by omega), if_neg c, if_pos (by omega), if_pos (by omega), Int.toNat_natCast]
    unfold strings_LastIndexByte.f bytealg_LastIndexByteString.f
    have hsz : (s.extract 0 most).size = most := by rw [ByteArray.size_extract]; omega
    have hsc := sc_le s most
    rw [hsz, wrap64_in (by omega), last_l0 _ (by omega) most k (by omega) (by omega), sc_extract s most (by omega) most (by omega)]
    simp only [Option.bind_some]
    by_cases e : sc s most = 0
    · rw [if_neg (by omega), if_pos e]
    · rw [if_pos (by omega), if_neg e, wrap64_in (by omega)]; congr 1; omega
theorem rcut_l1 (s : ByteArray) (most : Nat) (hs : s.size ≤ 2000) (hm : 1 ≤ most ∧ most < s.size) (out : List ByteArray) (ho : out.length ≤ 5000) :
    ∀ (n k : Nat), n ≤ most → n < k → ∃ k', k ≤ k' + n + 1 ∧
    barrowref38_Cut.l1 k s most out n = barrowref38_Cut.l0 k' (s.extract (if sc s n = 0 then most else sc s n) s.size) most (out ++ [s.extract 0 (if sc s n = 0 then most else sc s n)]) := by
  intro n
  induction n with
  | zero =>
    intro k _ hk
    obtain ⟨k, rfl⟩ : ∃ q, k = q + 1 := ⟨k - 1, by omega⟩
    refine ⟨k, by omega, ?_⟩
    rw [barrowref38_Cut.l1, if_neg (by omega), if_pos (by omega : ((0 : Nat) : Int) = 0), if_pos (by omega), if_pos (by omega), if_pos (by omega), if_pos (show sc s 0 = 0 from rfl), Int.toNat_natCast]
  | succ n ih =>
    intro k hn hk
    obtain ⟨k, rfl⟩ : ∃ q, k = q + 1 := ⟨k - 1, by omega⟩
    have e0 : wrap64 (((n + 1 : Nat) : Int) - 1) = (n : Int) := by rw [wrap64_in (by omega)]; omega
    rw [barrowref38_Cut.l1, if_pos (by omega), e0, if_pos (by omega), if_pos (by omega)]
    by_cases c : bt s (n : Int) = 32
    · refine ⟨k, by omega, ?_⟩
      have : sc s (n + 1) = n + 1 := by rw [sc, if_pos c]
      rw [this, if_pos c, if_neg (by omega), if_pos (by omega), if_pos (by omega), if_pos (by omega), if_neg (by omega), Int.toNat_natCast]
    · rw [if_neg c]
      have : sc s (n + 1) = sc s n := by rw [sc, if_neg c]
      rw [this]
      obtain ⟨k', h1, h2⟩ := ih k (by omega) (by omega)
      exact ⟨k', by omega, h2⟩
theorem cut_same (most : Nat) (hm : 1 ≤ most) : ∀ (N : Nat) (s : ByteArray) (out : List ByteArray), s.size ≤ N → N ≤ 2000 → out.length + N ≤ 4000 →
    ∃ v : List ByteArray, v.length ≤ 4000 ∧ ∀ k, 3000 * N + 2500 < k → chat_Cut.l0 k s most out = some v ∧ barrowref38_Cut.l0 k s most out = some v := by
  intro N
  induction N with
  | zero =>
    intro s out hs _ ho
    refine ⟨out, by omega, fun k hk => ?_⟩
    obtain ⟨k, rfl⟩ : ∃ q, k = q + 2 := ⟨k - 2, by omega⟩
    rw [chat_Cut.l0, barrowref38_Cut.l0, if_pos ((nil_size s).2 (by omega)), if_neg (by omega), barrowref38_Cut.j1, if_neg (by simp)]
    exact ⟨rfl, rfl⟩
  | succ N ih =>
    intro s out hs hN ho
    by_cases e : s.size = 0
    · refine ⟨out, by omega, fun k hk => ?_⟩
      obtain ⟨k, rfl⟩ : ∃ q, k = q + 2 := ⟨k - 2, by omega⟩
      rw [chat_Cut.l0, barrowref38_Cut.l0, if_pos ((nil_size s).2 e), if_neg (by omega), barrowref38_Cut.j1, if_neg (by simp)]
      exact ⟨rfl, rfl⟩
    · have hp := pn_pos s most hm (by omega)
      have hp2 := pn_le s most
      obtain ⟨v, hv, h⟩ := ih (s.extract (pn s most) s.size) (out ++ [s.extract 0 (pn s most)]) (by rw [ByteArray.size_extract]; omega) (by omega) (by simp; omega)
      refine ⟨v, hv, fun k hk => ?_⟩
      obtain ⟨k, rfl⟩ : ∃ q, k = q + 2 := ⟨k - 2, by omega⟩
      constructor
      · rw [chat_Cut.l0, if_neg (fun h => e ((nil_size s).1 h)), if_pos (by omega), piece_eq s most (by omega) (by omega), Option.bind_some, if_pos (by omega), if_pos (by omega), if_pos (by omega), Int.toNat_natCast]
        exact (h (k + 1) (by omega)).1
      · rw [barrowref38_Cut.l0, if_pos (by omega), barrowref38_Cut.j1, if_pos (by rw [decide_eq_true_eq]; omega)]
        by_cases c : s.size ≤ most
        · have hpn : pn s most = s.size := by unfold pn; rw [if_pos c]
          rw [if_neg (by omega), if_pos (by omega), if_pos (by omega), if_pos (by omega), Int.toNat_natCast]
          have := (h k (by omega)).2
          rw [hpn] at this
          exact this
        · have hpn : pn s most = if sc s most = 0 then most else sc s most := by unfold pn; rw [if_neg c]
          rw [if_pos (by omega)]
          obtain ⟨k', h1, h2⟩ := rcut_l1 s most (by omega) ⟨hm, by omega⟩ out (by omega) most k (by omega) (by omega)
          rw [← hpn] at h2
          exact h2.trans (h k' (by omega)).2
theorem cut_eq (s : ByteArray) (most : Int) (hs : s.size ≤ 2000) {k : Nat} (hk : 7000000 < k) : ∃ v : List ByteArray, v.length ≤ 4000 ∧ chat_Cut.f k s most = some v ∧ barrowref38_Cut.f k s most = some v := by
  unfold chat_Cut.f barrowref38_Cut.f
  by_cases c : most ≥ 1
  · obtain ⟨m, rfl⟩ : ∃ m : Nat, most = m := ⟨most.toNat, by omega⟩
    obtain ⟨v, hv, h⟩ := cut_same m (by omega) s.size s [] (Nat.le_refl _) hs (by simp; omega)
    exact ⟨v, hv, h k (by omega)⟩
  · obtain ⟨k, rfl⟩ : ∃ q, k = q + 2 := ⟨k - 2, by omega⟩
    refine ⟨[], by simp, ?_, ?_⟩
    · rw [chat_Cut.l0, if_neg c]; simp
    · rw [barrowref38_Cut.l0, decide_eq_false c]
      split <;> rw [barrowref38_Cut.j1, if_neg (by simp)]
theorem same_texts (l : List ByteArray) (hb : l.length ≤ 100000) : ∀ (n i k : Nat), i + n = l.length → n < k → barrowref37_SameTexts.l0 k l l i = some true := by
  intro n
  induction n with
  | zero =>
    intro i k hi hk
    obtain ⟨k, rfl⟩ : ∃ q, k = q + 1 := ⟨k - 1, by omega⟩
    rw [barrowref37_SameTexts.l0, if_neg (by omega)]
  | succ n ih =>
    intro i k hi hk
    obtain ⟨k, rfl⟩ : ∃ q, k = q + 1 := ⟨k - 1, by omega⟩
    rw [barrowref37_SameTexts.l0, if_pos (by omega), if_pos (by omega), if_pos (by omega), if_pos rfl, wrap64_in (by omega), succ_cast]
    exact ih (i + 1) k (by omega) (by omega)
theorem texts_eq (l : List ByteArray) (hb : l.length ≤ 100000) {k : Nat} (hk : l.length < k) : barrowref37_SameTexts.f k l l = some true := by
  unfold barrowref37_SameTexts.f
  rw [if_pos rfl]
  exact same_texts l hb l.length 0 k (by omega) (by omega)
end Go.Proofs.Ytdpeflbdoaccbaa.Pure
namespace Go.Proofs.Ytdpeflbdoaccbaa.Pure
open Go.RowKit Go.Proofs.Ytdpeflbdoaccbaa.XCH Go.Proofs.YtdpeflbdoaccbaaW.PrintWords Go.Proofs.YtdpeflbdoaccbaaW.PrintLast Go.Proofs.YtdpeflbdoaccbaaS
/-- A letter, small. -/
def lw (b : Int) : Int := if 65 ≤ b ∧ b ≤ 90 then (b + 32) % 256 else b
theorem lower_eq (b : Int) : chat_lower.f b = some (lw b) := by
  unfold chat_lower.f lw
  by_cases h1 : 65 ≤ b <;> by_cases h2 : b ≤ 90 <;> simp [h1, h2]
theorem rlower_eq (b : Int) : barrowref38_lower.f b = some (lw b) := by
  unfold barrowref38_lower.f lw
  by_cases h1 : 65 ≤ b <;> by_cases h2 : b ≤ 90 <;> simp [h1, h2]
theorem rd_map (l : List Int) (i : Nat) (h : i < l.length) : rd (l.map lw) i = lw (rd l i) := by
  unfold rd
  rw [Int.toNat_natCast, List.getD_eq_getElem?_getD, List.getD_eq_getElem?_getD, List.getElem?_eq_getElem h, List.getElem?_eq_getElem (by simpa using h)]
  simp
theorem bytes_len (s : ByteArray) : (bytesOf s).length = s.size := by
  unfold bytesOf; rw [List.length_map]; exact data_length s
theorem bytes_rd (s : ByteArray) (i : Nat) (h : i < s.size) : rd (bytesOf s) i = bt s (i : Int) := by
  unfold rd bytesOf bt
  rw [Int.toNat_natCast, dif_pos h, List.getD_eq_getElem?_getD, List.getElem?_eq_getElem (by rw [List.length_map]; exact (data_length s).symm ▸ h)]
  simp
  rfl
theorem rd_append_right (a b : List Int) (i : Nat) (h : i = a.length) (hb : b ≠ []) : rd (a ++ b) i = b.headD 0 := by
  subst h
  unfold rd
  rw [Int.toNat_natCast, List.getD_eq_getElem?_getD, List.getElem?_append_right (Nat.le_refl _), Nat.sub_self]
  cases b with
  | nil => exact absurd rfl hb
  | cons x b => rfl
theorem lowered_l0 (L : List Int) (hL : L.length ≤ 5000) : ∀ (n i k : Nat), i + n = L.length → n < k →
    chat_lowered.l0 k L i ((L.take i).map lw ++ L.drop i) = some (L.map lw) := by
  intro n
  induction n with
  | zero =>
    intro i k hi hk
    obtain ⟨k, rfl⟩ : ∃ q, k = q + 1 := ⟨k - 1, by omega⟩
    rw [chat_lowered.l0, if_neg (by omega), List.take_of_length_le (by omega), List.drop_of_length_le (by omega), List.append_nil]
  | succ n ih =>
    intro i k hi hk
    obtain ⟨k, rfl⟩ : ∃ q, k = q + 1 := ⟨k - 1, by omega⟩
    have hlen : ((L.take i).map lw).length = i := by rw [List.length_map, List.length_take]; omega
    have hd := rd_drop (l := L) (i := i) (by omega)
    have ht : L.take (i + 1) = L.take i ++ [rd L i] := by
      rw [List.take_add_one, ← List.head?_drop, hd]; rfl
    have hrd : rd ((L.take i).map lw ++ L.drop i) i = rd L i := by
      rw [rd_append_right _ _ i hlen.symm (by rw [hd]; simp), hd]; rfl
    have hset : ((L.take i).map lw ++ L.drop i).set i (lw (rd L i)) = (L.take (i + 1)).map lw ++ L.drop (i + 1) := by
      rw [List.set_append_right _ _ (by omega), hlen, Nat.sub_self, hd, List.set_cons_zero, ht]; simp
    rw [chat_lowered.l0, if_pos (by omega), if_pos (by omega), hrd, lower_eq, Option.bind_some, Option.bind_some, Int.toNat_natCast, hset, wrap64_in (by omega), succ_cast]
    exact ih (i + 1) k (by omega) (by omega)
theorem lowered_eq (s : ByteArray) (hs : s.size ≤ 5000) {k : Nat} (hk : 5000 < k) : chat_lowered.f k s = some ((bytesOf s).map lw) := by
  have := bytes_len s
  have h := lowered_l0 (bytesOf s) (by omega) (bytesOf s).length 0 k (by omega) (by omega)
  unfold chat_lowered.f
  rw [List.take_zero, List.map_nil, List.nil_append, List.drop_zero] at h
  rw [if_pos (by omega), Option.bind_some]
  exact h
theorem str_size (l : List Int) : (strOfNums l).size = l.length := by
  unfold strOfNums
  simp [ByteArray.size]
theorem str_append (a b : List Int) : strOfNums a ++ strOfNums b = strOfNums (a ++ b) := by
  apply ByteArray.ext
  rw [ByteArray.data_append]
  unfold strOfNums
  simp
theorem str_nil : (⟨#[]⟩ : ByteArray) = strOfNums [] := rfl
theorem letter_eq (b : Int) : chat_letter.f b = some (decide (97 ≤ b ∧ b ≤ 122)) := by
  unfold chat_letter.f
  by_cases h1 : 97 ≤ b <;> simp [h1]
/-- What stands between two places. -/
def seg (L : List Int) (a b : Nat) : List Int := (L.drop a).take (b - a)
theorem seg_len (L : List Int) (a b : Nat) (h : a ≤ b) (hb : b ≤ L.length) : (seg L a b).length = b - a := by
  unfold seg; rw [List.length_take, List.length_drop]; omega
theorem seg_succ (L : List Int) (a b : Nat) (h : a ≤ b) (hb : b < L.length) : seg L a (b + 1) = seg L a b ++ [rd L b] := by
  unfold seg
  rw [show b + 1 - a = (b - a) + 1 by omega, List.take_add_one, List.getElem?_drop, show a + (b - a) = b by omega, List.getElem?_eq_getElem hb]
  unfold rd
  rw [Int.toNat_natCast, List.getD_eq_getElem?_getD, List.getElem?_eq_getElem hb]
  rfl
theorem seg_self (L : List Int) (a : Nat) : seg L a a = [] := by unfold seg; simp
theorem words_same (s : ByteArray) (hs : s.size ≤ 2000) : ∀ (n i a : Nat) (out : List ByteArray), i + n = s.size + 1 → a ≤ i → i ≤ s.size + 1 → (i ≤ s.size ∨ a = i) → out.length ≤ i →
    ∃ v : List ByteArray, v.length ≤ 4000 ∧ ∀ k, 3 * n + 10 < k → chat_Words.l0 k ((bytesOf s).map lw) out a i = some v ∧ barrowref38_Words.l0 k s out (strOfNums (seg ((bytesOf s).map lw) a i)) i = some v := by
  have hL : ((bytesOf s).map lw).length = s.size := by rw [List.length_map, bytes_len]
  intro n
  induction n with
  | zero =>
    intro i a out hi ha _ _ ho
    refine ⟨out, by omega, fun k hk => ?_⟩
    obtain ⟨k, rfl⟩ : ∃ q, k = q + 1 := ⟨k - 1, by omega⟩
    rw [chat_Words.l0, barrowref38_Words.l0, hL, wrap64_in (by omega), if_neg (by omega), if_neg (by omega)]
    exact ⟨rfl, rfl⟩
  | succ n ih =>
    intro i a out hi ha _ _ ho
    have hi2 : i ≤ s.size := by omega
    have hz := seg_len ((bytesOf s).map lw) a i ha (by omega)
    -- what comes where a word ends
    have fin : ∃ v : List ByteArray, v.length ≤ 4000 ∧ ∀ k, 3 * n + 10 < k →
        (if (i : Int) > a then chat_Words.l0 k ((bytesOf s).map lw) (out ++ [strOfNums (seg ((bytesOf s).map lw) a i)]) (i + 1 : Nat) (i + 1 : Nat) else chat_Words.l0 k ((bytesOf s).map lw) out (i + 1 : Nat) (i + 1 : Nat)) = some v ∧
        barrowref38_Words.j1 (k + 1) s out (strOfNums (seg ((bytesOf s).map lw) a i)) i false = some v := by
      by_cases c : a < i
      · obtain ⟨v, hv, h⟩ := ih (i + 1) (i + 1) (out ++ [strOfNums (seg ((bytesOf s).map lw) a i)]) (by omega) (by omega) (by omega) (.inr rfl) (by simp; omega)
        refine ⟨v, hv, fun k hk => ?_⟩
        obtain ⟨h1, h2⟩ := h k hk
        rw [seg_self, ← str_nil] at h2
        rw [if_pos (by omega), barrowref38_Words.j1, if_neg (by simp), if_neg (fun q => by rw [nil_size, str_size, hz] at q; omega), if_pos (by omega), wrap64_in (by omega), succ_cast]
        exact ⟨h1, h2⟩
      · have hai : a = i := by omega
        obtain ⟨v, hv, h⟩ := ih (i + 1) (i + 1) out (by omega) (by omega) (by omega) (.inr rfl) (by omega)
        refine ⟨v, hv, fun k hk => ?_⟩
        obtain ⟨h1, h2⟩ := h k hk
        rw [seg_self, ← str_nil] at h2
        rw [if_neg (by omega), barrowref38_Words.j1, if_neg (by simp), if_pos ((nil_size _).2 (by rw [str_size, hz]; omega)), wrap64_in (by omega), succ_cast]
        exact ⟨h1, h2⟩
    have e1 : (((bytesOf s).map lw).length : Int) = (s.size : Int) := by rw [hL]
    have cseg : ((((bytesOf s).map lw).drop ((a : Int)).toNat).take (((i : Int)).toNat - ((a : Int)).toNat)) = seg ((bytesOf s).map lw) a i := rfl
    have chatend : ∀ k : Nat, (if (i : Int) > a then (if 0 ≤ (a : Int) then (if (a : Int) ≤ i then (if (i : Int) ≤ (((bytesOf s).map lw).length : Int) then ((some ((((bytesOf s).map lw).drop ((a : Int)).toNat).take (((i : Int)).toNat - ((a : Int)).toNat) : List Int)).bind fun y251 => ((some (([strOfNums y251] : List ByteArray) : List ByteArray)).bind fun y255 => (if out.length + y255.length < 8796093022208 then ((some (out ++ y255 : List ByteArray)).bind fun y256 => (chat_Words.l0 k ((bytesOf s).map lw) y256 (wrap64 ((i : Int) + 1)) (wrap64 ((i : Int) + 1)))) else (none)))) else (none)) else (none)) else (none)) else (chat_Words.l0 k ((bytesOf s).map lw) out (wrap64 ((i : Int) + 1)) (wrap64 ((i : Int) + 1))))
        = (if (i : Int) > a then chat_Words.l0 k ((bytesOf s).map lw) (out ++ [strOfNums (seg ((bytesOf s).map lw) a i)]) (i + 1 : Nat) (i + 1 : Nat) else chat_Words.l0 k ((bytesOf s).map lw) out (i + 1 : Nat) (i + 1 : Nat)) := by
      intro k
      rw [wrap64_in (by omega), succ_cast, cseg]
      by_cases c : (i : Int) > a
      · rw [if_pos c, if_pos c, if_pos (by omega), if_pos (by omega), if_pos (by omega), Option.bind_some, Option.bind_some, if_pos (by simp; omega), Option.bind_some]
      · rw [if_neg c, if_neg c]
    by_cases c : i < s.size
    · have hb : rd ((bytesOf s).map lw) i = lw (bt s (i : Int)) := by rw [rd_map _ _ (by rw [bytes_len]; exact c), bytes_rd s i c]
      by_cases q : 97 ≤ lw (bt s (i : Int)) ∧ lw (bt s (i : Int)) ≤ 122
      · obtain ⟨v, hv, h⟩ := ih (i + 1) a out (by omega) (by omega) (by omega) (.inl (by omega)) (by omega)
        refine ⟨v, hv, fun k hk => ?_⟩
        obtain ⟨k, rfl⟩ : ∃ z, k = z + 2 := ⟨k - 2, by omega⟩
        have hk1 := (h (k + 1) (by omega)).1
        have hk2 := (h k (by omega)).2
        constructor
        · rw [chat_Words.l0, e1, wrap64_in (x := (s.size : Int) + 1) (by omega), if_pos (by omega), if_pos (by omega), if_pos (by omega), hb, letter_eq, Option.bind_some, decide_eq_true q, if_pos rfl, wrap64_in (by omega), succ_cast]
          exact hk1
        · rw [barrowref38_Words.l0, if_pos (by omega), if_pos (by omega), if_pos (by omega), rlower_eq, Option.bind_some, if_pos q.1, Option.bind_some, decide_eq_true q.2, barrowref38_Words.j1, if_pos rfl, if_pos (by omega), if_pos (by omega), rlower_eq, Option.bind_some, Option.bind_some, if_pos (by rw [str_size, str_size, hz]; simp; omega), wrap64_in (by omega), succ_cast, str_append, ← hb, ← seg_succ _ _ _ ha (by omega)]
          exact hk2
      · obtain ⟨v, hv, h⟩ := fin
        refine ⟨v, hv, fun k hk => ?_⟩
        obtain ⟨k, rfl⟩ : ∃ z, k = z + 2 := ⟨k - 2, by omega⟩
        constructor
        · rw [chat_Words.l0, e1, wrap64_in (x := (s.size : Int) + 1) (by omega), if_pos (by omega), if_pos (by omega), if_pos (by omega), hb, letter_eq, Option.bind_some, decide_eq_false q, if_neg (by simp), ← e1, chatend (k + 1)]
          exact (h (k + 1) (by omega)).1
        · rw [barrowref38_Words.l0, if_pos (by omega), if_pos (by omega), if_pos (by omega), rlower_eq, Option.bind_some]
          have := (h k (by omega)).2
          by_cases q1 : lw (bt s (i : Int)) ≥ 97
          · rw [if_pos q1, Option.bind_some, decide_eq_false (fun z => q ⟨q1, z⟩)]
            exact this
          · rw [if_neg q1]
            exact this
    · obtain ⟨v, hv, h⟩ := fin
      refine ⟨v, hv, fun k hk => ?_⟩
      obtain ⟨k, rfl⟩ : ∃ z, k = z + 2 := ⟨k - 2, by omega⟩
      constructor
      · rw [chat_Words.l0, e1, wrap64_in (x := (s.size : Int) + 1) (by omega), if_pos (by omega), if_neg (by omega), ← e1, chatend (k + 1)]
        exact (h (k + 1) (by omega)).1
      · rw [barrowref38_Words.l0, if_pos (by omega), if_neg (by omega)]
        exact (h k (by omega)).2
theorem words_eq (s : ByteArray) (hs : s.size ≤ 2000) {k : Nat} (hk : 10000 < k) : ∃ v : List ByteArray, v.length ≤ 4000 ∧ chat_Words.f k s = some v ∧ barrowref38_Words.f k s = some v := by
  obtain ⟨v, hv, h⟩ := words_same s hs (s.size + 1) 0 0 [] (by omega) (by omega) (by omega) (.inr rfl) (by simp)
  obtain ⟨h1, h2⟩ := h k (by omega)
  refine ⟨v, hv, ?_, ?_⟩
  · unfold chat_Words.f
    rw [lowered_eq s (by omega) (by omega), Option.bind_some]
    exact h1
  · unfold barrowref38_Words.f
    rw [seg_self, ← str_nil] at h2
    exact h2
end Go.Proofs.Ytdpeflbdoaccbaa.Pure
namespace Go.Proofs.Ytdpeflbdoaccbaa.Pure
open Go.RowKit Go.Proofs.Ytdpeflbdoaccbaa.XCH Go.Proofs.YtdpeflbdoaccbaaW.PrintWords Go.Proofs.YtdpeflbdoaccbaaW.PrintLast Go.Proofs.YtdpeflbdoaccbaaS
def By (l : List Int) : Prop := ∀ x ∈ l, 0 ≤ x ∧ x ≤ 255
theorem str_inj {a b : List Int} (ha : By a) (hb : By b) : (strOfNums a).toList = (strOfNums b).toList ↔ a = b := by
  have e : ∀ l : List Int, (strOfNums l).toList = l.map fun n => UInt8.ofNat n.toNat := fun l => by
    rw [ByteArray.toList_eq]; rfl
  rw [e, e]
  constructor
  · intro h
    have back : ∀ l : List Int, By l → (l.map fun n => UInt8.ofNat n.toNat).map (fun u : UInt8 => (u.toNat : Int)) = l := by
      intro l hl
      rw [List.map_map]
      conv => rhs; rw [← List.map_id l]
      refine List.map_congr_left fun x hx => ?_
      have := hl x hx
      simp only [Function.comp, UInt8.toNat_ofNat', id]
      omega
    rw [← back a ha, ← back b hb, h]
  · intro h; rw [h]
theorem bytes_by (s : ByteArray) : By (bytesOf s) := by
  intro x hx
  unfold bytesOf at hx
  obtain ⟨b, _, rfl⟩ := List.mem_map.1 hx
  have := b.toNat_lt
  omega
theorem lw_by {l : List Int} (h : By l) : By (l.map lw) := by
  intro x hx
  obtain ⟨b, hb, rfl⟩ := List.mem_map.1 hx
  have := h b hb
  unfold lw
  split <;> omega
theorem str_bytes (s : ByteArray) : strOfNums (bytesOf s) = s := by
  apply ByteArray.ext
  apply Array.toList_inj.1
  have e : (strOfNums (bytesOf s)).data.toList = (bytesOf s).map fun n => UInt8.ofNat n.toNat := rfl
  rw [e, bytesOf, List.map_map]
  conv => rhs; rw [← List.map_id s.data.toList]
  refine List.map_congr_left fun x _ => ?_
  simp
theorem str_extract (l : List Int) (a b : Nat) : (strOfNums l).extract a b = strOfNums ((l.drop a).take (b - a)) := by
  apply ByteArray.ext
  rw [ByteArray.data_extract]
  unfold strOfNums
  rw [List.extract_toArray]
  simp [List.extract_eq_take_drop, List.map_take, List.map_drop]
/-- A text with small letters. -/
def lws (w : ByteArray) : ByteArray := strOfNums ((bytesOf w).map lw)
theorem lws_size (w : ByteArray) : (lws w).size = w.size := by unfold lws; rw [str_size, List.length_map, bytes_len]
/-- Does a word stand at a place? -/
def stv (s : ByteArray) (p : Nat) (w : ByteArray) : Bool := decide (w.size ≤ s.size - p ∧ (((bytesOf s).map lw).drop p).take w.size = (bytesOf w).map lw)
theorem prefix_eq (s w : ByteArray) (p : Nat) (hp : p ≤ s.size) : strings_HasPrefix.f ((lws s).extract p (lws s).size) (lws w) = some (stv s p w) := by
  have h1 : ((lws s).extract p (lws s).size).size = s.size - p := by rw [ByteArray.size_extract, lws_size]; omega
  have hL : ((bytesOf s).map lw).length = s.size := by rw [List.length_map, bytes_len]
  unfold strings_HasPrefix.f stringslite_HasPrefix.f stv
  rw [h1, lws_size w]
  by_cases c : w.size ≤ s.size - p
  · rw [if_pos (by omega), if_pos (by omega), if_pos (by omega), Option.bind_some, Int.toNat_natCast]
    congr 1
    have e : ((lws s).extract p (lws s).size).extract 0 w.size = strOfNums ((((bytesOf s).map lw).drop p).take w.size) := by
      rw [lws_size, show lws s = strOfNums ((bytesOf s).map lw) from rfl, str_extract, str_extract, List.drop_zero, Nat.sub_zero, List.take_take, Nat.min_eq_left c]
    rw [e]
    have hb1 : By ((((bytesOf s).map lw).drop p).take w.size) := fun x hx => lw_by (bytes_by s) x (List.drop_subset _ _ (List.take_subset _ _ hx))
    have hi := str_inj hb1 (lw_by (bytes_by w))
    rw [show lws w = strOfNums ((bytesOf w).map lw) from rfl]
    by_cases q : (((bytesOf s).map lw).drop p).take w.size = (bytesOf w).map lw
    · rw [decide_eq_true ⟨c, q⟩, hi.2 q]; simp
    · rw [decide_eq_false (fun h => q h.2)]
      exact beq_eq_false_iff_ne.2 (fun h => q (hi.1 h))
  · rw [if_neg (by omega), Option.bind_some, decide_eq_false (fun h => c h.1)]
theorem stands_l0 (s w : ByteArray) (p : Nat) (hs : s.size ≤ 2000) (hw : w.size ≤ s.size - p) (hp : p ≤ s.size) : ∀ (n j k : Nat), j + n = w.size → n < k →
    barrowref38_stands.l0 k s p w j = some (decide ((((bytesOf s).map lw).drop (p + j)).take n = ((bytesOf w).map lw).drop j)) := by
  have hL : ((bytesOf s).map lw).length = s.size := by rw [List.length_map, bytes_len]
  have hM : ((bytesOf w).map lw).length = w.size := by rw [List.length_map, bytes_len]
  intro n
  induction n with
  | zero =>
    intro j k hj hk
    obtain ⟨k, rfl⟩ : ∃ q, k = q + 1 := ⟨k - 1, by omega⟩
    rw [barrowref38_stands.l0, if_neg (by omega), List.take_zero, List.drop_of_length_le (l := (bytesOf w).map lw) (by omega)]
    simp
  | succ n ih =>
    intro j k hj hk
    obtain ⟨k, rfl⟩ : ∃ q, k = q + 1 := ⟨k - 1, by omega⟩
    have e0 : wrap64 ((p : Int) + (j : Int)) = ((p + j : Nat) : Int) := by rw [wrap64_in (by omega)]; omega
    have d1 := rd_drop (l := (bytesOf s).map lw) (i := p + j) (by omega)
    have d2 := rd_drop (l := (bytesOf w).map lw) (i := j) (by omega)
    have b1 : rd ((bytesOf s).map lw) ((p + j : Nat) : Int) = lw (bt s ((p + j : Nat) : Int)) := by rw [rd_map _ _ (by rw [bytes_len]; omega), bytes_rd s _ (by omega)]
    have b2 : rd ((bytesOf w).map lw) (j : Int) = lw (bt w (j : Int)) := by rw [rd_map _ _ (by rw [bytes_len]; omega), bytes_rd w _ (by omega)]
    rw [barrowref38_stands.l0, if_pos (by omega), e0, if_pos (by omega), if_pos (by omega), rlower_eq, Option.bind_some, if_pos (by omega), rlower_eq, Option.bind_some, wrap64_in (by omega), succ_cast, d1, d2, List.take_succ_cons, b1, b2]
    by_cases c : lw (bt s ((p + j : Nat) : Int)) = lw (bt w (j : Int))
    · rw [if_pos c, ih (j + 1) k (by omega) (by omega), c]
      congr 1
      rw [decide_eq_decide]
      rw [show p + (j + 1) = p + j + 1 by omega]
      simp
    · rw [if_neg c]
      congr 1
      symm
      rw [decide_eq_false_iff_not]
      intro h
      exact c (List.cons.inj h).1
theorem stands_eq (s w : ByteArray) (p : Nat) (hs : s.size ≤ 2000) (hw : w.size ≤ 2000) (hp : p ≤ s.size) {k : Nat} (hk : 2000 < k) : barrowref38_stands.f k s p w = some (stv s p w) := by
  unfold barrowref38_stands.f stv
  rw [wrap64_in (by omega)]
  by_cases c : w.size ≤ s.size - p
  · rw [if_neg (by omega)]
    have := stands_l0 s w p hs c hp w.size 0 k (by omega) (by omega)
    rw [Nat.add_zero, List.drop_zero] at this
    refine Eq.trans this ?_
    congr 1
    rw [decide_eq_decide]
    exact ⟨fun h => ⟨c, h⟩, fun h => h.2⟩
  · rw [if_pos (by omega), decide_eq_false (fun h => c h.1)]
/-- How long the longest word is that stands at a place. -/
def lgo (s : ByteArray) (p : Nat) : Nat → List ByteArray → Nat
  | n, [] => n
  | n, w :: ws => lgo s p (if w.size > n ∧ stv s p w = true then w.size else n) ws
theorem lgo_le (s : ByteArray) (p : Nat) : ∀ (ws : List ByteArray) (n : Nat), n ≤ s.size - p → lgo s p n ws ≤ s.size - p
  | [], n, h => h
  | w :: ws, n, h => by
    unfold lgo
    refine lgo_le s p ws _ ?_
    split
    · rename_i c
      have := of_decide_eq_true c.2
      exact this.1
    · exact h
theorem rdB_drop {l : List ByteArray} {i : Nat} (h : i < l.length) : l.drop i = rdOf ByteArray.empty l i :: l.drop (i + 1) := by
  unfold rdOf
  rw [Int.toNat_natCast, List.getD_eq_getElem?_getD, List.getElem?_eq_getElem h]
  exact List.drop_eq_getElem_cons h
theorem rdB_mem {l : List ByteArray} {i : Nat} (h : i < l.length) : rdOf ByteArray.empty l i ∈ l := by
  have := rdB_drop h
  exact List.drop_subset i l (by rw [this]; simp)
theorem rdB_map (l : List ByteArray) (i : Nat) (h : i < l.length) : rdOf ByteArray.empty (l.map lws) i = lws (rdOf ByteArray.empty l i) := by
  unfold rdOf
  rw [Int.toNat_natCast, List.getD_eq_getElem?_getD, List.getD_eq_getElem?_getD, List.getElem?_eq_getElem h, List.getElem?_eq_getElem (by simpa using h)]
  simp
theorem longest_l0 (s : ByteArray) (p : Nat) (hp : p ≤ s.size) (l : List ByteArray) (hl : l.length ≤ 100) : ∀ (m i n k : Nat), i + m = l.length → m < k →
    chat_longest.l0 k ((lws s).extract p (lws s).size) n (l.map lws) (l.length : Int) i = some (lgo s p n (l.drop i) : Int) := by
  intro m
  induction m with
  | zero =>
    intro i n k hi hk
    obtain ⟨k, rfl⟩ : ∃ q, k = q + 1 := ⟨k - 1, by omega⟩
    rw [chat_longest.l0, if_neg (by omega), List.drop_of_length_le (by omega)]
    rfl
  | succ m ih =>
    intro i n k hi hk
    obtain ⟨k, rfl⟩ : ∃ q, k = q + 1 := ⟨k - 1, by omega⟩
    rw [chat_longest.l0, if_pos (by omega), if_pos (by omega), if_pos (by rw [List.length_map]; omega), rdB_map l i (by omega), lws_size, prefix_eq s _ p hp, Option.bind_some, wrap64_in (by omega), succ_cast, rdB_drop (l := l) (by omega), lgo]
    by_cases c1 : (rdOf ByteArray.empty l (i : Int)).size > n
    · rw [if_pos (by omega)]
      by_cases c2 : stv s p (rdOf ByteArray.empty l (i : Int)) = true
      · rw [if_pos c2, if_pos ⟨c1, c2⟩]; exact ih (i + 1) _ k (by omega) (by omega)
      · rw [if_neg c2, if_neg (fun h => c2 h.2)]; exact ih (i + 1) _ k (by omega) (by omega)
    · rw [if_neg (by omega), if_neg (fun h => c1 h.1)]; exact ih (i + 1) _ k (by omega) (by omega)
theorem rlongest (s : ByteArray) (p : Nat) (hs : s.size ≤ 2000) (hp : p < s.size) (l : List ByteArray) (hl : l.length ≤ 100) (hw : ∀ w ∈ l, w.size ≤ 2000) (out : ByteArray) (ho : out.size ≤ 5000) :
    ∀ (m i n k : Nat), i + m = l.length → 2100 + m < k → ∃ k', k ≤ k' + m + 1 ∧ barrowref38_Clean.l1 k s l out p n i =
      if lgo s p n (l.drop i) = 0 then barrowref38_Clean.l0 k' s l (out ++ strOfNums [bt s p]) (p + 1 : Nat) else barrowref38_Clean.l2 k' s l out p (lgo s p n (l.drop i)) 0 := by
  intro m
  induction m with
  | zero =>
    intro i n k hi hk
    obtain ⟨k, rfl⟩ : ∃ q, k = q + 1 := ⟨k - 1, by omega⟩
    refine ⟨k, by omega, ?_⟩
    have e0 : wrap64 ((p : Int) + 1) = ((p + 1 : Nat) : Int) := by rw [wrap64_in (by omega)]; omega
    have ex : s.extract p (p + 1) = strOfNums [bt s p] := by
      conv => lhs; rw [← str_bytes s]
      rw [str_extract, rd_drop (l := bytesOf s) (by rw [bytes_len]; exact hp), bytes_rd s p hp, show p + 1 - p = 1 by omega]
      rfl
    rw [barrowref38_Clean.l1, if_neg (by omega), List.drop_of_length_le (by omega), lgo, e0, Int.toNat_natCast, Int.toNat_natCast, ex]
    by_cases c : n = 0
    · rw [if_pos (by omega), if_pos c, if_pos (by omega), if_pos (by omega), if_pos (by omega), if_pos (by rw [str_size]; simp; omega)]
    · rw [if_neg (by omega), if_neg c]
  | succ m ih =>
    intro i n k hi hk
    obtain ⟨k, rfl⟩ : ∃ q, k = q + 1 := ⟨k - 1, by omega⟩
    rw [barrowref38_Clean.l1, if_pos (by omega), if_pos (by omega), stands_eq s _ p hs (hw _ (rdB_mem (by omega))) (by omega) (by omega), Option.bind_some, wrap64_in (by omega), succ_cast, rdB_drop (l := l) (by omega), lgo]
    by_cases c2 : stv s p (rdOf ByteArray.empty l (i : Int)) = true
    · rw [if_pos c2]
      by_cases c1 : (rdOf ByteArray.empty l (i : Int)).size > n
      · rw [if_pos (by omega), if_pos ⟨c1, c2⟩]
        obtain ⟨k', h1, h2⟩ := ih (i + 1) _ k (by omega) (by omega)
        exact ⟨k', by omega, h2⟩
      · rw [if_neg (by omega), if_neg (fun h => c1 h.1)]
        obtain ⟨k', h1, h2⟩ := ih (i + 1) n k (by omega) (by omega)
        exact ⟨k', by omega, h2⟩
    · rw [if_neg c2, if_neg (fun h => c2 h.2)]
      obtain ⟨k', h1, h2⟩ := ih (i + 1) n k (by omega) (by omega)
      exact ⟨k', by omega, h2⟩
theorem stars_l2 (s : ByteArray) (p n : Nat) (ws : List ByteArray) (L T : List Int) (P : List Int) (hs : s.size ≤ 2000) (hP : P.length = p) (hn : p + n ≤ s.size) (hT : T.length = s.size) :
    ∀ (m i k : Nat), i + m = n → m < k → ∃ k', k ≤ k' + m + 1 ∧
    chat_Clean.l2 k ws L T p i (P ++ List.replicate i 42 ++ (bytesOf s).drop (p + i)) n = chat_Clean.l1 k' ws L T (p + n : Nat) (P ++ List.replicate n 42 ++ (bytesOf s).drop (p + n)) := by
  intro m
  induction m with
  | zero =>
    intro i k hi hk
    obtain ⟨k, rfl⟩ : ∃ q, k = q + 1 := ⟨k - 1, by omega⟩
    obtain rfl : i = n := by omega
    refine ⟨k, by omega, ?_⟩
    have e0 : wrap64 ((p : Int) + (i : Int)) = ((p + i : Nat) : Int) := by rw [wrap64_in (by omega)]; omega
    rw [chat_Clean.l2, if_neg (by omega), e0]
  | succ m ih =>
    intro i k hi hk
    obtain ⟨k, rfl⟩ : ∃ q, k = q + 1 := ⟨k - 1, by omega⟩
    have e0 : wrap64 ((p : Int) + (i : Int)) = ((p + i : Nat) : Int) := by rw [wrap64_in (by omega)]; omega
    have hd := rd_drop (l := bytesOf s) (i := p + i) (by rw [bytes_len]; omega)
    have hset : (P ++ List.replicate i 42 ++ (bytesOf s).drop (p + i)).set (p + i) 42 = P ++ List.replicate (i + 1) 42 ++ (bytesOf s).drop (p + (i + 1)) := by
      rw [List.set_append_right _ _ (by simp; omega), show p + i - (P ++ List.replicate i (42 : Int)).length = 0 by simp; omega, hd, List.set_cons_zero, List.replicate_succ', show p + (i + 1) = p + i + 1 by omega]
      simp
    rw [chat_Clean.l2, if_pos (by omega), e0, Option.bind_some, if_pos (by omega), if_pos (by omega), Option.bind_some, Int.toNat_natCast, hset, wrap64_in (by omega), succ_cast]
    obtain ⟨k', h1, h2⟩ := ih (i + 1) k (by omega) (by omega)
    exact ⟨k', by omega, h2⟩
theorem rstars_l2 (s : ByteArray) (p n : Nat) (l : List ByteArray) (hs : s.size ≤ 2000) (hn : p + n ≤ s.size) :
    ∀ (m i k : Nat) (P : List Int), i + m = n → m < k → P.length + m ≤ 5000 → ∃ k', k ≤ k' + m + 1 ∧
    barrowref38_Clean.l2 k s l (strOfNums P) p n i = barrowref38_Clean.l0 k' s l (strOfNums (P ++ List.replicate m 42)) (p + n : Nat) := by
  intro m
  induction m with
  | zero =>
    intro i k P hi hk hP
    obtain ⟨k, rfl⟩ : ∃ q, k = q + 1 := ⟨k - 1, by omega⟩
    refine ⟨k, by omega, ?_⟩
    have e0 : wrap64 ((p : Int) + (n : Int)) = ((p + n : Nat) : Int) := by rw [wrap64_in (by omega)]; omega
    rw [barrowref38_Clean.l2, if_neg (by omega), e0, List.replicate_zero, List.append_nil]
  | succ m ih =>
    intro i k P hi hk hP
    obtain ⟨k, rfl⟩ : ∃ q, k = q + 1 := ⟨k - 1, by omega⟩
    have hst : strOfNums P ++ (⟨#[42]⟩ : ByteArray) = strOfNums (P ++ [42]) := by
      rw [← str_append]; rfl
    rw [barrowref38_Clean.l2, if_pos (by omega), if_pos (by rw [str_size]; omega), hst, wrap64_in (by omega), succ_cast]
    obtain ⟨k', h1, h2⟩ := ih (i + 1) k (P ++ [42]) (by omega) (by omega) (by simp; omega)
    refine ⟨k', by omega, ?_⟩
    rw [h2, List.replicate_succ, List.append_assoc]
    rfl
theorem clean_same (s : ByteArray) (hs : s.size ≤ 2000) (l : List ByteArray) (hl : l.length ≤ 100) (hw : ∀ w ∈ l, w.size ≤ 2000) :
    ∀ (N p : Nat) (P : List Int), p + N = s.size → P.length = p →
    ∃ v : ByteArray, ∀ k, 5000 + 3000 * N < k → chat_Clean.l1 k (l.map lws) ((bytesOf s).map lw) (bytesOf s) p (P ++ (bytesOf s).drop p) = some v ∧ barrowref38_Clean.l0 k s l (strOfNums P) p = some v := by
  have hb := bytes_len s
  intro N
  induction N using Nat.strongRecOn with
  | ind N ih =>
    intro p P hp hP
    by_cases e : N = 0
    · refine ⟨strOfNums P, fun k hk => ?_⟩
      obtain ⟨k, rfl⟩ : ∃ q, k = q + 1 := ⟨k - 1, by omega⟩
      rw [chat_Clean.l1, barrowref38_Clean.l0, if_neg (by omega), if_neg (by omega), List.drop_of_length_le (by omega), List.append_nil]
      exact ⟨rfl, rfl⟩
    · have hn := lgo_le s p l 0 (by omega)
      by_cases c : lgo s p 0 l = 0
      · obtain ⟨v, h⟩ := ih (N - 1) (by omega) (p + 1) (P ++ [bt s p]) (by omega) (by simp; omega)
        refine ⟨v, fun k hk => ?_⟩
        obtain ⟨k, rfl⟩ : ∃ q, k = q + 1 := ⟨k - 1, by omega⟩
        have hd := rd_drop (l := bytesOf s) (i := p) (by omega)
        rw [bytes_rd s p (by omega)] at hd
        constructor
        · have hh := longest_l0 s p (by omega) l hl l.length 0 0 k (by omega) (by omega)
          rw [List.drop_zero, c] at hh
          have hf : chat_longest.f k ((lws s).extract p (lws s).size) (l.map lws) = some 0 := by
            unfold chat_longest.f
            rw [List.length_map]
            exact hh
          have h1 := (h k (by omega)).1
          rw [List.append_assoc, List.singleton_append, ← hd] at h1
          rw [chat_Clean.l1, if_pos (by omega), if_pos (by omega), show strOfNums ((bytesOf s).map lw) = lws s from rfl, if_pos (by rw [lws_size]; omega), Int.toNat_natCast, hf, Option.bind_some, if_pos rfl, wrap64_in (by omega), succ_cast]
          exact h1
        · obtain ⟨k', h1, h2⟩ := rlongest s p hs (by omega) l hl hw (strOfNums P) (by rw [str_size]; omega) l.length 0 0 k (by omega) (by omega)
          rw [List.drop_zero, if_pos c, str_append] at h2
          rw [barrowref38_Clean.l0, if_pos (by omega)]
          exact h2.trans (h k' (by omega)).2
      · obtain ⟨v, h⟩ := ih (N - lgo s p 0 l) (by omega) (p + lgo s p 0 l) (P ++ List.replicate (lgo s p 0 l) 42) (by omega) (by simp; omega)
        refine ⟨v, fun k hk => ?_⟩
        obtain ⟨k, rfl⟩ : ∃ q, k = q + 1 := ⟨k - 1, by omega⟩
        constructor
        · have hh := longest_l0 s p (by omega) l hl l.length 0 0 k (by omega) (by omega)
          rw [List.drop_zero] at hh
          have hf : chat_longest.f k ((lws s).extract p (lws s).size) (l.map lws) = some (lgo s p 0 l : Int) := by
            unfold chat_longest.f
            rw [List.length_map]
            exact hh
          obtain ⟨k', h1, h2⟩ := stars_l2 s p (lgo s p 0 l) (l.map lws) ((bytesOf s).map lw) (bytesOf s) P hs hP (by omega) hb (lgo s p 0 l) 0 k (by omega) (by omega)
          rw [List.replicate_zero, List.append_nil, Nat.add_zero] at h2
          rw [chat_Clean.l1, if_pos (by omega), if_pos (by omega), show strOfNums ((bytesOf s).map lw) = lws s from rfl, if_pos (by rw [lws_size]; omega), Int.toNat_natCast, hf, Option.bind_some, if_neg (by omega)]
          exact h2.trans (h k' (by omega)).1
        · obtain ⟨k', h1, h2⟩ := rlongest s p hs (by omega) l hl hw (strOfNums P) (by rw [str_size]; omega) l.length 0 0 k (by omega) (by omega)
          rw [List.drop_zero, if_neg c] at h2
          obtain ⟨k2, h3, h4⟩ := rstars_l2 s p (lgo s p 0 l) l hs (by omega) (lgo s p 0 l) 0 k' P (by omega) (by omega) (by omega)
          rw [barrowref38_Clean.l0, if_pos (by omega)]
          exact h2.trans (h4.trans (h k2 (by omega)).2)
theorem lowers_l0 (s : ByteArray) (hs : s.size ≤ 2000) (l : List ByteArray) (hl : l.length ≤ 100) (hw : ∀ w ∈ l, w.size ≤ 2000) : ∀ (m i k : Nat), i + m = l.length → 6000 + m < k →
    ∃ k', k ≤ k' + m + 1 ∧ chat_Clean.l0 k s l ((l.take i).map lws) i = chat_Clean.l1 k' (l.map lws) ((bytesOf s).map lw) (bytesOf s) 0 (bytesOf s) := by
  intro m
  induction m with
  | zero =>
    intro i k hi hk
    obtain ⟨k, rfl⟩ : ∃ q, k = q + 1 := ⟨k - 1, by omega⟩
    refine ⟨k, by omega, ?_⟩
    rw [chat_Clean.l0, if_neg (by omega), lowered_eq s (by omega) (by omega), Option.bind_some, if_pos (by omega), Option.bind_some, List.take_of_length_le (by omega)]
  | succ m ih =>
    intro i k hi hk
    obtain ⟨k, rfl⟩ : ∃ q, k = q + 1 := ⟨k - 1, by omega⟩
    have hd := rdB_drop (l := l) (i := i) (by omega)
    have ht : l.take (i + 1) = l.take i ++ [rdOf ByteArray.empty l i] := by
      rw [List.take_add_one, ← List.head?_drop, hd]; rfl
    have hsz := hw _ (rdB_mem (l := l) (i := i) (by omega))
    obtain ⟨k', h1, h2⟩ := ih (i + 1) k (by omega) (by omega)
    refine ⟨k', by omega, ?_⟩
    rw [ht, List.map_append, List.map_cons, List.map_nil] at h2
    rw [chat_Clean.l0, if_pos (by omega), if_pos (by omega), lowered_eq _ (by omega) (by omega), Option.bind_some, Option.bind_some, if_pos (by simp; omega), Option.bind_some, wrap64_in (by omega), succ_cast]
    exact h2
theorem clean_eq (s : ByteArray) (hs : s.size ≤ 2000) (l : List ByteArray) (hl : l.length ≤ 100) (hw : ∀ w ∈ l, w.size ≤ 2000) {k : Nat} (hk : 7000000 < k) : ∃ v : ByteArray, chat_Clean.f k s l = some v ∧ barrowref38_Clean.f k s l = some v := by
  obtain ⟨v, h⟩ := clean_same s hs l hl hw s.size 0 [] (by omega) rfl
  rw [List.nil_append, List.drop_zero, ← str_nil] at h
  refine ⟨v, ?_, (h k (by omega)).2⟩
  obtain ⟨k', h1, h2⟩ := lowers_l0 s hs l hl hw l.length 0 k (by omega) (by omega)
  rw [List.take_zero, List.map_nil] at h2
  exact h2.trans (h k' (by omega)).1
theorem few_l0 (l : List ByteArray) (s : ByteArray) (hl : l.length < 4611686018427387904) : ∀ (m i k : Nat), i + m = l.length → 2 * m + 2 < k →
    ∃ v, barrowlaw38_few.l0 k l s i = some v ∧ (v = true → i ≤ 100 → (l.length ≤ 40 ∧ s.size ≤ 1024 ∧ ∀ w ∈ l.drop i, w.size ≤ 100)) := by
  intro m
  induction m with
  | zero =>
    intro i k hi hk
    obtain ⟨k, rfl⟩ : ∃ q, k = q + 2 := ⟨k - 2, by omega⟩
    rw [barrowlaw38_few.l0, if_neg (by omega), barrowlaw38_few.j1, if_neg (by simp), List.drop_of_length_le (by omega)]
    by_cases c : (l.length : Int) ≤ 40
    · rw [if_pos c]
      refine ⟨_, rfl, fun h _ => ⟨by omega, ?_, by simp⟩⟩
      have := of_decide_eq_true h
      omega
    · rw [if_neg c]
      exact ⟨_, rfl, fun h => by cases h⟩
  | succ m ih =>
    intro i k hi hk
    obtain ⟨k, rfl⟩ : ∃ q, k = q + 2 := ⟨k - 2, by omega⟩
    rw [barrowlaw38_few.l0, if_pos (by omega), barrowlaw38_few.j1]
    by_cases c : (i : Int) < 100
    · rw [if_pos (by rw [decide_eq_true_eq]; exact c), if_pos (by omega), if_pos (by omega)]
      by_cases q : ((rdOf ByteArray.empty l (i : Int)).size : Int) > 100
      · rw [if_pos q]
        exact ⟨_, rfl, fun h => by cases h⟩
      · rw [if_neg q, wrap64_in (by omega), succ_cast]
        obtain ⟨v, h1, h2⟩ := ih (i + 1) k (by omega) (by omega)
        refine ⟨v, h1, fun h _ => ?_⟩
        obtain ⟨a1, a2, a3⟩ := h2 h (by omega)
        refine ⟨a1, a2, fun w hw => ?_⟩
        rw [rdB_drop (l := l) (by omega)] at hw
        rcases List.mem_cons.1 hw with e | e
        · rw [e]; omega
        · exact a3 w e
    · rw [if_neg (by rw [decide_eq_true_eq]; exact c)]
      by_cases q : (l.length : Int) ≤ 40
      · omega
      · rw [if_neg q]
        exact ⟨_, rfl, fun h => by cases h⟩
theorem few_eq (l : List ByteArray) (s : ByteArray) (hl : l.length < 4611686018427387904) {k : Nat} (hk : 2 * l.length + 2 < k) : ∃ v, barrowlaw38_few.f k l s = some v ∧ (v = true → (l.length ≤ 40 ∧ s.size ≤ 1024 ∧ ∀ w ∈ l, w.size ≤ 100)) := by
  obtain ⟨v, h1, h2⟩ := few_l0 l s hl l.length 0 k (by omega) hk
  exact ⟨v, h1, fun h => by simpa using h2 h (by omega)⟩
end Go.Proofs.Ytdpeflbdoaccbaa.Pure
