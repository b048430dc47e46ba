/- What sums, differences and products come to: plain numbers. Words of loops that end ('Ev'), of numbers of 64 bits. How far two tiles are apart, and whether they are near, as plain numbers. Rising rows of numbers, each once: of what stands in them there is one such row. Maps as lists of entries, in plain Lean. Area: the small case; a shape that is moved. Zone: what lies in a shape: the program's answer and the document's are one. Area: the tiles of a map that lie in a shape: the program's and the document's. -/
import Derived.Test.YtofodbnnminmkaaXARx3
import Derived.Test.YtofodbnnminmkaaXARx2
import Derived.Laws.BitsLemmas
import Derived.Test.YtofodbnnminmkaaXARx3
import Derived.Test.YtofodbnnminmkaaXARx4
import Derived.Test.YtofodbnnminmkaaSL6
import Derived.Test.YtofodbnnminmkaaSL5
import Derived.Test.YtofodbnnminmkaaXARx5
import Derived.Test.YtofodbnnminmkaaXARx8
import Derived.Test.YtofodbnnminmkaaXARx11
import Derived.Test.YtofodbnnminmkaaXARx7
import Derived.Test.YtofodbnnminmkaaXARx2
import Derived.Test.YtofodbnnminmkaaXARx21
import Derived.Test.YtofodbnnminmkaaXARx20
import Derived.Test.YtofodbnnminmkaaXARx5
import Derived.Test.YtofodbnnminmkaaXARx4
import Derived.Test.YtofodbnnminmkaaXARx13
import Derived.Test.YtofodbnnminmkaaXARx12
import Derived.Test.YtofodbnnminmkaaXARx11
import Derived.Test.YtofodbnnminmkaaXARx7
import Derived.Test.YtofodbnnminmkaaXARx15
import Derived.Test.YtofodbnnminmkaaXARx14
import Derived.Test.YtofodbnnminmkaaXARx6
import Derived.Test.YtofodbnnminmkaaXARx5
import Derived.Test.YtofodbnnminmkaaXARx13
set_option linter.unusedSimpArgs false
set_option linter.unusedVariables false
namespace Go.Proofs.Ytofodbnnminmkaa.Pure
open Go.RowKit Go.Proofs.Ytofodbnnminmkaa.XAR Go.Proofs.YtofodbnnminmkaaW.PrintWords Go.Proofs.YtofodbnnminmkaaW.PrintLast Go.Proofs.YtofodbnnminmkaaW.PrintMore

theorem i64_of {a : Int} (h : (Lit.int .i64 a).wf = true) : -9223372036854775808 ≤ a ∧ a ≤ 9223372036854775807 := by
  simp [Lit.wf, IntKind.min, IntKind.max, IntKind.bits, IntKind.signed] at h
  omega
theorem u64_wrap (n : Int) : IntKind.u64.wrap n = n % 18446744073709551616 := by simp [IntKind.wrap, IntKind.bits, IntKind.signed]
def satv (x : Int) : Int := if x > 9223372036854775807 then 9223372036854775807 else if x < -9223372036854775808 then -9223372036854775808 else x
theorem satv_mono {x y : Int} (h : x ≤ y) : satv x ≤ satv y := by unfold satv; (repeat' split) <;> omega
theorem satv_in {x : Int} (h : -9223372036854775808 ≤ x ∧ x ≤ 9223372036854775807) : satv x = x := by unfold satv; (repeat' split) <;> omega

theorem add_eq (k : Nat) (a b : Int) (ha : -9223372036854775808 ≤ a ∧ a ≤ 9223372036854775807) (hb : -9223372036854775808 ≤ b ∧ b ≤ 9223372036854775807) : sat_Add.f (k + 1) a b = some (satv (a + b)) := by
  unfold sat_Add.f satv
  simp only [sat_Add.j0, wrap64]
  split <;> split <;> (try split) <;> simp_all <;> (repeat' split) <;> (first | rfl | omega | (simp; omega) | skip)
theorem sub_eq (k : Nat) (a b : Int) (ha : -9223372036854775808 ≤ a ∧ a ≤ 9223372036854775807) (hb : -9223372036854775808 ≤ b ∧ b ≤ 9223372036854775807) : sat_Sub.f (k + 1) a b = some (satv (a - b)) := by
  unfold sat_Sub.f satv
  simp only [sat_Sub.j0, wrap64]
  split <;> split <;> (try split) <;> simp_all <;> (repeat' split) <;> (first | rfl | omega | (simp; omega) | skip)

theorem and32 (x : Int) (h0 : 0 ≤ x) (h1 : x < 18446744073709551616) : Go.bits .and .u64 x 4294967295 = x % 4294967296 :=
  bits_mask .u64 64 (by decide) (fun n h0 h1 => by rw [u64_wrap]; omega) 32 (by decide) x h0 h1
theorem mul64_eq (x y : Int) (hx : 0 ≤ x ∧ x < 18446744073709551616) (hy : 0 ≤ y ∧ y < 18446744073709551616) : bits_Mul64.f x y = some (x * y / 18446744073709551616, x * y % 18446744073709551616) := by
  unfold bits_Mul64.f
  rw [and32 x hx.1 hx.2, and32 y hy.1 hy.2]
  simp only [u64_wrap]
  obtain ⟨x1, hx1⟩ : ∃ q, x / 4294967296 = q := ⟨_, rfl⟩
  obtain ⟨x0, hx0⟩ : ∃ q, x % 4294967296 = q := ⟨_, rfl⟩
  obtain ⟨y1, hy1⟩ : ∃ q, y / 4294967296 = q := ⟨_, rfl⟩
  obtain ⟨y0, hy0⟩ : ∃ q, y % 4294967296 = q := ⟨_, rfl⟩
  have ex : x = x1 * 4294967296 + x0 := by omega
  have ey : y = y1 * 4294967296 + y0 := by omega
  rw [hx1, hx0, hy1, hy0]
  have b0 : 0 ≤ x0 ∧ x0 ≤ 4294967295 := by omega
  have b1 : 0 ≤ x1 ∧ x1 ≤ 4294967295 := by omega
  have c0 : 0 ≤ y0 ∧ y0 ≤ 4294967295 := by omega
  have c1 : 0 ≤ y1 ∧ y1 ≤ 4294967295 := by omega
  have bd : ∀ p q : Int, 0 ≤ p → p ≤ 4294967295 → 0 ≤ q → q ≤ 4294967295 → 0 ≤ p * q ∧ p * q ≤ 18446744065119617025 := fun p q h1 h2 h3 h4 =>
    ⟨Int.mul_nonneg h1 h3, by have := Int.mul_le_mul h2 h4 h3 (by decide : (0 : Int) ≤ 4294967295); omega⟩
  have e : x * y = x1 * y1 * 18446744073709551616 + (x1 * y0 + x0 * y1) * 4294967296 + x0 * y0 := by
    rw [ex, ey, Int.add_mul, Int.mul_add, Int.mul_add]
    have r1 : x1 * 4294967296 * (y1 * 4294967296) = x1 * y1 * 18446744073709551616 := by
      rw [Int.mul_assoc, Int.mul_left_comm 4294967296 y1 4294967296, ← Int.mul_assoc]; rfl
    have r2 : x1 * 4294967296 * y0 = x1 * y0 * 4294967296 := by rw [Int.mul_assoc, Int.mul_comm 4294967296 y0, ← Int.mul_assoc]
    have r3 : x0 * (y1 * 4294967296) = x0 * y1 * 4294967296 := by rw [← Int.mul_assoc]
    rw [r1, r2, r3]; omega
  have d00 := bd x0 y0 b0.1 b0.2 c0.1 c0.2
  have d10 := bd x1 y0 b1.1 b1.2 c0.1 c0.2
  have d01 := bd x0 y1 b0.1 b0.2 c1.1 c1.2
  have d11 := bd x1 y1 b1.1 b1.2 c1.1 c1.2
  rw [e]
  generalize x0 * y0 = p00 at *
  generalize x1 * y0 = p10 at *
  generalize x0 * y1 = p01 at *
  generalize x1 * y1 = p11 at *
  clear bd hx hy hx1 hx0 hy1 hy0 ex ey b0 b1 c0 c1 e
  congr 2
  have hm : ((p10 + p00 / 4294967296) % 18446744073709551616) = p10 + p00 / 4294967296 := by omega
  rw [Int.emod_eq_of_lt d00.1 (by omega), Int.emod_eq_of_lt d10.1 (by omega), Int.emod_eq_of_lt d11.1 (by omega), Int.emod_eq_of_lt d01.1 (by omega), hm]
  have a32 : ∀ z : Int, 0 ≤ z → z < 18446744073709551616 → Go.bits .and .u64 z 4294967295 = z % 4294967296 := and32
  rw [a32 _ (by omega) (by omega)]
  omega
theorem size_eq (a : Int) (ha : -9223372036854775808 ≤ a ∧ a ≤ 9223372036854775807) : sat_size.f a = some (if a < 0 then -a else a) := by
  unfold sat_size.f
  simp only [u64_wrap]
  split <;> congr 1 <;> omega
theorem size_max : sat_size.f 9223372036854775807 = some 9223372036854775807 := by rw [size_eq _ (by omega)]; rfl
theorem size_min : sat_size.f (-9223372036854775808) = some 9223372036854775808 := by rw [size_eq _ (by omega)]; rfl
theorem mul_eq (a b : Int) (ha : -9223372036854775808 ≤ a ∧ a ≤ 9223372036854775807) (hb : -9223372036854775808 ≤ b ∧ b ≤ 9223372036854775807) : sat_Mul.f a b = some (satv (a * b)) := by
  unfold sat_Mul.f
  rw [size_eq a ha, size_eq b hb, size_max, size_min]
  simp only [Option.bind_some]
  obtain ⟨x, hx⟩ : ∃ q, (if a < 0 then -a else a) = q := ⟨_, rfl⟩
  obtain ⟨y, hy⟩ : ∃ q, (if b < 0 then -b else b) = q := ⟨_, rfl⟩
  rw [hx, hy]
  have x0 : 0 ≤ x ∧ x ≤ 9223372036854775808 := by rw [← hx]; split <;> omega
  have y0 : 0 ≤ y ∧ y ≤ 9223372036854775808 := by rw [← hy]; split <;> omega
  rw [mul64_eq x y (by omega) (by omega)]
  simp only [Option.bind_some]
  have hp : 0 ≤ x * y := Int.mul_nonneg x0.1 y0.1
  have e : a * b = if ((decide (a < 0)) != (decide (b < 0))) = true then -(x * y) else x * y := by
    by_cases h1 : a < 0 <;> by_cases h2 : b < 0
    · rw [if_pos h1] at hx; rw [if_pos h2] at hy; simp [h1, h2, ← hx, ← hy, Int.neg_mul, Int.mul_neg]
    · rw [if_pos h1] at hx; rw [if_neg h2] at hy; simp [h1, h2, ← hx, ← hy, Int.neg_mul, Int.mul_neg]
    · rw [if_neg h1] at hx; rw [if_pos h2] at hy; simp [h1, h2, ← hx, ← hy, Int.neg_mul, Int.mul_neg]
    · rw [if_neg h1] at hx; rw [if_neg h2] at hy; simp [h1, h2, ← hx, ← hy, Int.neg_mul, Int.mul_neg]
  rw [e]
  clear e hx hy x0 y0 ha hb
  generalize x * y = p at *
  generalize ((decide (a < 0)) != (decide (b < 0))) = s at *
  have e1 : sat_end.f true = some (-9223372036854775808) := rfl
  have e2 : sat_end.f false = some 9223372036854775807 := rfl
  cases s
  · simp only [e2, Option.bind_some, wrap64, Bool.false_eq_true, if_false]
    unfold satv
    (repeat' split) <;> (first | rfl | omega | (congr 1; omega))
  · simp only [e1, Option.bind_some, u64_wrap, wrap64, if_true]
    unfold satv
    (repeat' split) <;> (first | rfl | omega | (congr 1; omega))

end Go.Proofs.Ytofodbnnminmkaa.Pure
namespace Go.Proofs.Ytofodbnnminmkaa.Pure
open Go.RowKit Go.Proofs.Ytofodbnnminmkaa.XAR Go.Proofs.YtofodbnnminmkaaW.PrintWords Go.Proofs.YtofodbnnminmkaaW.PrintLast

/-- With rounds enough it is so. -/
def Ev (P : Nat → Prop) : Prop := ∃ K, ∀ k, K ≤ k → P k
theorem Ev.ge (B : Nat) : Ev (fun k => B ≤ k) := ⟨B, fun _ h => h⟩
theorem Ev.and {P Q : Nat → Prop} (h : Ev P) (h' : Ev Q) : Ev (fun k => P k ∧ Q k) := by
  obtain ⟨K, h⟩ := h
  obtain ⟨K', h'⟩ := h'
  exact ⟨max K K', fun k hk => ⟨h k (by omega), h' k (by omega)⟩⟩
theorem Ev.imp {P Q : Nat → Prop} (h : Ev P) (hs : ∀ k, P k → Q k) : Ev Q := let ⟨K, h⟩ := h; ⟨K, fun k hk => hs k (h k hk)⟩
theorem Ev.get {P : Nat → Prop} (h : Ev P) : ∃ k, P k := let ⟨K, h⟩ := h; ⟨K, h K (Nat.le_refl _)⟩
theorem Ev.of {α : Type} {f : Nat → Option α} (hm : ∀ k, LeO (f k) (f (k + 1))) {K : Nat} {v : α} (h : f K = some v) : Ev (fun k => f k = some v) := by
  refine ⟨K, fun k hk => ?_⟩
  obtain ⟨d, rfl⟩ := Nat.exists_eq_add_of_le hk
  induction d with
  | zero => exact h
  | succ d ih => exact hm _ _ (ih (by omega))
abbrev In64 (a : Int) : Prop := -9223372036854775808 ≤ a ∧ a ≤ 9223372036854775807
theorem satv64 (x : Int) : In64 (satv x) := by unfold satv; (repeat' split) <;> constructor <;> omega
theorem mn_min (a b : Int) : mn a b = min a b := by unfold mn; split <;> omega
theorem mx_max (a b : Int) : mx a b = max a b := by unfold mx; split <;> omega
theorem wrap64_in {x : Int} (h : In64 x) : wrap64 x = x := by unfold wrap64; omega
end Go.Proofs.Ytofodbnnminmkaa.Pure
namespace Go.Proofs.Ytofodbnnminmkaa.Pure
open Go.RowKit Go.Proofs.Ytofodbnnminmkaa.XAR Go.Proofs.YtofodbnnminmkaaW.PrintWords Go.Proofs.YtofodbnnminmkaaW.PrintLast Go.Proofs.YtofodbnnminmkaaW.PrintMore

def farv (a b : Int) : Int := satv (max a b - min a b)
theorem farv64 (a b : Int) : In64 (farv a b) := satv64 _
theorem far_eq (k : Nat) (a b : Int) (ha : In64 a) (hb : In64 b) : grid_far.f (k + 1) a b = some (farv a b) := by
  unfold grid_far.f
  rw [mx_max, mn_min, sub_eq k _ _ (by omega) (by omega)]
  rfl
def sqv (ax ay bx by_ : Int) : Int := satv (satv (farv ax bx * farv ax bx) + satv (farv ay by_ * farv ay by_))
def nearv (ax ay bx by_ r : Int) : Bool := if r ≥ 0 then decide (sqv ax ay bx by_ ≤ satv (r * r)) else false
section
variable (k : Nat) (ax ay bx by_ : Int) (hax : In64 ax) (hay : In64 ay) (hbx : In64 bx) (hby : In64 by_)
include hax hay hbx hby
theorem square_eq : grid_Square.f (k + 1) ax ay bx by_ = some (sqv ax ay bx by_) := by
  unfold grid_Square.f sqv
  rw [far_eq k ax bx hax hbx, far_eq k ay by_ hay hby]
  simp only [Option.bind_some]
  rw [mul_eq _ _ (farv64 _ _) (farv64 _ _), mul_eq _ _ (farv64 _ _) (farv64 _ _)]
  simp only [Option.bind_some]
  rw [add_eq k _ _ (satv64 _) (satv64 _)]
  rfl
theorem near_eq (r : Int) (hr : In64 r) : grid_Near.f (k + 1) ax ay bx by_ r = some (nearv ax ay bx by_ r) := by
  unfold grid_Near.f nearv
  split
  · rw [square_eq k ax ay bx by_ hax hay hbx hby]
    simp only [Option.bind_some]
    rw [mul_eq _ _ hr hr]
    rfl
  · rfl
end
theorem farv_comm (a b : Int) : farv a b = farv b a := by unfold farv; rw [show max a b - min a b = max b a - min b a by omega]
theorem farv_nonneg (a b : Int) : 0 ≤ farv a b := by unfold farv satv; (repeat' split) <;> omega
theorem farv_zero (a b : Int) : farv a b = 0 ↔ a = b := by unfold farv satv; (repeat' split) <;> omega
theorem sqv_comm (ax ay bx by_ : Int) : sqv ax ay bx by_ = sqv bx by_ ax ay := by unfold sqv; rw [farv_comm ax, farv_comm ay]
theorem self_le {d : Int} (h : 0 ≤ d) : d ≤ d * d := by
  rcases Int.lt_or_le d 1 with h1 | h1
  · have : d = 0 := by omega
    subst this; decide
  · have := Int.mul_le_mul_of_nonneg_right h1 h
    omega
/-- A square, cut at the end, is above each number from 0 to 2^62 whose square is less. -/
theorem satv_sq {d : Int} (h : 0 ≤ d) (hd : In64 d) : 0 ≤ satv (d * d) ∧ d ≤ satv (d * d) := by
  have := self_le h
  unfold satv
  (repeat' split) <;> omega
theorem sqv_nonneg (ax ay bx by_ : Int) : 0 ≤ sqv ax ay bx by_ := by
  have h1 := (satv_sq (farv_nonneg ax bx) (farv64 ax bx)).1
  have h2 := (satv_sq (farv_nonneg ay by_) (farv64 ay by_)).1
  unfold sqv
  generalize satv (farv ax bx * farv ax bx) = p at *
  generalize satv (farv ay by_ * farv ay by_) = q at *
  unfold satv
  (repeat' split) <;> omega
theorem sqv_ge (ax ay bx by_ : Int) : satv (farv ax bx * farv ax bx) ≤ sqv ax ay bx by_ ∧ satv (farv ay by_ * farv ay by_) ≤ sqv ax ay bx by_ := by
  have h1 := (satv_sq (farv_nonneg ax bx) (farv64 ax bx)).1
  have h2 := (satv_sq (farv_nonneg ay by_) (farv64 ay by_)).1
  have h3 := satv64 (farv ax bx * farv ax bx)
  have h4 := satv64 (farv ay by_ * farv ay by_)
  unfold sqv
  generalize satv (farv ax bx * farv ax bx) = p at *
  generalize satv (farv ay by_ * farv ay by_) = q at *
  unfold satv
  (repeat' split) <;> omega
theorem sqv_zero (ax ay bx by_ : Int) : sqv ax ay bx by_ = 0 ↔ ax = bx ∧ ay = by_ := by
  constructor
  · intro h
    have h1 := sqv_ge ax ay bx by_
    have h2 := satv_sq (farv_nonneg ax bx) (farv64 ax bx)
    have h3 := satv_sq (farv_nonneg ay by_) (farv64 ay by_)
    have h4 := farv_nonneg ax bx
    have h5 := farv_nonneg ay by_
    have h6 := farv_zero ax bx
    have h7 := farv_zero ay by_
    omega
  · rintro ⟨rfl, rfl⟩
    have h1 := (farv_zero ax ax).2 rfl
    have h2 := (farv_zero ay ay).2 rfl
    unfold sqv
    rw [h1, h2]
    decide
theorem nearv_comm (ax ay bx by_ r : Int) : nearv ax ay bx by_ r = nearv bx by_ ax ay r := by unfold nearv; rw [sqv_comm]
theorem nearv_self (ax ay r : Int) (hr : 0 ≤ r) : nearv ax ay ax ay r = true := by
  unfold nearv
  rw [if_pos hr, (sqv_zero ax ay ax ay).2 ⟨rfl, rfl⟩]
  have := Int.mul_nonneg hr hr
  refine decide_eq_true ?_
  unfold satv
  (repeat' split) <;> omega
theorem nearv_up (ax ay bx by_ r : Int) (hr : 0 ≤ r) (h : nearv ax ay bx by_ r = true) : nearv ax ay bx by_ (r + 1) = true := by
  unfold nearv at *
  rw [if_pos hr] at h
  rw [if_pos (by omega)]
  have h1 := of_decide_eq_true h
  refine decide_eq_true (Int.le_trans h1 (satv_mono ?_))
  have := Int.mul_le_mul (show r ≤ r + 1 by omega) (show r ≤ r + 1 by omega) hr (by omega)
  exact this
end Go.Proofs.Ytofodbnnminmkaa.Pure
namespace Go.Proofs.Ytofodbnnminmkaa.Pure
open Go.Proofs.YtofodbnnminmkaaS
theorem strict_ext : ∀ {a b : List Int}, a.Pairwise (· < ·) → b.Pairwise (· < ·) → (∀ x, x ∈ a ↔ x ∈ b) → a = b
  | [], [], _, _, _ => rfl
  | [], y :: b, _, _, h => by have := (h y).2 (by simp); simp at this
  | x :: a, [], _, _, h => by have := (h x).1 (by simp); simp at this
  | x :: a, y :: b, ha, hb, h => by
    have ha' := List.pairwise_cons.1 ha
    have hb' := List.pairwise_cons.1 hb
    have hxy : x = y := by
      have h1 : y ≤ x := by
        rcases List.mem_cons.1 ((h x).1 (by simp)) with e | e
        · omega
        · have := hb'.1 x e; omega
      have h2 : x ≤ y := by
        rcases List.mem_cons.1 ((h y).2 (by simp)) with e | e
        · omega
        · have := ha'.1 y e; omega
      omega
    subst hxy
    rw [strict_ext ha'.2 hb'.2 (fun z => ?_)]
    constructor
    · intro hz
      have h1 := ha'.1 z hz
      rcases List.mem_cons.1 ((h z).1 (List.mem_cons_of_mem _ hz)) with e | e
      · omega
      · exact e
    · intro hz
      have h1 := hb'.1 z hz
      rcases List.mem_cons.1 ((h z).2 (List.mem_cons_of_mem _ hz)) with e | e
      · omega
      · exact e
/-- A number in its place among rising ones, once. -/
def ins (x : Int) : List Int → List Int
  | [] => [x]
  | y :: l => if x < y then x :: y :: l else if x = y then y :: l else y :: ins x l
theorem mem_ins (x : Int) : ∀ (l : List Int) (z : Int), z ∈ ins x l ↔ z = x ∨ z ∈ l
  | [], z => by simp [ins]
  | y :: l, z => by
    unfold ins
    split
    · simp
    · split
      · rename_i h; subst h; simp
      · simp only [List.mem_cons, mem_ins x l z]
        constructor
        · rintro (h | h | h) <;> simp [h]
        · rintro (h | h | h) <;> simp [h]
theorem ins_up (x : Int) : ∀ {l : List Int}, l.Pairwise (· < ·) → (ins x l).Pairwise (· < ·)
  | [], _ => by simp [ins]
  | y :: l, h => by
    have h' := List.pairwise_cons.1 h
    unfold ins
    split
    · rename_i c
      refine List.pairwise_cons.2 ⟨fun z hz => ?_, h⟩
      rcases List.mem_cons.1 hz with e | e
      · omega
      · have := h'.1 z e; omega
    · split
      · exact h
      · refine List.pairwise_cons.2 ⟨fun z hz => ?_, ins_up x h'.2⟩
        rcases (mem_ins x l z).1 hz with e | e
        · omega
        · exact h'.1 z e
theorem ins_len (x : Int) : ∀ l : List Int, (ins x l).length ≤ l.length + 1
  | [] => by simp [ins]
  | y :: l => by
    unfold ins
    have := ins_len x l
    (repeat' split) <;> simp <;> omega
/-- Numbers, rising, each once. -/
def canonv (l : List Int) : List Int := l.foldr ins []
theorem mem_canonv : ∀ (l : List Int) (z : Int), z ∈ canonv l ↔ z ∈ l
  | [], z => by simp [canonv]
  | x :: l, z => by
    have := mem_canonv l z
    simp only [canonv, List.foldr_cons, mem_ins] at *
    rw [this]; simp
theorem canonv_up : ∀ (l : List Int), (canonv l).Pairwise (· < ·)
  | [] => by simp [canonv]
  | x :: l => by
    have := canonv_up l
    simp only [canonv, List.foldr_cons] at *
    exact ins_up x this
theorem canonv_len : ∀ (l : List Int), (canonv l).length ≤ l.length
  | [] => by simp [canonv]
  | x :: l => by
    have h1 := canonv_len l
    have h2 := ins_len x (canonv l)
    simp only [canonv, List.foldr_cons] at *
    simp; omega
theorem canonv_ext {a b : List Int} (h : ∀ z, z ∈ a ↔ z ∈ b) : canonv a = canonv b := strict_ext (canonv_up a) (canonv_up b) (fun z => by rw [mem_canonv, mem_canonv]; exact h z)
theorem canonv_of {a b : List Int} (h : a.Pairwise (· < ·)) (hm : ∀ z, z ∈ a ↔ z ∈ b) : a = canonv b := strict_ext h (canonv_up b) (fun z => by rw [mem_canonv]; exact hm z)
theorem canonv_self {a : List Int} (h : a.Pairwise (· < ·)) : canonv a = a := (canonv_of h (fun _ => Iff.rfl)).symm
theorem canonv_nil {a : List Int} : canonv a = [] ↔ a = [] := by
  constructor
  · intro h
    cases a with
    | nil => rfl
    | cons x l => have := (mem_canonv (x :: l) x).2 (by simp); rw [h] at this; simp at this
  · rintro rfl; rfl
theorem sortI_mem (l : List Int) (z : Int) : z ∈ sortI l ↔ z ∈ l := (List.mergeSort_perm l _).mem_iff
theorem sortI_up (l : List Int) : (sortI l).Pairwise (· ≤ ·) := by
  have := List.pairwise_mergeSort (le := fun x y : Int => decide (x ≤ y)) (by intro a b c h1 h2; simp at *; omega) (by intro a b; simp; omega) l
  refine this.imp ?_
  intro a b h
  simpa using h
theorem compact_up {d : Array Int} (h : d.toList.Pairwise (· ≤ ·)) : ∀ m, m ≤ d.size → (Lib.compactUpTo d m).Pairwise (· < ·) ∧ ∀ z, z ∈ Lib.compactUpTo d m ↔ ∃ j, j < m ∧ d[j]! = z
  | 0, _ => by simp [Lib.compactUpTo]
  | m + 1, hm => by
    obtain ⟨h1, h2⟩ := compact_up h m (by omega)
    have get : ∀ i j, i < j → j < d.size → d[i]! ≤ d[j]! := by
      intro i j hij hj
      have := List.pairwise_iff_getElem.1 h i j (by simp; omega) (by simpa using hj) hij
      simpa [getElem!_pos, hj, (by omega : i < d.size)] using this
    rw [Lib.compactUpTo_succ]
    by_cases hk : Lib.keeps d m = true
    · rw [if_pos hk]
      have hk' : m = 0 ∨ d[m]! ≠ d[m - 1]! := by simpa [Lib.keeps] using hk
      constructor
      · refine List.pairwise_append.2 ⟨h1, by simp, fun a ha b hb => ?_⟩
        obtain ⟨j, hj, rfl⟩ := (h2 a).1 ha
        simp at hb
        subst hb
        have e1 : d[j]! ≤ d[m - 1]! := by
          rcases Nat.lt_or_ge j (m - 1) with c | c
          · exact get _ _ c (by omega)
          · rw [show j = m - 1 by omega]; exact Int.le_refl _
        have e2 : d[m - 1]! ≤ d[m]! := get _ _ (by omega) (by omega)
        rcases hk' with c | c
        · omega
        · omega
      · intro z
        simp only [List.mem_append, List.mem_singleton, h2 z]
        constructor
        · rintro (⟨j, hj, e⟩ | e)
          · exact ⟨j, by omega, e⟩
          · exact ⟨m, by omega, e.symm⟩
        · rintro ⟨j, hj, e⟩
          rcases Nat.lt_or_ge j m with c | c
          · exact .inl ⟨j, c, e⟩
          · obtain rfl : j = m := by omega
            exact .inr e.symm
    · rw [if_neg hk, List.append_nil]
      refine ⟨h1, fun z => ?_⟩
      have hk' : ¬ (m = 0 ∨ d[m]! ≠ d[m - 1]!) := by simpa [Lib.keeps] using hk
      rw [h2 z]
      constructor
      · rintro ⟨j, hj, e⟩
        exact ⟨j, by omega, e⟩
      · rintro ⟨j, hj, e⟩
        rcases Nat.lt_or_ge j m with c | c
        · exact ⟨j, c, e⟩
        · obtain rfl : j = m := by omega
          have hm0 : j ≠ 0 := fun h => hk' (.inl h)
          have he : d[j]! = d[j - 1]! := by
            by_cases q : d[j]! = d[j - 1]!
            · exact q
            · exact absurd (.inr q) hk'
          exact ⟨j - 1, by omega, by rw [← he]; exact e⟩
/-- Sorted, and each once. -/
theorem canon_eq (l : List Int) : Lib.compact (sortI l) = canonv l := by
  have h := compact_up (d := (sortI l).toArray) (by simpa using sortI_up l) (sortI l).length (by simp)
  refine canonv_of h.1 (fun z => ?_)
  refine (h.2 z).trans ?_
  rw [← sortI_mem l z, List.mem_iff_getElem]
  constructor
  · rintro ⟨j, hj, e⟩
    exact ⟨j, hj, by rw [← e]; simp [getElem!_pos, hj]⟩
  · rintro ⟨j, hj, e⟩
    exact ⟨j, hj, by rw [← e]; simp [getElem!_pos, hj]⟩
end Go.Proofs.Ytofodbnnminmkaa.Pure
namespace Go.Proofs.Ytofodbnnminmkaa.Pure
open Go.Proofs.YtofodbnnminmkaaS
section
variable {κ β : Type} [DecidableEq κ]
def mgo : List (κ × β) → κ → Option β
  | [], _ => none
  | p :: D, k => if p.1 = k then some p.2 else mgo D k
theorem mgetD_mgo (z : β) (k : κ) : ∀ D : List (κ × β), mgetD z D k = (mgo D k).getD z
  | [] => rfl
  | p :: D => by unfold mgetD mgo; split <;> simp [mgetD_mgo z k D]
theorem mhas_mgo (k : κ) : ∀ D : List (κ × β), mhas D k = (mgo D k).isSome
  | [] => rfl
  | p :: D => by unfold mhas mgo; split <;> simp [mhas_mgo k D]
theorem mgo_mput (k : κ) (v : β) (u : κ) : ∀ D : List (κ × β), mgo (mput D k v) u = if k = u then some v else mgo D u
  | [] => by simp [mput, mgo]
  | p :: D => by
    unfold mput
    by_cases e : p.1 = k
    · rw [if_pos e]
      by_cases c : k = u
      · simp [mgo, c]
      · simp [mgo, c, e]
    · rw [if_neg e]
      simp only [mgo, mgo_mput k v u D]
      by_cases c : p.1 = u
      · have : ¬ k = u := fun h => e (c.trans h.symm)
        simp [c, this]
      · simp [c]
theorem mput_keys (k : κ) (v : β) : ∀ D : List (κ × β), (mput D k v).map (·.1) = if mhas D k = true then D.map (·.1) else D.map (·.1) ++ [k]
  | [] => by simp [mput, mhas]
  | p :: D => by
    unfold mput mhas
    by_cases e : p.1 = k
    · simp [e]
    · have := mput_keys k v D
      simp only [e, if_false, List.map_cons, this]
      split <;> simp
theorem nodup_mput {k : κ} {v : β} {D : List (κ × β)} (h : (D.map (·.1)).Nodup) : ((mput D k v).map (·.1)).Nodup := by
  rw [mput_keys]
  split
  · exact h
  · rename_i c
    rw [List.nodup_append]
    refine ⟨h, by simp, fun x hx y hy e => ?_⟩
    simp at hy
    subst hy; subst e
    rw [← mhas_iff] at hx
    exact c hx
theorem mput_len (k : κ) (v : β) (D : List (κ × β)) : (mput D k v).length ≤ D.length + 1 := by
  have h1 : (mput D k v).length = ((mput D k v).map (·.1)).length := by simp
  rw [h1, mput_keys]
  split <;> simp
theorem mem_mgo {D : List (κ × β)} (h : (D.map (·.1)).Nodup) (p : κ × β) : p ∈ D ↔ mgo D p.1 = some p.2 := by
  induction D with
  | nil => simp [mgo]
  | cons q D ih =>
    simp only [List.map_cons, List.nodup_cons] at h
    unfold mgo
    by_cases e : q.1 = p.1
    · rw [if_pos e]
      constructor
      · intro hp
        rcases List.mem_cons.1 hp with c | c
        · rw [c]
        · exact absurd (List.mem_map.2 ⟨p, c, e.symm⟩) h.1
      · intro hp
        injection hp with hp
        rw [show p = q from Prod.ext e.symm hp.symm]
        simp
    · rw [if_neg e, ← ih h.2]
      simp only [List.mem_cons]
      exact ⟨fun hp => hp.resolve_left (fun c => e (by rw [c])), .inr⟩
theorem mdel_sub (k : κ) : ∀ D : List (κ × β), (mdel D k).Sublist D
  | [] => by simp [mdel]
  | p :: D => by
    unfold mdel
    split
    · exact List.sublist_cons_self _ _
    · exact (mdel_sub k D).cons_cons p
theorem nodup_mdel {k : κ} {D : List (κ × β)} (h : (D.map (·.1)).Nodup) : ((mdel D k).map (·.1)).Nodup := h.sublist ((mdel_sub k D).map _)
theorem mdel_len {p : κ × β} {D : List (κ × β)} (h : p ∈ D) : (mdel D p.1).length + 1 = D.length := by
  induction D with
  | nil => simp at h
  | cons q D ih =>
    unfold mdel
    by_cases e : q.1 = p.1
    · simp [e]
    · rw [if_neg e]
      have : p ∈ D := (List.mem_cons.1 h).resolve_left (fun c => e (by rw [c]))
      simp [ih this]
theorem mem_mdel {k : κ} {D : List (κ × β)} (h : (D.map (·.1)).Nodup) (q : κ × β) : q ∈ mdel D k ↔ q ∈ D ∧ q.1 ≠ k := by
  induction D with
  | nil => simp [mdel]
  | cons p D ih =>
    simp only [List.map_cons, List.nodup_cons] at h
    unfold mdel
    by_cases e : p.1 = k
    · rw [if_pos e]
      constructor
      · intro hq
        exact ⟨List.mem_cons_of_mem _ hq, fun c => h.1 (List.mem_map.2 ⟨q, hq, c.trans e.symm⟩)⟩
      · rintro ⟨hq, hn⟩
        exact (List.mem_cons.1 hq).resolve_left (fun c => hn (by rw [c]; exact e))
    · rw [if_neg e]
      simp only [List.mem_cons, ih h.2]
      constructor
      · rintro (c | ⟨c1, c2⟩)
        · exact ⟨.inl c, by rw [c]; exact e⟩
        · exact ⟨.inr c1, c2⟩
      · rintro ⟨c1 | c1, c2⟩
        · exact .inl c1
        · exact .inr ⟨c1, c2⟩
theorem mgo_mdel {k u : κ} {D : List (κ × β)} (h : (D.map (·.1)).Nodup) : mgo (mdel D k) u = if u = k then none else mgo D u := by
  induction D with
  | nil => simp [mdel, mgo]
  | cons p D ih =>
    simp only [List.map_cons, List.nodup_cons] at h
    have hnone : ∀ D : List (κ × β), k ∉ D.map (·.1) → mgo D k = none := by
      intro D hk
      have h1 := mhas_mgo k D
      have h2 : mhas D k = false := by
        cases hh : mhas D k with
        | false => rfl
        | true => exact absurd ((mhas_iff k D).1 hh) hk
      rw [h2] at h1
      cases hm : mgo D k with
      | none => rfl
      | some v => rw [hm] at h1; cases h1
    unfold mdel
    by_cases e : p.1 = k
    · rw [if_pos e]
      by_cases c : u = k
      · rw [if_pos c, c]; exact hnone D (e ▸ h.1)
      · rw [if_neg c]
        have : ¬ p.1 = u := fun q => c (q.symm.trans e)
        simp [mgo, this]
    · rw [if_neg e]
      simp only [mgo, ih h.2]
      by_cases c : u = k
      · have : ¬ p.1 = u := fun q => e (q.trans c)
        simp [c, e]
      · simp [c]
end
end Go.Proofs.Ytofodbnnminmkaa.Pure
namespace Go.Proofs.Ytofodbnnminmkaa.Pure
open Go.RowKit Go.Proofs.Ytofodbnnminmkaa.XAR Go.Proofs.YtofodbnnminmkaaW.PrintWords Go.Proofs.YtofodbnnminmkaaW.PrintLast Go.Proofs.YtofodbnnminmkaaS

theorem sortI_nodup {l : List Int} (h : l.Nodup) : sortI l = canonv l := by
  refine canonv_of ?_ (fun z => sortI_mem l z)
  have h1 := sortI_up l
  have h2 : (sortI l).Nodup := (List.mergeSort_perm l _).nodup_iff.2 h
  refine (h1.and h2).imp ?_
  intro a b hab
  have := hab.1; have := hab.2; omega
theorem mdel_keys {κ β : Type} [DecidableEq κ] {p : κ × β} {D : List (κ × β)} (h : p ∈ D) : (D.map (·.1)).Perm (p.1 :: (mdel D p.1).map (·.1)) := by
  induction D with
  | nil => simp at h
  | cons q D ih =>
    unfold mdel
    by_cases e : q.1 = p.1
    · rw [if_pos e]; simp [e]
    · rw [if_neg e]
      have : p ∈ D := (List.mem_cons.1 h).resolve_left (fun c => e (by rw [c]))
      simp only [List.map_cons]
      exact ((ih this).cons q.1).trans (List.Perm.swap _ _ _)
theorem units_l0 (a0 a1 a2 a3 a4 a5 a6 : Int) (P : Int → Bool) (K : Nat) (D : List (Int × S26)) (hP : ∀ p ∈ D, ∀ k, K ≤ k → area_In.f k a0 a1 a2 a3 a4 a5 a6 p.2.f0 p.2.f1 = some (P p.1)) :
    ∀ (n k : Nat) (R : List (Int × S26)) (out : List Int), R.length = n → K + n < k → (∀ p ∈ R, p ∈ D) → (out ++ R.map (·.1)).Nodup → out.length + n ≤ 1000 →
    area_Units.l0 k a0 a1 a2 a3 a4 a5 a6 out R = some (canonv (out ++ (R.map (·.1)).filter P)) := by
  intro n
  induction n with
  | zero =>
    intro k R out hn hk hs hd ho
    obtain ⟨k, rfl⟩ : ∃ q, k = q + 1 := ⟨k - 1, by omega⟩
    obtain rfl : R = [] := List.eq_nil_of_length_eq_zero hn
    rw [area_Units.l0, if_pos (show ([] : List (Int × S26)).isEmpty = true from rfl)]
    unfold slices_Sort_int_int_c.f
    rw [if_pos (by omega), sortI_nodup (by simpa using hd)]
    simp
  | succ n ih =>
    intro k R out hn hk hs hd ho
    obtain ⟨k, rfl⟩ : ∃ q, k = q + 1 := ⟨k - 1, by omega⟩
    have hne : R ≠ [] := by intro e; rw [e] at hn; cases hn
    rw [area_Units.l0, if_neg (by simpa using hne)]
    refine everyOf_of hne fun p hp => ?_
    have hl := mdel_len hp
    have hperm := mdel_keys hp
    have hd1 : (out ++ (p.1 :: (mdel R p.1).map (·.1))).Nodup := ((hperm.append_left out).nodup_iff).1 hd
    have hd2 : ((out ++ [p.1]) ++ (mdel R p.1).map (·.1)).Nodup := by simpa using hd1
    have hd3 : (out ++ (mdel R p.1).map (·.1)).Nodup := hd1.sublist (List.Sublist.append_left (List.sublist_cons_self _ _) out)
    have hext : ∀ z, z ∈ out ++ (R.map (·.1)).filter P ↔ z ∈ out ++ (p.1 :: (mdel R p.1).map (·.1)).filter P := fun z => by
      simp only [List.mem_append, List.mem_filter, hperm.mem_iff]
    have hs' : ∀ q ∈ mdel R p.1, q ∈ D := fun q hq => hs q ((mdel_sub _ _).subset hq)
    rw [canonv_ext hext, hP p (hs p hp) k (by omega)]
    simp only [Option.bind_some]
    by_cases c : P p.1 = true
    · rw [if_pos c, if_pos (by simp; omega), ih k _ _ (by omega) (by omega) hs' hd2 (by simp; omega), List.filter_cons_of_pos c]
      simp
    · rw [if_neg c, ih k _ _ (by omega) (by omega) hs' hd3 (by omega), List.filter_cons_of_neg c]
abbrev at3 : List S47 := [⟨3, ⟨4, 0⟩⟩, ⟨1, ⟨3, 0⟩⟩, ⟨2, ⟨0, 0⟩⟩]
abbrev D3 : List (Int × S26) := [(3, ⟨4, 0⟩), (1, ⟨3, 0⟩), (2, ⟨0, 0⟩)]
abbrev P3 (u : Int) : Bool := decide (u ≠ 1)
theorem in_ev {a0 a1 a2 a3 a4 a5 a6 x y : Int} {v : Bool} {K : Nat} (h : area_In.f K a0 a1 a2 a3 a4 a5 a6 x y = some v) : Ev (fun k => area_In.f k a0 a1 a2 a3 a4 a5 a6 x y = some v) := Ev.of (fun k => area_In.mono _ _ _ _ _ _ _ _ _ k) h
theorem units_ev : Ev (fun k => area_Units.f k at3 2 2 0 0 0 1 2 = some [2, 3]) := by
  have i1 := in_ev (a0 := 2) (a1 := 2) (a2 := 0) (a3 := 0) (a4 := 0) (a5 := 1) (a6 := 2) (x := 4) (y := 0) (v := true) (K := 20) (by decide +kernel)
  have i2 := in_ev (a0 := 2) (a1 := 2) (a2 := 0) (a3 := 0) (a4 := 0) (a5 := 1) (a6 := 2) (x := 3) (y := 0) (v := false) (K := 20) (by decide +kernel)
  have i3 := in_ev (a0 := 2) (a1 := 2) (a2 := 0) (a3 := 0) (a4 := 0) (a5 := 1) (a6 := 2) (x := 0) (y := 0) (v := true) (K := 20) (by decide +kernel)
  have hpl : Ev (fun k => area_places.f k at3 = some D3) := Ev.of (fun k => area_places.mono _ k) (K := 10) (by kernel_rfl)
  obtain ⟨K, hK⟩ := (i1.and i2).and i3
  have hu : Ev (fun k => area_Units.l0 k 2 2 0 0 0 1 2 [] D3 = some [2, 3]) := by
    refine ⟨K + 4, fun k hk => ?_⟩
    have := units_l0 2 2 0 0 0 1 2 P3 K D3 (fun p hp k hk => by
      obtain ⟨⟨h1, h2⟩, h3⟩ := hK k hk
      rcases List.mem_cons.1 hp with rfl | hp
      · exact h1
      rcases List.mem_cons.1 hp with rfl | hp
      · exact h2
      rcases List.mem_cons.1 hp with rfl | hp
      · exact h3
      simp at hp) 3 k D3 [] rfl (by omega) (fun _ h => h) (by decide) (by decide)
    exact this.trans (congrArg some (by decide +kernel))
  refine (hpl.and hu).imp fun k h => ?_
  unfold area_Units.f
  rw [h.1, Option.bind_some, h.2]
theorem small_ev : Ev (fun k => barrowlaw32_small.f k = some true) := by
  have t : ∀ a b : Int, barrowlaw32_tile.f a b = some (a, b) := fun a b => rfl
  have i1 := in_ev (a0 := 2) (a1 := 2) (a2 := 0) (a3 := 0) (a4 := 0) (a5 := 1) (a6 := 2) (x := 4) (y := 0) (v := true) (K := 20) (by decide +kernel)
  have i2 := in_ev (a0 := 2) (a1 := 2) (a2 := 0) (a3 := 0) (a4 := 0) (a5 := 1) (a6 := 2) (x := 3) (y := 0) (v := false) (K := 20) (by decide +kernel)
  have i3 := in_ev (a0 := 4) (a1 := 0) (a2 := 0) (a3 := 1) (a4 := 0) (a5 := 5) (a6 := 0) (x := 3) (y := 2) (v := true) (K := 20) (by decide +kernel)
  have i4 := in_ev (a0 := 4) (a1 := 0) (a2 := 0) (a3 := 1) (a4 := 0) (a5 := 5) (a6 := 0) (x := 3) (y := 3) (v := true) (K := 20) (by decide +kernel)
  have i5 := in_ev (a0 := 4) (a1 := 0) (a2 := 0) (a3 := 1) (a4 := 0) (a5 := 5) (a6 := 0) (x := 2) (y := 3) (v := false) (K := 20) (by decide +kernel)
  have hpl : Ev (fun k => area_places.f k at3 = some D3) := Ev.of (fun k => area_places.mono _ k) (K := 10) (by kernel_rfl)
  have hst : Ev (fun k => slices_SortStableFunc_int_int_i2.f k [2, 3] 5 0 D3 = some (5, 0, [3, 2])) := Ev.of (fun k => slices_SortStableFunc_int_int_i2.mono _ _ _ _ k) (K := 60) (by decide +kernel)
  have sm1 : Ev (fun k => barrowref02_Same.f k [2, 3] [2, 3] = some true) := Ev.of (fun k => barrowref02_Same.mono _ _ k) (K := 10) (by decide +kernel)
  have sm2 : Ev (fun k => barrowref02_Same.f k [3] [3] = some true) := Ev.of (fun k => barrowref02_Same.mono _ _ k) (K := 10) (by decide +kernel)
  have htl : ∃ y : List S26, y.length = 2 ∧ Ev (fun k => area_Tiles.f k 5 1 (List.replicate 5 false) 2 2 0 0 0 1 2 = some y) := by
    have h : (area_Tiles.f 60 5 1 (List.replicate 5 false) 2 2 0 0 0 1 2).map List.length = some 2 := by decide +kernel
    obtain ⟨y, h1, h2⟩ := Option.map_eq_some_iff.1 h
    exact ⟨y, h2, Ev.of (fun k => area_Tiles.mono _ _ _ _ _ _ _ _ _ _ k) h1⟩
  obtain ⟨y, hy, htl⟩ := htl
  have hr : area_Right.f 2 2 0 0 0 1 2 = some true := by decide +kernel
  refine ((((((((((i1.and i2).and i3).and i4).and i5).and hpl).and hst).and sm1).and sm2).and htl).and units_ev).imp ?_
  rintro k ⟨⟨⟨⟨⟨⟨⟨⟨⟨⟨e1, e2⟩, e3⟩, e4⟩, e5⟩, e6⟩, e7⟩, e8⟩, e9⟩, e10⟩, e11⟩
  have hn : area_Nearest.f k at3 2 2 0 0 0 1 2 5 0 1 = some [3] := by
    unfold area_Nearest.f
    rw [e6, e11]
    simp only [Option.bind_some, e7]
    rfl
  unfold barrowlaw32_small.f
  simp only [t, Option.bind_some, e1, e2, e3, e4, e5, e11, hn, e8, e9, e10, if_true, Bool.false_eq_true, if_false]
  rw [if_pos (by omega), if_pos (by omega), hr]
  rfl
end Go.Proofs.Ytofodbnnminmkaa.Pure
namespace Go.Proofs.Ytofodbnnminmkaa.Pure
open Go.RowKit Go.Proofs.Ytofodbnnminmkaa.XAR Go.Proofs.YtofodbnnminmkaaW.PrintWords Go.Proofs.YtofodbnnminmkaaW.PrintLast

abbrev Nr (x : Int) : Prop := -256 ≤ x ∧ x ≤ 512
def Rt (kd ax ay bx by_ a b : Int) : Prop := (1 ≤ kd ∧ kd ≤ 5) ∧ (Nr ax ∧ Nr ay) ∧ (Nr bx ∧ Nr by_) ∧ (0 ≤ a ∧ a ≤ 512) ∧ (0 ≤ b ∧ b ≤ 512)
instance (kd ax ay bx by_ a b : Int) : Decidable (Rt kd ax ay bx by_ a b) := by unfold Rt; infer_instance
theorem within_eq (x lo hi : Int) : area_within.f x lo hi = some (decide (lo ≤ x ∧ x ≤ hi)) := by
  unfold area_within.f
  by_cases h : x ≥ lo
  · rw [if_pos h]; congr 1; rw [decide_eq_decide]; omega
  · rw [if_neg h]; congr 1; symm; rw [decide_eq_false_iff_not]; omega
theorem ends_eq (x : Int) : barrowref32_ends.f x = some (decide (Nr x)) := by
  unfold barrowref32_ends.f
  by_cases h : x ≥ -256
  · rw [if_pos h]; congr 1; rw [decide_eq_decide]; omega
  · rw [if_neg h]; congr 1; symm; rw [decide_eq_false_iff_not]; omega
theorem anear_eq (x y : Int) : area_near.f x y = some (decide (Nr x ∧ Nr y)) := by
  unfold area_near.f
  rw [within_eq, within_eq]
  by_cases h1 : Nr x <;> by_cases h2 : Nr y <;> simp [h1, h2]
theorem aright_eq (kd ax ay bx by_ a b : Int) : area_Right.f kd ax ay bx by_ a b = some (decide (Rt kd ax ay bx by_ a b)) := by
  unfold area_Right.f Rt
  rw [within_eq, anear_eq, anear_eq, within_eq, within_eq]
  by_cases h1 : 1 ≤ kd ∧ kd ≤ 5 <;> by_cases h2 : Nr ax ∧ Nr ay <;> by_cases h3 : Nr bx ∧ Nr by_ <;> by_cases h4 : 0 ≤ a ∧ a ≤ 512 <;> simp [h1, h2, h3, h4]
theorem rright32_eq (kd ax ay bx by_ a b : Int) : barrowref32_Right.f kd ax ay bx by_ a b = some (decide (Rt kd ax ay bx by_ a b)) := by
  unfold barrowref32_Right.f Rt
  rw [ends_eq, ends_eq, ends_eq, ends_eq]
  by_cases h1 : 1 ≤ kd
  · by_cases h2 : kd ≤ 5
    · by_cases h3 : Nr ax <;> by_cases h4 : Nr ay <;> by_cases h5 : Nr bx <;> by_cases h6 : Nr by_ <;> by_cases h7 : 0 ≤ a <;> by_cases h8 : a ≤ 512 <;> by_cases h9 : 0 ≤ b <;> simp [h1, h2, h3, h4, h5, h6, h7, h8, h9]
    · simp [h1, h2]
  · simp [h1]
theorem mulb {p q A : Int} (hp : -A ≤ p ∧ p ≤ A) (hq : -A ≤ q ∧ q ≤ A) : -(A * A) ≤ p * q ∧ p * q ≤ A * A := by
  have key : ∀ p q : Int, 0 ≤ p → p ≤ A → 0 ≤ q → q ≤ A → 0 ≤ p * q ∧ p * q ≤ A * A := fun p q h1 h2 h3 h4 =>
    ⟨Int.mul_nonneg h1 h3, Int.mul_le_mul h2 h4 h3 (by omega)⟩
  rcases Int.lt_or_le p 0 with h | h
  · rcases Int.lt_or_le q 0 with h' | h'
    · have := key (-p) (-q) (by omega) (by omega) (by omega) (by omega)
      rw [Int.neg_mul_neg] at this; omega
    · have := key (-p) q (by omega) (by omega) (by omega) (by omega)
      rw [Int.neg_mul] at this; omega
  · rcases Int.lt_or_le q 0 with h' | h'
    · have := key p (-q) (by omega) (by omega) (by omega) (by omega)
      rw [Int.mul_neg] at this; omega
    · have := key p q (by omega) (by omega) (by omega) (by omega)
      omega
theorem m768 {p q : Int} (hp : -768 ≤ p ∧ p ≤ 768) (hq : -768 ≤ q ∧ q ≤ 768) : -589824 ≤ p * q ∧ p * q ≤ 589824 := mulb hp hq
theorem m2M {p q : Int} (hp : -2000000 ≤ p ∧ p ≤ 2000000) (hq : -2000000 ≤ q ∧ q ≤ 2000000) : -4000000000000 ≤ p * q ∧ p * q ≤ 4000000000000 := mulb hp hq
theorem near_small (k : Nat) {ax ay x y r : Int} (h1 : Nr ax) (h2 : Nr ay) (h3 : Nr x) (h4 : Nr y) (hr : 0 ≤ r ∧ r ≤ 512) :
    grid_Near.f (k + 1) ax ay x y r = some (decide ((x - ax) * (x - ax) + (y - ay) * (y - ay) ≤ r * r)) := by
  unfold grid_Near.f grid_Square.f grid_far.f
  have sq : ∀ p q : Int, (max p q - min p q) * (max p q - min p q) = (q - p) * (q - p) := by
    intro p q
    rcases Int.lt_or_le p q with h | h
    · rw [show max p q - min p q = q - p by omega]
    · rw [show max p q - min p q = -(q - p) by omega, Int.neg_mul_neg]
  have b1 := m768 (p := x - ax) (q := x - ax) (by omega) (by omega)
  have b2 := m768 (p := y - ay) (q := y - ay) (by omega) (by omega)
  have b3 := m768 (p := r) (q := r) (by omega) (by omega)
  rw [if_pos (by omega), mx_max, mn_min, mx_max, mn_min, sub_eq k _ _ (by omega) (by omega), sub_eq k _ _ (by omega) (by omega), satv_in (by omega), satv_in (by omega)]
  simp only [Option.bind_some]
  rw [mul_eq _ _ (by omega) (by omega), mul_eq _ _ (by omega) (by omega), mul_eq r r (by omega) (by omega), sq, sq, satv_in (by omega), satv_in (by omega), satv_in (by omega)]
  simp only [Option.bind_some]
  rw [add_eq k _ _ (by omega) (by omega), satv_in (by omega)]
  rfl
theorem sq_zero {p q : Int} : p * p + q * q = 0 ↔ p = 0 ∧ q = 0 := by
  have nn : ∀ z : Int, 0 ≤ z * z := fun z => by
    rcases Int.lt_or_le z 0 with h | h
    · have := Int.mul_nonneg (show 0 ≤ -z by omega) (show 0 ≤ -z by omega)
      rwa [Int.neg_mul_neg] at this
    · exact Int.mul_nonneg h h
  constructor
  · intro h
    have h1 := nn p
    have h2 := nn q
    have e1 : p * p = 0 := by omega
    have e2 : q * q = 0 := by omega
    exact ⟨by simpa using Int.mul_eq_zero.1 e1, by simpa using Int.mul_eq_zero.1 e2⟩
  · rintro ⟨rfl, rfl⟩; rfl
/-- In a shape: one answer. -/
theorem in_same (kd ax ay bx by_ a b x y : Int) : ∃ v, ∀ k, area_In.f (k + 1) kd ax ay bx by_ a b x y = some v ∧ barrowref32_In.f (k + 1) kd ax ay bx by_ a b x y = some v := by
  unfold area_In.f barrowref32_In.f
  rw [aright_eq, rright32_eq, anear_eq, ends_eq, ends_eq]
  by_cases hr : Rt kd ax ay bx by_ a b
  · rw [decide_eq_true hr]
    simp only [Option.bind_some, if_true]
    by_cases hn : Nr x ∧ Nr y
    · rw [decide_eq_true hn, decide_eq_true hn.1, decide_eq_true hn.2]
      obtain ⟨⟨k1, k2⟩, ⟨r1, r2⟩, ⟨r3, r4⟩, ⟨r5, r6⟩, ⟨r7, r8⟩⟩ := hr
      obtain ⟨n1, n2⟩ := hn
      have e1 : wrap64 (x - ax) = x - ax := wrap64_in (by omega)
      have e2 : wrap64 (y - ay) = y - ay := wrap64_in (by omega)
      have e3 : wrap64 (bx - ax) = bx - ax := wrap64_in (by omega)
      have e4 : wrap64 (by_ - ay) = by_ - ay := wrap64_in (by omega)
      have N := fun k r => @near_small k ax ay x y r r1 r2 n1 n2
      have p1 := m768 (p := x - ax) (q := x - ax) (by omega) (by omega)
      have p2 := m768 (p := y - ay) (q := y - ay) (by omega) (by omega)
      have p3 := m768 (p := x - ax) (q := bx - ax) (by omega) (by omega)
      have p4 := m768 (p := y - ay) (q := by_ - ay) (by omega) (by omega)
      have p5 := m768 (p := x - ax) (q := by_ - ay) (by omega) (by omega)
      have p6 := m768 (p := y - ay) (q := bx - ax) (by omega) (by omega)
      have p7 := m768 (p := bx - ax) (q := bx - ax) (by omega) (by omega)
      have p8 := m768 (p := by_ - ay) (q := by_ - ay) (by omega) (by omega)
      have p9 := m768 (p := a) (q := a) (by omega) (by omega)
      have p10 := m768 (p := b) (q := b) (by omega) (by omega)
      have hz := @sq_zero (x - ax) (y - ay)
      have q1 := m2M (p := (x - ax) * (by_ - ay) - (y - ay) * (bx - ax)) (q := (x - ax) * (by_ - ay) - (y - ay) * (bx - ax)) (by omega) (by omega)
      have q2 := m2M (p := a * a) (q := (bx - ax) * (bx - ax) + (by_ - ay) * (by_ - ay)) (by omega) (by omega)
      simp only [Option.bind_some, if_true, Bool.not_true, area_less.f, barrowref32_In.j0, Bool.false_eq_true, if_false, area_cone.f, area_beam.f, area_box.f, area_dot.f, area_cross.f, within_eq, mx_max, mn_min, e1, e2, e3, e4]
      rw [wrap64_in (x := (x - ax) * (x - ax)) (by omega), wrap64_in (x := (y - ay) * (y - ay)) (by omega), wrap64_in (x := (x - ax) * (bx - ax)) (by omega), wrap64_in (x := (y - ay) * (by_ - ay)) (by omega), wrap64_in (x := (x - ax) * (by_ - ay)) (by omega), wrap64_in (x := (y - ay) * (bx - ax)) (by omega), wrap64_in (x := (bx - ax) * (bx - ax)) (by omega), wrap64_in (x := (by_ - ay) * (by_ - ay)) (by omega), wrap64_in (x := a * a) (by omega), wrap64_in (x := b * b) (by omega)]
      rw [wrap64_in (x := (x - ax) * (x - ax) + (y - ay) * (y - ay)) (by omega), wrap64_in (x := (x - ax) * (bx - ax) + (y - ay) * (by_ - ay)) (by omega), wrap64_in (x := (x - ax) * (by_ - ay) - (y - ay) * (bx - ax)) (by omega), wrap64_in (x := (bx - ax) * (bx - ax) + (by_ - ay) * (by_ - ay)) (by omega)]
      rw [wrap64_in (x := -((x - ax) * (by_ - ay) - (y - ay) * (bx - ax))) (by omega), wrap64_in (x := ((x - ax) * (by_ - ay) - (y - ay) * (bx - ax)) * ((x - ax) * (by_ - ay) - (y - ay) * (bx - ax))) (by omega), wrap64_in (x := a * a * ((bx - ax) * (bx - ax) + (by_ - ay) * (by_ - ay))) (by omega)]
      simp only [N _ a ⟨r5, r6⟩, N _ b ⟨r7, r8⟩, Option.bind_some]
      generalize ((x - ax) * (by_ - ay) - (y - ay) * (bx - ax)) * ((x - ax) * (by_ - ay) - (y - ay) * (bx - ax)) = cc
      generalize a * a * ((bx - ax) * (bx - ax) + (by_ - ay) * (by_ - ay)) = al
      generalize (x - ax) * (by_ - ay) - (y - ay) * (bx - ax) = c
      generalize (x - ax) * (bx - ax) + (y - ay) * (by_ - ay) = d
      generalize (bx - ax) * (bx - ax) + (by_ - ay) * (by_ - ay) = ll
      generalize (x - ax) * (x - ax) + (y - ay) * (y - ay) = f at hz ⊢
      generalize a * a = aa
      generalize b * b = bb
      by_cases h1 : kd = 1
      · simp only [if_pos h1]
        exact ⟨_, fun _ => ⟨rfl, rfl⟩⟩
      · simp only [if_neg h1]
        by_cases h2 : kd = 2
        · simp only [if_pos h2]
          by_cases c1 : f ≤ bb
          · simp only [c1, decide_true, if_true]
            by_cases c2 : a = 0
            · simp only [if_pos c2]; exact ⟨_, fun _ => ⟨rfl, rfl⟩⟩
            · simp only [if_neg c2]
              by_cases c3 : f ≤ aa
              · exact ⟨false, fun _ => ⟨by simp [c3], by simp; omega⟩⟩
              · exact ⟨true, fun _ => ⟨by simp [c3], by simp; omega⟩⟩
          · simp only [c1, decide_false, Bool.false_eq_true, if_false]; exact ⟨_, fun _ => ⟨rfl, rfl⟩⟩
        · simp only [if_neg h2]
          by_cases h3 : kd = 3
          · simp only [if_pos h3]
            refine ⟨decide ((min 0 (bx - ax) ≤ x - ax ∧ x - ax ≤ max 0 (bx - ax)) ∧ (min 0 (by_ - ay) ≤ y - ay ∧ y - ay ≤ max 0 (by_ - ay))), fun _ => ⟨?_, ?_⟩⟩
            · by_cases c1 : min ax bx ≤ x ∧ x ≤ max ax bx
              · simp only [decide_eq_true c1, if_true]
                congr 1
                rw [decide_eq_decide]
                omega
              · simp only [decide_eq_false c1, Bool.false_eq_true, if_false]
                congr 1
                symm
                rw [decide_eq_false_iff_not]
                omega
            · by_cases c1 : min 0 (bx - ax) ≤ x - ax <;> by_cases c2 : x - ax ≤ max 0 (bx - ax) <;> by_cases c3 : min 0 (by_ - ay) ≤ y - ay <;> simp only [c1, c2, c3, if_true, if_false, true_and, false_and, and_false, decide_false]
          · simp only [if_neg h3]
            by_cases h4 : kd = 4
            · simp only [if_pos h4]
              by_cases c1 : f ≤ aa
              · simp only [c1, decide_true, if_true]
                by_cases c2 : f = 0
                · have c2' := hz.1 c2
                  refine ⟨true, fun _ => ⟨?_, ?_⟩⟩
                  · rw [if_pos (by simp [c2'])]; rfl
                  · rw [if_pos c2]
                · have c2' : ¬ ((x - ax == 0 && y - ay == 0) = true) := fun h => c2 (hz.2 (by simpa using h))
                  simp only [if_neg c2, if_neg c2']
                  by_cases c3 : d > 0
                  · simp only [if_pos c3]
                    by_cases c4 : max c (-c) ≤ d
                    · exact ⟨true, fun _ => ⟨by rw [if_pos c4]; rfl, by rw [if_pos (by omega)]; simp; omega⟩⟩
                    · refine ⟨false, fun _ => ⟨by rw [if_neg c4]; rfl, ?_⟩⟩
                      by_cases c5 : c ≤ d
                      · rw [if_pos c5]; simp; omega
                      · rw [if_neg c5]
                  · simp only [if_neg c3]; exact ⟨_, fun _ => ⟨rfl, rfl⟩⟩
              · simp only [c1, decide_false, Bool.false_eq_true, if_false]; exact ⟨_, fun _ => ⟨rfl, rfl⟩⟩
            · simp only [if_neg h4]
              by_cases c1 : ll = 0
              · simp only [if_pos c1]
                by_cases c2 : f ≤ aa
                · exact ⟨true, fun _ => ⟨by rw [if_pos c2]; rfl, by simp [c2]⟩⟩
                · exact ⟨false, fun _ => ⟨by rw [if_neg c2]; rfl, by simp [c2]⟩⟩
              · simp only [if_neg c1]
                by_cases c2 : 0 ≤ d ∧ d ≤ ll
                · simp only [decide_eq_true c2, if_true]
                  by_cases c3 : cc ≤ al
                  · exact ⟨true, fun _ => ⟨by rw [if_pos c3]; rfl, by simp [c2.1, c2.2, c3]⟩⟩
                  · exact ⟨false, fun _ => ⟨by rw [if_neg c3]; rfl, by simp [c2.1, c2.2, c3]⟩⟩
                · simp only [decide_eq_false c2, Bool.false_eq_true, if_false]
                  refine ⟨false, fun _ => ⟨rfl, ?_⟩⟩
                  by_cases c3 : d ≥ 0
                  · rw [if_pos c3, if_neg (by omega)]
                  · rw [if_neg c3]
    · rw [decide_eq_false hn]
      refine ⟨false, fun k => ⟨by simp, ?_⟩⟩
      by_cases h1 : Nr x
      · have h2 : ¬ Nr y := fun h => hn ⟨h1, h⟩
        simp [h1, h2, barrowref32_In.j0]
      · simp [h1, barrowref32_In.j0]
  · rw [decide_eq_false hr]
    exact ⟨false, fun k => ⟨by simp, by simp [barrowref32_In.j0]⟩⟩
end Go.Proofs.Ytofodbnnminmkaa.Pure
namespace Go.Proofs.Ytofodbnnminmkaa.Pure
open Go.RowKit Go.Proofs.Ytofodbnnminmkaa.XAR Go.Proofs.YtofodbnnminmkaaW.PrintWords Go.Proofs.YtofodbnnminmkaaW.PrintLast
theorem succ_cast (i : Nat) : ((i : Int) + 1) = ((i + 1 : Nat) : Int) := by omega
def Gr (w h : Int) (l : List Bool) : Prop := (1 ≤ w ∧ w ≤ 256) ∧ (1 ≤ h ∧ h ≤ 256) ∧ (l.length : Int) = wrap64 (w * h)
instance (w h : Int) (l : List Bool) : Decidable (Gr w h l) := by unfold Gr; infer_instance
theorem gright_eq (w h : Int) (l : List Bool) : grid_Right.f w h l = some (decide (Gr w h l)) := by
  unfold grid_Right.f grid_Right_1.f Gr
  by_cases h1 : 1 ≤ w <;> by_cases h2 : w ≤ 256 <;> by_cases h3 : 1 ≤ h <;> by_cases h4 : h ≤ 256 <;> by_cases h5 : (l.length : Int) = wrap64 (w * h) <;> simp [h1, h2, h3, h4, h5]
theorem rgright_eq (w h : Int) (l : List Bool) : barrowref06_Right.f w h l = some (decide (Gr w h l)) := by
  unfold barrowref06_Right.f Gr
  by_cases h1 : 1 ≤ w <;> by_cases h2 : w ≤ 256 <;> by_cases h3 : 1 ≤ h <;> by_cases h4 : h ≤ 256 <;> by_cases h5 : (l.length : Int) = wrap64 (w * h) <;> simp [h1, h2, h3, h4, h5]
section
variable (W H : Nat) (l : List Bool) (kd ax ay bx by_ a b : Int)
/-- Does a tile lie in the shape? -/
noncomputable def pv (x y : Int) : Bool := (in_same kd ax ay bx by_ a b x y).choose
theorem pv_in (x y : Int) (k : Nat) : area_In.f (k + 1) kd ax ay bx by_ a b x y = some (pv kd ax ay bx by_ a b x y) := ((in_same kd ax ay bx by_ a b x y).choose_spec k).1
theorem pv_ref (x y : Int) (k : Nat) : barrowref32_In.f (k + 1) kd ax ay bx by_ a b x y = some (pv kd ax ay bx by_ a b x y) := ((in_same kd ax ay bx by_ a b x y).choose_spec k).2
/-- What one tile gives. -/
noncomputable def one (i : Nat) : List S26 := if pv kd ax ay bx by_ a b ((i % W : Nat) : Int) ((i / W : Nat) : Int) = true ∧ rdOf false l (i : Int) ≠ true then [⟨((i % W : Nat) : Int), ((i / W : Nat) : Int)⟩] else []
noncomputable def tl : Nat → Nat → List S26
  | _, 0 => []
  | i, n + 1 => one W l kd ax ay bx by_ a b i ++ tl (i + 1) n
theorem one_len (i : Nat) : (one W l kd ax ay bx by_ a b i).length ≤ 1 := by unfold one; split <;> simp
theorem tl_add : ∀ (m i n : Nat), tl W l kd ax ay bx by_ a b i (m + n) = tl W l kd ax ay bx by_ a b i m ++ tl W l kd ax ay bx by_ a b (i + m) n
  | 0, i, n => by simp [tl]
  | m + 1, i, n => by
    rw [show m + 1 + n = (m + n) + 1 by omega, tl, tl, tl_add m (i + 1) n, List.append_assoc, show i + 1 + m = i + (m + 1) by omega]
theorem tl_len : ∀ (n i : Nat), (tl W l kd ax ay bx by_ a b i n).length ≤ n
  | 0, _ => by simp [tl]
  | n + 1, i => by
    have h1 := one_len W l kd ax ay bx by_ a b i
    have h2 := tl_len n (i + 1)
    rw [tl, List.length_append]; omega
variable (hW : 1 ≤ W ∧ W ≤ 256) (hH : 1 ≤ H ∧ H ≤ 256) (hl : l.length = W * H)
include hW hH hl
theorem rtiles_l0 : ∀ (n i k : Nat) (out : List S26), i + n = l.length → 2 * n + 2 < k → out.length ≤ i →
    barrowref32_Tiles.l0 k true out i W H l kd ax ay bx by_ a b = some (out ++ tl W l kd ax ay bx by_ a b i n) := by
  have hb : W * H ≤ 65536 := Nat.mul_le_mul hW.2 hH.2
  intro n
  induction n with
  | zero =>
    intro i k out hi hk ho
    obtain ⟨k, rfl⟩ : ∃ q, k = q + 2 := ⟨k - 2, by omega⟩
    rw [barrowref32_Tiles.l0, if_neg (by omega), barrowref32_Tiles.j1, if_neg (by simp)]
    simp [tl]
  | succ n ih =>
    intro i k out hi hk ho
    obtain ⟨k, rfl⟩ : ∃ q, k = q + 3 := ⟨k - 3, by omega⟩
    have e1 : Int.tmod (i : Int) (W : Int) = ((i % W : Nat) : Int) := by rw [Int.tmod_eq_emod_of_nonneg (by omega)]; exact (Int.natCast_emod i W).symm
    have e2 : Int.tdiv (i : Int) (W : Int) = ((i / W : Nat) : Int) := by rw [Int.tdiv_eq_ediv_of_nonneg (by omega)]; exact (Int.natCast_ediv i W).symm
    have hdl : i / W ≤ i := Nat.div_le_self i W
    have hq : In64 ((i / W : Nat) : Int) := by generalize i / W = q at hdl; constructor <;> omega
    rw [barrowref32_Tiles.l0, if_pos (by omega), barrowref32_Tiles.j1, if_pos rfl, if_neg (by omega), e1, e2, wrap64_in hq, pv_ref, Option.bind_some, wrap64_in (x := (i : Int) + 1) (by constructor <;> omega), succ_cast]
    have h1 := one_len W l kd ax ay bx by_ a b i
    rw [tl]
    by_cases c1 : pv kd ax ay bx by_ a b ((i % W : Nat) : Int) ((i / W : Nat) : Int) = true
    · rw [if_pos c1, if_pos (by omega), if_pos (by omega)]
      by_cases c2 : rdOf false l (i : Int) = true
      · rw [if_pos c2, ih (i + 1) (k + 1) out (by omega) (by omega) (by omega)]
        have : one W l kd ax ay bx by_ a b i = [] := by unfold one; rw [if_neg (fun h => h.2 c2)]
        rw [this]; simp
      · rw [if_neg c2, if_pos (by omega), ih (i + 1) (k + 1) _ (by omega) (by omega) (by simp; omega)]
        have : one W l kd ax ay bx by_ a b i = [⟨((i % W : Nat) : Int), ((i / W : Nat) : Int)⟩] := by unfold one; rw [if_pos ⟨c1, c2⟩]
        rw [this]; simp
    · rw [if_neg c1, ih (i + 1) (k + 1) out (by omega) (by omega) (by omega)]
      have : one W l kd ax ay bx by_ a b i = [] := by unfold one; rw [if_neg (fun h => c1 h.1)]
      rw [this]; simp
theorem wall_eq (x y : Nat) (hx : x < W) (hy : y < H) : grid_Wall.f W H l x y = some (rdOf false l ((y * W + x : Nat) : Int)) := by
  have hb : W * H ≤ 65536 := Nat.mul_le_mul hW.2 hH.2
  have hi : y * W + x < l.length := by
    have h1 : (y + 1) * W ≤ H * W := Nat.mul_le_mul_right W hy
    rw [Nat.add_mul] at h1
    rw [hl, Nat.mul_comm W H]; omega
  have hG : Gr W H l := ⟨by omega, by omega, by rw [hl, ← Int.natCast_mul, wrap64_in (by constructor <;> omega)]⟩
  have e0 : (y : Int) * (W : Int) = ((y * W : Nat) : Int) := (Int.natCast_mul y W).symm
  have h1 : grid_inside.f W H l x y = some true := by
    unfold grid_inside.f
    rw [if_pos (by omega), if_pos (by omega), if_pos (by omega), if_pos (by omega)]
  have h2 : grid_In.f W H l x y = some true := by
    unfold grid_In.f
    rw [gright_eq, decide_eq_true hG, Option.bind_some, if_pos rfl, h1, Option.bind_some]
  have h3 : grid_wall.f W H l x y = some (rdOf false l ((y * W + x : Nat) : Int)) := by
    unfold grid_wall.f
    rw [e0, wrap64_in (x := ((y * W : Nat) : Int)) (by constructor <;> omega), show ((y * W : Nat) : Int) + (x : Int) = ((y * W + x : Nat) : Int) by omega, wrap64_in (by constructor <;> omega), if_pos (by omega), if_pos (by omega)]
  unfold grid_Wall.f
  rw [h2, Option.bind_some, if_pos rfl, h3, Option.bind_some]
theorem tiles_l1 (y : Nat) (hy : y < H) : ∀ (n x k : Nat) (out : List S26), x + n = W → n + 2 < k → out.length ≤ y * W + x →
    ∃ k', k ≤ k' + n + 1 ∧ area_Tiles.l1 k out y H y W x W H l kd ax ay bx by_ a b = area_Tiles.l0 k' (out ++ tl W l kd ax ay bx by_ a b (y * W + x) n) H (y + 1 : Nat) W H l kd ax ay bx by_ a b := by
  have hb : W * H ≤ 65536 := Nat.mul_le_mul hW.2 hH.2
  have hi : y * W + W ≤ 65536 := by
    have h1 : (y + 1) * W ≤ H * W := Nat.mul_le_mul_right W hy
    rw [Nat.add_mul, Nat.mul_comm H W] at h1; omega
  intro n
  induction n with
  | zero =>
    intro x k out hx hk ho
    obtain ⟨k, rfl⟩ : ∃ q, k = q + 1 := ⟨k - 1, by omega⟩
    refine ⟨k, by omega, ?_⟩
    rw [area_Tiles.l1, if_neg (by omega), wrap64_in (by constructor <;> omega), succ_cast]
    simp [tl]
  | succ n ih =>
    intro x k out hx hk ho
    obtain ⟨k, rfl⟩ : ∃ q, k = q + 2 := ⟨k - 2, by omega⟩
    have hm : (y * W + x) % W = x := by rw [Nat.mul_comm, Nat.mul_add_mod, Nat.mod_eq_of_lt (by omega)]
    have hd : (y * W + x) / W = y := by rw [Nat.mul_comm, Nat.mul_add_div (by omega), Nat.div_eq_of_lt (by omega), Nat.add_zero]
    rw [area_Tiles.l1, if_pos (by omega), wall_eq W H l hW hH hl x y (by omega) hy, Option.bind_some, pv_in, Option.bind_some, wrap64_in (by constructor <;> omega), succ_cast, tl]
    have ho1 : one W l kd ax ay bx by_ a b (y * W + x) = if pv kd ax ay bx by_ a b (x : Int) (y : Int) = true ∧ rdOf false l ((y * W + x : Nat) : Int) ≠ true then [⟨(x : Int), (y : Int)⟩] else [] := by
      unfold one; rw [hm, hd]
    by_cases c2 : rdOf false l ((y * W + x : Nat) : Int) = true
    · rw [if_pos c2]
      obtain ⟨k', h1, h2⟩ := ih (x + 1) (k + 1) out (by omega) (by omega) (by omega)
      refine ⟨k', by omega, ?_⟩
      rw [h2, ho1, if_neg (fun h => h.2 c2)]; rfl
    · rw [if_neg c2]
      by_cases c1 : pv kd ax ay bx by_ a b (x : Int) (y : Int) = true
      · rw [if_pos c1, if_pos (by omega)]
        obtain ⟨k', h1, h2⟩ := ih (x + 1) (k + 1) (out ++ [⟨(x : Int), (y : Int)⟩]) (by omega) (by omega) (by simp; omega)
        refine ⟨k', by omega, ?_⟩
        rw [h2, ho1, if_pos ⟨c1, c2⟩, List.append_assoc]; rfl
      · rw [if_neg c1]
        obtain ⟨k', h1, h2⟩ := ih (x + 1) (k + 1) out (by omega) (by omega) (by omega)
        refine ⟨k', by omega, ?_⟩
        rw [h2, ho1, if_neg (fun h => c1 h.1)]; rfl
theorem tiles_l0 : ∀ (n y k : Nat) (out : List S26), y + n = H → 300 * n + 2 < k → out.length ≤ y * W →
    area_Tiles.l0 k out H y W H l kd ax ay bx by_ a b = some (out ++ tl W l kd ax ay bx by_ a b (y * W) (n * W)) := by
  intro n
  induction n with
  | zero =>
    intro y k out hy hk ho
    obtain ⟨k, rfl⟩ : ∃ q, k = q + 1 := ⟨k - 1, by omega⟩
    rw [area_Tiles.l0, if_neg (by omega)]
    simp [tl]
  | succ n ih =>
    intro y k out hy hk ho
    obtain ⟨k, rfl⟩ : ∃ q, k = q + 1 := ⟨k - 1, by omega⟩
    rw [area_Tiles.l0, if_pos (by omega)]
    obtain ⟨k', h1, h2⟩ := tiles_l1 W H l kd ax ay bx by_ a b hW hH hl y (by omega) W 0 k out (by omega) (by omega) (by omega)
    refine Eq.trans h2 ?_
    have h3 := tl_len W l kd ax ay bx by_ a b W (y * W)
    rw [Nat.add_zero, ih (y + 1) k' _ (by omega) (by omega) (by rw [List.length_append, Nat.add_mul]; omega), List.append_assoc, show (n + 1) * W = W + n * W by rw [Nat.add_mul]; omega, tl_add, show (y + 1) * W = y * W + W by rw [Nat.add_mul]; omega]
end
theorem tiles_same (w h : Int) (l : List Bool) (kd ax ay bx by_ a b : Int) {k : Nat} (hk : 200000 < k) : ∃ v : List S26, v.length ≤ 65536 ∧ area_Tiles.f k w h l kd ax ay bx by_ a b = some v ∧ barrowref32_Tiles.f k w h l kd ax ay bx by_ a b = some v := by
  unfold area_Tiles.f barrowref32_Tiles.f
  rw [gright_eq, rgright_eq, Option.bind_some, Option.bind_some]
  by_cases hG : Gr w h l
  · rw [decide_eq_true hG, if_pos rfl]
    obtain ⟨⟨w1, w2⟩, ⟨h1, h2⟩, hl⟩ := hG
    obtain ⟨W, rfl⟩ : ∃ W : Nat, w = W := ⟨w.toNat, by omega⟩
    obtain ⟨H, rfl⟩ : ∃ H : Nat, h = H := ⟨h.toNat, by omega⟩
    have hW : 1 ≤ W ∧ W ≤ 256 := by omega
    have hH : 1 ≤ H ∧ H ≤ 256 := by omega
    have hb : W * H ≤ 65536 := Nat.mul_le_mul hW.2 hH.2
    rw [← Int.natCast_mul, wrap64_in (by constructor <;> omega)] at hl
    have hl' : l.length = W * H := by omega
    have e1 := tiles_l0 W H l kd ax ay bx by_ a b hW hH hl' H 0 k [] (by omega) (by omega) (by simp)
    have e2 := rtiles_l0 W H l kd ax ay bx by_ a b hW hH hl' l.length 0 k [] (by omega) (by omega) (by simp)
    rw [Nat.zero_mul, List.nil_append, Nat.mul_comm] at e1
    rw [List.nil_append, hl'] at e2
    exact ⟨_, Nat.le_trans (tl_len W l kd ax ay bx by_ a b _ _) hb, e1, e2⟩
  · rw [decide_eq_false hG, if_neg (by simp)]
    obtain ⟨k, rfl⟩ : ∃ q, k = q + 2 := ⟨k - 2, by omega⟩
    refine ⟨[], by simp, rfl, ?_⟩
    rw [barrowref32_Tiles.l0]
    split <;> rw [barrowref32_Tiles.j1, if_neg (by simp)]
theorem rd26_drop {l : List S26} {i : Nat} (h : i < l.length) : l.drop i = rd_T26 l i :: l.drop (i + 1) := by
  unfold rd_T26
  rw [Int.toNat_natCast, List.getD_eq_getElem?_getD, List.getElem?_eq_getElem h]
  exact List.drop_eq_getElem_cons h
theorem same_self (l : List S26) (hb : l.length ≤ 100000) : ∀ (n i k : Nat), i + n = l.length → n < k → barrowref06_Same.l0 k l l i = some true := by
  intro n
  induction n with
  | zero =>
    intro i k hi hk
    obtain ⟨k, rfl⟩ : ∃ q, k = q + 1 := ⟨k - 1, by omega⟩
    rw [barrowref06_Same.l0, if_neg (by omega)]
  | succ n ih =>
    intro i k hi hk
    obtain ⟨k, rfl⟩ : ∃ q, k = q + 1 := ⟨k - 1, by omega⟩
    rw [barrowref06_Same.l0, if_pos (by omega), if_pos (by omega), if_pos (by omega), if_neg (by simp), wrap64_in (by constructor <;> omega), succ_cast]
    exact ih (i + 1) k (by omega) (by omega)
end Go.Proofs.Ytofodbnnminmkaa.Pure
