/- Sight: the line, the nearest wall, whether one sees (what SightWalls needs). -/
import Derived.Test.YtljmecjciifceaaSumX
import Derived.Test.YtljmecjciifceaaXSWx2
import Derived.Test.YtljmecjciifceaaXSWx8
import Derived.Test.YtljmecjciifceaaXSWx9
import Derived.Test.YtljmecjciifceaaXSWx4
import Derived.Test.YtljmecjciifceaaXSWx3
import Derived.Test.YtljmecjciifceaaXSWx3
import Derived.Test.YtljmecjciifceaaXSWx7
import Derived.Test.YtljmecjciifceaaXSWx6
import Derived.Test.YtljmecjciifceaaXSWx8
import Derived.Test.YtljmecjciifceaaXSWx2
import Derived.Test.YtljmecjciifceaaXSWx11
import Derived.Test.YtljmecjciifceaaXSWx12
import Derived.Test.YtljmecjciifceaaXSWx13
set_option linter.unusedSimpArgs false
set_option linter.unusedVariables false
namespace Go.Proofs.Ytljmecjciifceaa.Pure
open Go.RowKit Go.Proofs.Ytljmecjciifceaa.XSW Go.Proofs.YtljmecjciifceaaW.PrintWords Go.Proofs.YtljmecjciifceaaW.PrintLast

/-- With rounds enough it is so. -/
def Ev (P : Nat → Prop) : Prop := ∃ K, ∀ k, K ≤ k → P k
theorem Ev.ge (B : Nat) : Ev (fun k => B ≤ k) := ⟨B, fun _ h => h⟩
theorem Ev.and {P Q : Nat → Prop} (h : Ev P) (h' : Ev Q) : Ev (fun k => P k ∧ Q k) := by
  obtain ⟨K, h⟩ := h
  obtain ⟨K', h'⟩ := h'
  exact ⟨max K K', fun k hk => ⟨h k (by omega), h' k (by omega)⟩⟩
theorem Ev.get {P : Nat → Prop} (h : Ev P) : ∃ k, P k := let ⟨K, h⟩ := h; ⟨K, h K (Nat.le_refl _)⟩
theorem Ev.of {α : Type} {f : Nat → Option α} (hm : ∀ k, LeO (f k) (f (k + 1))) {K : Nat} {v : α} (h : f K = some v) : Ev (fun k => f k = some v) := by
  refine ⟨K, fun k hk => ?_⟩
  obtain ⟨d, rfl⟩ := Nat.exists_eq_add_of_le hk
  induction d with
  | zero => exact h
  | succ d ih => exact hm _ _ (ih (by omega))
abbrev In64 (a : Int) : Prop := -9223372036854775808 ≤ a ∧ a ≤ 9223372036854775807
theorem satv64 (x : Int) : In64 (satv x) := by unfold satv; (repeat' split) <;> constructor <;> omega
theorem mn_min (a b : Int) : mn a b = min a b := by unfold mn; split <;> omega
theorem mx_max (a b : Int) : mx a b = max a b := by unfold mx; split <;> omega
theorem wrap64_in {x : Int} (h : In64 x) : wrap64 x = x := by unfold wrap64; omega
def RightG (w h : Int) (l : List Bool) : Prop := 1 ≤ w ∧ w ≤ 256 ∧ 1 ≤ h ∧ h ≤ 256 ∧ (l.length : Int) = w * h
instance (w h : Int) (l : List Bool) : Decidable (RightG w h l) := by unfold RightG; infer_instance
def Ins (w h x y : Int) : Prop := 0 ≤ x ∧ x < w ∧ 0 ≤ y ∧ y < h
instance (w h x y : Int) : Decidable (Ins w h x y) := by unfold Ins; infer_instance
theorem mul_small {w h : Int} (h1 : 1 ≤ w) (h2 : w ≤ 256) (h3 : 1 ≤ h) (h4 : h ≤ 256) : 1 ≤ w * h ∧ w * h ≤ 65536 := by
  have a1 := Int.mul_le_mul h1 h3 (by decide : (0 : Int) ≤ 1) (by omega)
  have a2 := Int.mul_le_mul h2 h4 (by omega) (by decide : (0 : Int) ≤ 256)
  omega
theorem right_eq (w h : Int) (l : List Bool) : grid_Right.f w h l = some (decide (RightG w h l)) := by
  unfold grid_Right.f grid_Right_1.f
  by_cases h1 : w ≥ 1
  · rw [if_pos h1]
    by_cases h2 : w ≤ 256
    · rw [decide_eq_true h2]
      simp only [Option.bind_some, if_true]
      by_cases h3 : h ≥ 1
      · rw [if_pos h3]
        by_cases h4 : h ≤ 256
        · rw [decide_eq_true h4]
          simp only [Option.bind_some, if_true]
          have := mul_small h1 h2 h3 h4
          rw [wrap64_in (by omega)]
          congr 1
          rw [Bool.eq_iff_iff]
          simp only [beq_iff_eq, decide_eq_true_eq]
          unfold RightG
          omega
        · rw [decide_eq_false h4]
          simp only [Option.bind_some, Bool.false_eq_true, if_false]
          congr 1; symm; rw [decide_eq_false_iff_not]; unfold RightG; omega
      · rw [if_neg h3]
        simp only [Option.bind_some, Bool.false_eq_true, if_false]
        congr 1; symm; rw [decide_eq_false_iff_not]; unfold RightG; omega
    · rw [decide_eq_false h2]
      simp only [Option.bind_some, Bool.false_eq_true, if_false]
      congr 1; symm; rw [decide_eq_false_iff_not]; unfold RightG; omega
  · rw [if_neg h1]
    simp only [Option.bind_some, Bool.false_eq_true, if_false]
    congr 1; symm; rw [decide_eq_false_iff_not]; unfold RightG; omega
theorem inside_eq (w h : Int) (l : List Bool) (x y : Int) : grid_inside.f w h l x y = some (decide (Ins w h x y)) := by
  unfold grid_inside.f Ins
  by_cases h1 : x ≥ 0
  · by_cases h2 : x < w
    · by_cases h3 : y ≥ 0
      · by_cases h4 : y < h <;> simp [h1, h2, h3, h4]
      · simp [h1, h2, h3]
    · simp [h1, h2]
  · simp [h1]
theorem in_eq (w h : Int) (l : List Bool) (x y : Int) : grid_In.f w h l x y = some (decide (RightG w h l ∧ Ins w h x y)) := by
  unfold grid_In.f
  rw [right_eq]
  by_cases h1 : RightG w h l
  · simp [h1, inside_eq]
  · simp [h1]
/-- The place of a tile. -/
theorem place {w h x y : Int} {l : List Bool} (hr : RightG w h l) (hi : Ins w h x y) : wrap64 (wrap64 (y * w) + x) = y * w + x ∧ 0 ≤ y * w + x ∧ y * w + x < (l.length : Int) := by
  obtain ⟨r1, r2, r3, r4, r5⟩ := hr
  obtain ⟨i1, i2, i3, i4⟩ := hi
  have m1 := Int.mul_nonneg i3 (by omega : (0 : Int) ≤ w)
  have m2 : (y + 1) * w ≤ h * w := Int.mul_le_mul_of_nonneg_right (by omega) (by omega)
  rw [Int.add_mul] at m2
  have m3 := Int.mul_comm h w
  have m4 := mul_small r1 r2 r3 r4
  rw [wrap64_in (x := y * w) (by omega), wrap64_in (by omega)]
  omega
def wallv (w : Int) (l : List Bool) (x y : Int) : Bool := rdOf false l (y * w + x)
theorem wall_eq {w h x y : Int} {l : List Bool} (hr : RightG w h l) (hi : Ins w h x y) : grid_wall.f w h l x y = some (wallv w l x y) := by
  obtain ⟨h1, h2, h3⟩ := place hr hi
  unfold grid_wall.f
  simp only [h1, if_pos h2, if_pos h3, Option.bind_some]
  unfold wallv
  try cases rdOf false l (y * w + x) <;> rfl
end Go.Proofs.Ytljmecjciifceaa.Pure
namespace Go.Proofs.Ytljmecjciifceaa.Pure
open Go.RowKit Go.Proofs.Ytljmecjciifceaa.XSW Go.Proofs.YtljmecjciifceaaW.PrintWords Go.Proofs.YtljmecjciifceaaW.PrintLast Go.Proofs.YtljmecjciifceaaW.PrintMore

def farv (a b : Int) : Int := satv (max a b - min a b)
theorem farv64 (a b : Int) : In64 (farv a b) := satv64 _
theorem far_eq (k : Nat) (a b : Int) (ha : In64 a) (hb : In64 b) : grid_far.f (k + 1) a b = some (farv a b) := by
  unfold grid_far.f
  rw [mx_max, mn_min, sub_eq k _ _ (by omega) (by omega)]
  rfl
def sqv (ax ay bx by_ : Int) : Int := satv (satv (farv ax bx * farv ax bx) + satv (farv ay by_ * farv ay by_))
section
variable (k : Nat) (ax ay bx by_ : Int) (hax : In64 ax) (hay : In64 ay) (hbx : In64 bx) (hby : In64 by_)
include hax hay hbx hby
theorem square_eq : grid_Square.f (k + 1) ax ay bx by_ = some (sqv ax ay bx by_) := by
  unfold grid_Square.f sqv
  rw [far_eq k ax bx hax hbx, far_eq k ay by_ hay hby]
  simp only [Option.bind_some]
  rw [mul_eq _ _ (farv64 _ _) (farv64 _ _), mul_eq _ _ (farv64 _ _) (farv64 _ _)]
  simp only [Option.bind_some]
  rw [add_eq k _ _ (satv64 _) (satv64 _)]
  rfl
end
end Go.Proofs.Ytljmecjciifceaa.Pure
namespace Go.Proofs.Ytljmecjciifceaa.Pure
open Go.RowKit Go.Proofs.Ytljmecjciifceaa.XSW Go.Proofs.YtljmecjciifceaaW.PrintWords Go.Proofs.YtljmecjciifceaaW.PrintLast

abbrev Bx (v : Int) : Prop := 0 ≤ v ∧ v ≤ 255
theorem small_mul {p q : Int} (hp : -255 ≤ p ∧ p ≤ 255) (hq : -255 ≤ q ∧ q ≤ 255) : -65025 ≤ p * q ∧ p * q ≤ 65025 := by
  have key : ∀ p q : Int, 0 ≤ p → p ≤ 255 → 0 ≤ q → q ≤ 255 → 0 ≤ p * q ∧ p * q ≤ 65025 := fun p q h1 h2 h3 h4 =>
    ⟨Int.mul_nonneg h1 h3, by have := Int.mul_le_mul h2 h4 h3 (by decide : (0 : Int) ≤ 255); omega⟩
  rcases Int.lt_or_le p 0 with h | h
  · rcases Int.lt_or_le q 0 with h' | h'
    · have := key (-p) (-q) (by omega) (by omega) (by omega) (by omega)
      rw [Int.neg_mul_neg] at this; omega
    · have := key (-p) q (by omega) (by omega) (by omega) (by omega)
      rw [Int.neg_mul] at this; omega
  · rcases Int.lt_or_le q 0 with h' | h'
    · have := key p (-q) (by omega) (by omega) (by omega) (by omega)
      rw [Int.mul_neg] at this; omega
    · have := key p q (by omega) (by omega) (by omega) (by omega)
      omega
/-- How far beside the line. -/
def nn (ax ay bx by_ x y : Int) : Int := (bx - ax) * (y - ay) - (by_ - ay) * (x - ax)
def lenv (ax ay bx by_ : Int) : Int := max (bx - ax) (ax - bx) + max (by_ - ay) (ay - by_)
/-- The line touches the tile. -/
def TP (ax ay bx by_ x y : Int) : Prop := 2 * max (nn ax ay bx by_ x y) (-(nn ax ay bx by_ x y)) ≤ lenv ax ay bx by_
instance (ax ay bx by_ x y : Int) : Decidable (TP ax ay bx by_ x y) := by unfold TP; infer_instance
theorem reach_eq {ax ay bx by_ : Int} (h1 : Bx ax) (h2 : Bx ay) (h3 : Bx bx) (h4 : Bx by_) : sight_lane_reach.f ax ay bx by_ = some (lenv ax ay bx by_) := by
  unfold sight_lane_reach.f sight_far.f lenv
  simp only [Option.bind_some, mx_max]
  rw [wrap64_in (x := ax - bx) (by omega), wrap64_in (x := bx - ax) (by omega), wrap64_in (x := ay - by_) (by omega), wrap64_in (x := by_ - ay) (by omega), wrap64_in (by omega)]
  congr 1
  omega
theorem beside_eq {ax ay bx by_ x y : Int} (h1 : Bx ax) (h2 : Bx ay) (h3 : Bx bx) (h4 : Bx by_) (h5 : Bx x) (h6 : Bx y) : sight_lane_beside.f ax ay bx by_ x y = some (2 * max (nn ax ay bx by_ x y) (-(nn ax ay bx by_ x y))) := by
  unfold sight_lane_beside.f nn
  have m1 := small_mul (p := bx - ax) (q := y - ay) (by omega) (by omega)
  have m2 := small_mul (p := by_ - ay) (q := x - ax) (by omega) (by omega)
  simp only [mx_max]
  rw [wrap64_in (x := bx - ax) (by omega), wrap64_in (x := y - ay) (by omega), wrap64_in (x := by_ - ay) (by omega), wrap64_in (x := x - ax) (by omega), wrap64_in (x := (bx - ax) * (y - ay)) (by omega), wrap64_in (x := (by_ - ay) * (x - ax)) (by omega),
    wrap64_in (x := (bx - ax) * (y - ay) - (by_ - ay) * (x - ax)) (by omega), wrap64_in (x := -((bx - ax) * (y - ay) - (by_ - ay) * (x - ax))) (by omega), wrap64_in (by omega)]
section
variable (ax ay bx by_ : Int)
/-- A row of the line, from x on: m tiles are left. -/
def rowL (y : Int) : Nat → Int → List (Int × Int)
  | 0, _ => []
  | m + 1, x => if TP ax ay bx by_ x y then (x, y) :: rowL y m (x + 1) else rowL y m (x + 1)
/-- The line, from y on: r rows are left. -/
def lineL (W : Nat) (x0 : Int) : Nat → Int → List (Int × Int)
  | 0, _ => []
  | r + 1, y => rowL ax ay bx by_ y W x0 ++ lineL W x0 r (y + 1)
/-- Behind a tile that is touched and one that is not, none is. -/
theorem row_done {y x1 x2 : Int} (h1 : TP ax ay bx by_ x1 y) (h12 : x1 < x2) (h2 : ¬ TP ax ay bx by_ x2 y) : ∀ (m : Nat) (x : Int), x2 < x → rowL ax ay bx by_ y m x = []
  | 0, _, _ => rfl
  | m + 1, x, hx => by
    rw [rowL, if_neg, row_done h1 h12 h2 m (x + 1) (by omega)]
    intro h3
    apply h2
    unfold TP nn at *
    -- between two that are touched
    generalize (bx - ax) * (y - ay) = c at *
    have e1 : (by_ - ay) * (x2 - ax) = (by_ - ay) * (x1 - ax) + (by_ - ay) * (x2 - x1) := by rw [← Int.mul_add]; congr 1; omega
    have e3 : (by_ - ay) * (x - ax) = (by_ - ay) * (x1 - ax) + (by_ - ay) * (x2 - x1) + (by_ - ay) * (x - x2) := by rw [← Int.mul_add, ← Int.mul_add]; congr 1; omega
    rcases Int.lt_or_le (by_ - ay) 0 with hd | hd
    · have p1 := Int.mul_nonneg_of_nonpos_of_nonpos (by omega : by_ - ay ≤ 0) (by omega : -(x2 - x1) ≤ 0)
      have p2 := Int.mul_nonneg_of_nonpos_of_nonpos (by omega : by_ - ay ≤ 0) (by omega : -(x - x2) ≤ 0)
      rw [Int.mul_neg] at p1 p2
      omega
    · have p1 := Int.mul_nonneg hd (by omega : 0 ≤ x2 - x1)
      have p2 := Int.mul_nonneg hd (by omega : 0 ≤ x - x2)
      omega
end
/-- What is done along a line: step tells whether one goes on. -/
def foldS {σ : Type} (step : σ → Int → Int → Option (Bool × σ)) : List (Int × Int) → σ → Option σ
  | [], s => some s
  | p :: l, s => (step s p.1 p.2).bind fun r => if r.1 = true then foldS step l r.2 else some r.2
/-- The lane's two loops do that along the line. -/
theorem all_fold {σ τ : Type} {ax ay bx by_ : Int} (h1 : Bx ax) (h2 : Bx ay) (h3 : Bx bx) (h4 : Bx by_) (l0 : Nat → Int → σ → Option τ) (l1 : Nat → Int → Bool → Int → σ → Option τ) (fin : σ → τ) (step : σ → Int → Int → Option (Bool × σ)) (I : σ → Prop) (K : Nat)
    (hI : ∀ s x y r, I s → Bx x → Bx y → step s x y = some r → I r.2)
    (e0 : ∀ k y s, min ay by_ ≤ y → y ≤ max ay by_ → l0 (k + 1) y s = l1 k y false (min ax bx) s)
    (e0' : ∀ k y s, y = max ay by_ + 1 → l0 (k + 1) y s = some (fin s))
    (e1 : ∀ k y met x s, K ≤ k → min ay by_ ≤ y → y ≤ max ay by_ → min ax bx ≤ x → x ≤ max ax bx → I s → l1 (k + 1) y met x s = if TP ax ay bx by_ x y then ((step s x y).bind fun r => if r.1 = true then l1 k y true (x + 1) r.2 else some (fin r.2)) else (if met = true then l0 k (y + 1) s else l1 k y false (x + 1) s))
    (e1' : ∀ k y met x s, min ay by_ ≤ y → y ≤ max ay by_ → x = max ax bx + 1 → l1 (k + 1) y met x s = l0 k (y + 1) s) :
    ∀ (r : Nat) (y : Int) (s : σ) (k : Nat), (r : Int) = max ay by_ + 1 - y → min ay by_ ≤ y → K + 300 * r + 2 ≤ k → I s →
      l0 k y s = (foldS step (lineL ax ay bx by_ (max ax bx + 1 - min ax bx).toNat (min ax bx) r y) s).map fin := by
  intro r
  induction r with
  | zero =>
    intro y s k hr hy hk _
    obtain ⟨k, rfl⟩ : ∃ q, k = q + 1 := ⟨k - 1, by omega⟩
    rw [e0' k y s (by omega)]
    rfl
  | succ r ihr =>
    intro y s k hr hy hk hs0
    obtain ⟨k, rfl⟩ : ∃ q, k = q + 1 := ⟨k - 1, by omega⟩
    rw [e0 k y s (by omega) (by omega)]
    have row : ∀ (m : Nat) (x : Int) (met : Bool) (s : σ) (k : Nat), (m : Int) = max ax bx + 1 - x → min ax bx ≤ x → K + 300 * r + 3 + m ≤ k → (met = true → ∃ x1, x1 < x ∧ TP ax ay bx by_ x1 y) → I s →
        l1 k y met x s = (foldS step (rowL ax ay bx by_ y m x ++ lineL ax ay bx by_ (max ax bx + 1 - min ax bx).toNat (min ax bx) r (y + 1)) s).map fin := by
      intro m
      induction m with
      | zero =>
        intro x met s k hm hx hk hmet hs
        obtain ⟨k, rfl⟩ : ∃ q, k = q + 1 := ⟨k - 1, by omega⟩
        rw [e1' k y met x s (by omega) (by omega) (by omega), ihr (y + 1) s k (by omega) (by omega) (by omega) hs]
        rfl
      | succ m ihm =>
        intro x met s k hm hx hk hmet hs
        obtain ⟨k, rfl⟩ : ∃ q, k = q + 1 := ⟨k - 1, by omega⟩
        rw [e1 k y met x s (by omega) (by omega) (by omega) (by omega) (by omega) hs, rowL]
        by_cases ht : TP ax ay bx by_ x y
        · rw [if_pos ht, if_pos ht]
          simp only [List.cons_append, foldS]
          cases hst : step s x y with
          | none => rfl
          | some r' =>
            simp only [Option.bind_some]
            split
            · exact ihm (x + 1) true r'.2 k (by omega) (by omega) (by omega) (fun _ => ⟨x, by omega, ht⟩) (hI s x y r' hs (by omega) (by omega) hst)
            · rfl
        · rw [if_neg ht, if_neg ht]
          by_cases hmt : met = true
          · rw [if_pos hmt]
            obtain ⟨x1, hx1, ht1⟩ := hmet hmt
            rw [row_done ax ay bx by_ ht1 hx1 ht m (x + 1) (by omega), List.nil_append]
            exact ihr (y + 1) s k (by omega) (by omega) (by omega) hs
          · rw [if_neg hmt]
            exact ihm (x + 1) false s k (by omega) (by omega) (by omega) (fun h => by cases h) hs
    rw [row (max ax bx + 1 - min ax bx).toNat (min ax bx) false s k (by omega) (by omega) (by omega) (fun h => by cases h) hs0, lineL]
/-- The line between two tiles. -/
def linev (ax ay bx by_ : Int) : List (Int × Int) := lineL ax ay bx by_ (max ax bx + 1 - min ax bx).toNat (min ax bx) (max ay by_ + 1 - min ay by_).toNat (min ay by_)
theorem rowL_mem {ax ay bx by_ y : Int} {p : Int × Int} : ∀ {m : Nat} {x : Int}, p ∈ rowL ax ay bx by_ y m x ↔ p.2 = y ∧ x ≤ p.1 ∧ p.1 < x + m ∧ TP ax ay bx by_ p.1 p.2
  | 0, x => by simp [rowL]; omega
  | m + 1, x => by
    rw [rowL]
    by_cases ht : TP ax ay bx by_ x y
    · rw [if_pos ht, List.mem_cons, rowL_mem]
      constructor
      · rintro (rfl | ⟨h1, h2, h3, h4⟩)
        · exact ⟨rfl, by simp, by simp; omega, ht⟩
        · exact ⟨h1, by omega, by omega, h4⟩
      · rintro ⟨h1, h2, h3, h4⟩
        rcases Int.lt_or_le x p.1 with h | h
        · exact .inr ⟨h1, by omega, by omega, h4⟩
        · exact .inl (Prod.ext (by omega) h1)
    · rw [if_neg ht, rowL_mem]
      constructor
      · rintro ⟨h1, h2, h3, h4⟩
        exact ⟨h1, by omega, by omega, h4⟩
      · rintro ⟨h1, h2, h3, h4⟩
        refine ⟨h1, ?_, by omega, h4⟩
        rcases Int.lt_or_le x p.1 with h | h
        · omega
        · have : p.1 = x := by omega
          rw [this, h1] at h4
          exact absurd h4 ht
theorem lineL_mem {ax ay bx by_ : Int} {W : Nat} {x0 : Int} {p : Int × Int} : ∀ {r : Nat} {y : Int}, p ∈ lineL ax ay bx by_ W x0 r y ↔ y ≤ p.2 ∧ p.2 < y + r ∧ x0 ≤ p.1 ∧ p.1 < x0 + W ∧ TP ax ay bx by_ p.1 p.2
  | 0, y => by simp [lineL]; omega
  | r + 1, y => by
    rw [lineL, List.mem_append, rowL_mem, lineL_mem]
    constructor
    · rintro (⟨h1, h2, h3, h4⟩ | ⟨h1, h2, h3, h4, h5⟩)
      · exact ⟨by omega, by omega, h2, h3, h4⟩
      · exact ⟨by omega, by omega, h3, h4, h5⟩
    · rintro ⟨h1, h2, h3, h4, h5⟩
      rcases Int.lt_or_le y p.2 with h | h
      · exact .inr ⟨by omega, by omega, h3, h4, h5⟩
      · exact .inl ⟨by omega, h3, h4, h5⟩
theorem linev_mem {ax ay bx by_ : Int} {p : Int × Int} : p ∈ linev ax ay bx by_ ↔ min ay by_ ≤ p.2 ∧ p.2 ≤ max ay by_ ∧ min ax bx ≤ p.1 ∧ p.1 ≤ max ax bx ∧ TP ax ay bx by_ p.1 p.2 := by
  unfold linev
  rw [lineL_mem]
  constructor <;> (rintro ⟨h1, h2, h3, h4, h5⟩; exact ⟨by omega, by omega, by omega, by omega, h5⟩)
theorem rowL_len {ax ay bx by_ y : Int} : ∀ (m : Nat) (x : Int), (rowL ax ay bx by_ y m x).length ≤ m
  | 0, _ => Nat.le_refl _
  | m + 1, x => by
    have := rowL_len (ax := ax) (ay := ay) (bx := bx) (by_ := by_) (y := y) m (x + 1)
    rw [rowL]
    split
    · rw [List.length_cons]; omega
    · omega
theorem lineL_len {ax ay bx by_ : Int} {W : Nat} {x0 : Int} : ∀ (r : Nat) (y : Int), (lineL ax ay bx by_ W x0 r y).length ≤ r * W
  | 0, _ => by simp [lineL]
  | r + 1, y => by
    have h1 := lineL_len (ax := ax) (ay := ay) (bx := bx) (by_ := by_) (W := W) (x0 := x0) r (y + 1)
    have h2 := rowL_len (ax := ax) (ay := ay) (bx := bx) (by_ := by_) (y := y) W x0
    rw [lineL, List.length_append, Nat.add_mul]
    omega
theorem linev_len {ax ay bx by_ : Int} (h1 : Bx ax) (h2 : Bx ay) (h3 : Bx bx) (h4 : Bx by_) : (linev ax ay bx by_).length ≤ 65536 := by
  have := lineL_len (ax := ax) (ay := ay) (bx := bx) (by_ := by_) (W := (max ax bx + 1 - min ax bx).toNat) (x0 := min ax bx) (max ay by_ + 1 - min ay by_).toNat (min ay by_)
  have h5 : (max ay by_ + 1 - min ay by_).toNat * (max ax bx + 1 - min ax bx).toNat ≤ 256 * 256 := Nat.mul_le_mul (by omega) (by omega)
  unfold linev
  omega
end Go.Proofs.Ytljmecjciifceaa.Pure
namespace Go.Proofs.Ytljmecjciifceaa.Pure
open Go.RowKit Go.Proofs.Ytljmecjciifceaa.XSW Go.Proofs.YtljmecjciifceaaW.PrintWords Go.Proofs.YtljmecjciifceaaW.PrintLast

def toS (p : Int × Int) : S26 := ⟨p.1, p.2⟩
theorem rg_box {w h x y : Int} {l : List Bool} (hr : RightG w h l) (hi : Ins w h x y) : Bx x ∧ Bx y := by
  obtain ⟨r1, r2, r3, r4, r5⟩ := hr
  unfold Ins at hi
  omega
theorem ins_between {w h ax ay bx by_ x y : Int} (ha : Ins w h ax ay) (hb : Ins w h bx by_) (h1 : min ax bx ≤ x) (h2 : x ≤ max ax bx) (h3 : min ay by_ ≤ y) (h4 : y ≤ max ay by_) : Ins w h x y := by
  unfold Ins at *
  omega
theorem between_eq (w h : Int) (l : List Bool) (ax ay bx by_ : Int) : sight_between.f w h l ax ay bx by_ = some (ax, ay, bx, by_, decide (RightG w h l ∧ Ins w h ax ay ∧ Ins w h bx by_)) := by
  unfold sight_between.f
  rw [in_eq, in_eq]
  simp only [Option.bind_some]
  by_cases h1 : RightG w h l ∧ Ins w h ax ay
  · rw [decide_eq_true h1, if_pos rfl]
    congr 5
    rw [decide_eq_decide]
    exact ⟨fun h => ⟨h.1, h1.2, h.2⟩, fun h => ⟨h.1, h.2.2⟩⟩
  · rw [decide_eq_false h1, if_neg (by decide)]
    congr 5
    symm
    rw [decide_eq_false_iff_not]
    exact fun h => h1 ⟨h.1, h.2.1⟩
theorem fold_line : ∀ (l : List (Int × Int)) (s : List S26), s.length + l.length < 8796093022208 → foldS (fun s x y => sight_Line_1_i1.f x y s) l s = some (s ++ l.map toS)
  | [], s, _ => by simp [foldS]
  | p :: l, s, h => by
    rw [List.length_cons] at h
    have e : sight_Line_1_i1.f p.1 p.2 s = some (true, s ++ [toS p]) := by
      unfold sight_Line_1_i1.f
      simp only [Option.bind_some, List.length_cons, List.length_nil]
      rw [if_pos (by omega)]
      rfl
    unfold foldS
    rw [e]
    simp only [Option.bind_some, if_true]
    rw [fold_line l _ (by rw [List.length_append]; simp; omega)]
    simp [toS]
theorem line_eq (w h : Int) (l : List Bool) (ax ay bx by_ : Int) (k : Nat) (hk : 80000 ≤ k) : sight_Line.f k w h l ax ay bx by_ = some (if RightG w h l ∧ Ins w h ax ay ∧ Ins w h bx by_ then (linev ax ay bx by_).map toS else []) := by
  unfold sight_Line.f
  rw [between_eq]
  simp only [Option.bind_some]
  by_cases hc : RightG w h l ∧ Ins w h ax ay ∧ Ins w h bx by_
  · rw [decide_eq_true hc, if_pos rfl, if_pos hc]
    obtain ⟨hr, ha, hb⟩ := hc
    obtain ⟨h1, h2⟩ := rg_box hr ha
    obtain ⟨h3, h4⟩ := rg_box hr hb
    unfold sight_lane_all_i2.f
    rw [reach_eq h1 h2 h3 h4, mn_min]
    simp only [Option.bind_some]
    have := all_fold h1 h2 h3 h4 (fun k y s => sight_lane_all_i2.l0 k ax ay bx by_ (lenv ax ay bx by_) y s) (fun k y met x s => sight_lane_all_i2.l1 k ax ay bx by_ (lenv ax ay bx by_) y met x s) id (fun s x y => sight_Line_1_i1.f x y s) (fun _ => True) 0 (fun _ _ _ _ _ _ _ _ => trivial)
      (fun k y s hy1 hy2 => by simp only [sight_lane_all_i2.l0, Option.bind_some, mx_max, mn_min]; rw [if_pos hy2])
      (fun k y s hy => by simp only [sight_lane_all_i2.l0, Option.bind_some, mx_max, mn_min]; rw [if_neg (by omega)]; rfl)
      (fun k y met x s _ hy1 hy2 hx1 hx2 _ => by
        simp only [sight_lane_all_i2.l1, Option.bind_some, mx_max]
        rw [if_pos hx2, beside_eq h1 h2 h3 h4 (by omega) (by omega)]
        simp only [Option.bind_some]
        rw [wrap64_in (x := x + 1) (by omega), wrap64_in (x := y + 1) (by omega)]
        rfl)
      (fun k y met x s hy1 hy2 hx => by
        simp only [sight_lane_all_i2.l1, Option.bind_some, mx_max]
        rw [if_neg (by omega), wrap64_in (x := y + 1) (by omega)])
      (max ay by_ + 1 - min ay by_).toNat (min ay by_) ([] : List S26) k (by omega) (by omega) (by omega) trivial
    have hl := linev_len h1 h2 h3 h4
    unfold linev at hl
    rw [this, fold_line _ _ (by simp only [List.length_nil]; omega)]
    simp [linev]
  · rw [decide_eq_false hc, if_neg (by decide), if_neg hc]
/-- A wall that stands between. -/
def wb (w : Int) (l : List Bool) (ax ay bx by_ x y : Int) : Bool := !(x == ax && y == ay) && !(x == bx && y == by_) && wallv w l x y
theorem walls_eq {w h : Int} {l : List Bool} {ax ay bx by_ x y : Int} (hr : RightG w h l) (hi : Ins w h x y) : sight_lane_walls_1_i1.f x y ax ay bx by_ w h l = some (wb w l ax ay bx by_ x y, ax, ay, bx, by_, w, h) := by
  obtain ⟨p1, p2, p3⟩ := place hr hi
  unfold sight_lane_walls_1_i1.f wb
  by_cases h1 : x = ax ∧ y = ay
  · simp [h1.1, h1.2]
  · have e1 : (x == ax && y == ay) = false := by simp; omega
    have e1' : (!(x == ax) || !(y == ay)) = true := by simp; omega
    rw [e1']
    by_cases h2 : x = bx ∧ y = by_
    · simp [h2.1, h2.2]
    · have e2 : (x == bx && y == by_) = false := by simp; omega
      have e2' : (!(x == bx) || !(y == by_)) = true := by simp; omega
      rw [e2', e1, e2, p1]
      simp only [if_true, Option.bind_some, if_pos p2, if_pos p3, wallv]
      cases rdOf false l (y * w + x) <;> rfl
/-- The nearest wall so far: found, and where. -/
def fstep (w : Int) (l : List Bool) (ax ay bx by_ : Int) (s : Bool × Int × Int) (x y : Int) : Option (Bool × (Bool × Int × Int)) :=
  some (true, if wb w l ax ay bx by_ x y = true ∧ (s.1 = false ∨ sqv ax ay x y < sqv ax ay s.2.1 s.2.2) then (true, x, y) else s)
def sstep (w : Int) (l : List Bool) (ax ay bx by_ : Int) (s : Bool) (x y : Int) : Option (Bool × Bool) := some (!wb w l ax ay bx by_ x y, !wb w l ax ay bx by_ x y)
theorem first1_eq {w h : Int} {l : List Bool} {ax ay bx by_ x y : Int} (hr : RightG w h l) (hi : Ins w h x y) (ha : Ins w h ax ay) (fo : Bool) (fx fy : Int) (hx : In64 fx) (hy : In64 fy) (k : Nat) (hk : 1 ≤ k) :
    sight_First_1_i1.f k x y ax ay bx by_ w h l fo ax ay fx fy = (fstep w l ax ay bx by_ (fo, fx, fy) x y).map fun r => (r.1, ax, ay, bx, by_, w, h, r.2.1, ax, ay, r.2.2.1, r.2.2.2) := by
  obtain ⟨k, rfl⟩ : ∃ q, k = q + 1 := ⟨k - 1, by omega⟩
  obtain ⟨h1, h2⟩ := rg_box hr hi
  obtain ⟨h3, h4⟩ := rg_box hr ha
  unfold sight_First_1_i1.f fstep
  rw [walls_eq hr hi]
  simp only [Option.bind_some, Option.map_some]
  rw [square_eq k ax ay x y (by omega) (by omega) (by omega) (by omega), square_eq k ax ay fx fy (by omega) (by omega) hx hy]
  simp only [Option.bind_some]
  cases wb w l ax ay bx by_ x y <;> cases fo <;> simp
  split <;> rfl
def firstv (w : Int) (l : List Bool) (ax ay bx by_ : Int) : Option (Bool × Int × Int) := foldS (fstep w l ax ay bx by_) (linev ax ay bx by_) (false, 0, 0)
theorem first_eq (w h : Int) (l : List Bool) (ax ay bx by_ : Int) (k : Nat) (hk : 80000 ≤ k) : sight_First.f k w h l ax ay bx by_ = if RightG w h l ∧ Ins w h ax ay ∧ Ins w h bx by_ then (firstv w l ax ay bx by_).map (fun s => (s.2.1, s.2.2, s.1)) else some (0, 0, false) := by
  unfold sight_First.f
  rw [between_eq]
  simp only [Option.bind_some]
  by_cases hc : RightG w h l ∧ Ins w h ax ay ∧ Ins w h bx by_
  · rw [decide_eq_true hc, if_pos rfl, if_pos hc]
    obtain ⟨hr, ha, hb⟩ := hc
    obtain ⟨h1, h2⟩ := rg_box hr ha
    obtain ⟨h3, h4⟩ := rg_box hr hb
    unfold sight_lane_walls.f sight_lane_all_i1.f
    simp only [Option.bind_some]
    rw [reach_eq h1 h2 h3 h4, mn_min]
    simp only [Option.bind_some]
    have := all_fold h1 h2 h3 h4 (fun k y (s : Bool × Int × Int) => sight_lane_all_i1.l0 k ax ay bx by_ l (lenv ax ay bx by_) y ax ay bx by_ w h s.1 ax ay s.2.1 s.2.2) (fun k y met x (s : Bool × Int × Int) => sight_lane_all_i1.l1 k ax ay bx by_ l (lenv ax ay bx by_) y met x ax ay bx by_ w h s.1 ax ay s.2.1 s.2.2)
      (fun s => (ax, ay, bx, by_, w, h, s.1, ax, ay, s.2.1, s.2.2)) (fstep w l ax ay bx by_) (fun s => In64 s.2.1 ∧ In64 s.2.2) 1
      (fun s x y r hs hx hy hst => by
        unfold fstep at hst
        injection hst with hst
        subst hst
        dsimp only
        split
        · exact ⟨by dsimp only; omega, by dsimp only; omega⟩
        · exact hs)
      (fun k y s hy1 hy2 => by simp only [sight_lane_all_i1.l0, Option.bind_some, mx_max, mn_min]; rw [if_pos hy2])
      (fun k y s hy => by simp only [sight_lane_all_i1.l0, Option.bind_some, mx_max, mn_min]; rw [if_neg (by omega)])
      (fun k y met x s hK hy1 hy2 hx1 hx2 hs => by
        simp only [sight_lane_all_i1.l1, Option.bind_some, mx_max]
        rw [if_pos hx2, beside_eq h1 h2 h3 h4 (by omega) (by omega)]
        simp only [Option.bind_some]
        rw [wrap64_in (x := x + 1) (by omega), wrap64_in (x := y + 1) (by omega), first1_eq hr (ins_between ha hb hx1 hx2 hy1 hy2) ha s.1 s.2.1 s.2.2 hs.1 hs.2 k hK]
        cases hst : fstep w l ax ay bx by_ (s.1, s.2.1, s.2.2) x y with
        | none => simp only [Option.map_none, Option.bind_none]; rfl
        | some r => simp only [Option.map_some, Option.bind_some]; rfl)
      (fun k y met x s hy1 hy2 hx => by
        simp only [sight_lane_all_i1.l1, Option.bind_some, mx_max]
        rw [if_neg (by omega), wrap64_in (x := y + 1) (by omega)])
      (max ay by_ + 1 - min ay by_).toNat (min ay by_) (false, 0, 0) k (by omega) (by omega) (by omega) ⟨by dsimp only; omega, by dsimp only; omega⟩
    rw [this]
    unfold firstv linev
    cases foldS (fstep w l ax ay bx by_) (lineL ax ay bx by_ (max ax bx + 1 - min ax bx).toNat (min ax bx) (max ay by_ + 1 - min ay by_).toNat (min ay by_)) (false, 0, 0) <;> rfl
  · rw [decide_eq_false hc, if_neg (by decide), if_neg hc]
theorem sees1_eq {w h : Int} {l : List Bool} {ax ay bx by_ x y : Int} (hr : RightG w h l) (hi : Ins w h x y) (s : Bool) :
    sight_Sees_1_i1.f x y ax ay bx by_ w h l s = (sstep w l ax ay bx by_ s x y).map fun r => (r.1, ax, ay, bx, by_, w, h, r.2) := by
  unfold sight_Sees_1_i1.f sstep
  rw [walls_eq hr hi]
  simp only [Option.bind_some, Option.map_some]
  cases wb w l ax ay bx by_ x y <;> rfl
def seesv (w : Int) (l : List Bool) (ax ay bx by_ : Int) : Option Bool := foldS (sstep w l ax ay bx by_) (linev ax ay bx by_) true
theorem sees_eq (w h : Int) (l : List Bool) (ax ay bx by_ : Int) (k : Nat) (hk : 80000 ≤ k) : sight_Sees.f k w h l ax ay bx by_ = if RightG w h l ∧ Ins w h ax ay ∧ Ins w h bx by_ then seesv w l ax ay bx by_ else some false := by
  unfold sight_Sees.f
  rw [between_eq]
  simp only [Option.bind_some]
  by_cases hc : RightG w h l ∧ Ins w h ax ay ∧ Ins w h bx by_
  · rw [decide_eq_true hc, if_pos rfl, if_pos hc]
    obtain ⟨hr, ha, hb⟩ := hc
    obtain ⟨h1, h2⟩ := rg_box hr ha
    obtain ⟨h3, h4⟩ := rg_box hr hb
    unfold sight_lane_walls.f sight_lane_all_i3.f
    simp only [Option.bind_some]
    rw [reach_eq h1 h2 h3 h4, mn_min]
    simp only [Option.bind_some]
    have := all_fold h1 h2 h3 h4 (fun k y (s : Bool) => sight_lane_all_i3.l0 k ax ay bx by_ l (lenv ax ay bx by_) y ax ay bx by_ w h s) (fun k y met x (s : Bool) => sight_lane_all_i3.l1 k ax ay bx by_ l (lenv ax ay bx by_) y met x ax ay bx by_ w h s)
      (fun s => (ax, ay, bx, by_, w, h, s)) (sstep w l ax ay bx by_) (fun s => True) 0 (fun _ _ _ _ _ _ _ _ => trivial)
      (fun k y s hy1 hy2 => by simp only [sight_lane_all_i3.l0, Option.bind_some, mx_max, mn_min]; rw [if_pos hy2])
      (fun k y s hy => by simp only [sight_lane_all_i3.l0, Option.bind_some, mx_max, mn_min]; rw [if_neg (by omega)])
      (fun k y met x s hK hy1 hy2 hx1 hx2 hs => by
        simp only [sight_lane_all_i3.l1, Option.bind_some, mx_max]
        rw [if_pos hx2, beside_eq h1 h2 h3 h4 (by omega) (by omega)]
        simp only [Option.bind_some]
        rw [wrap64_in (x := x + 1) (by omega), wrap64_in (x := y + 1) (by omega), sees1_eq hr (ins_between ha hb hx1 hx2 hy1 hy2) s]
        cases hst : sstep w l ax ay bx by_ s x y with
        | none => simp only [Option.map_none, Option.bind_none]; rfl
        | some r => simp only [Option.map_some, Option.bind_some]; rfl)
      (fun k y met x s hy1 hy2 hx => by
        simp only [sight_lane_all_i3.l1, Option.bind_some, mx_max]
        rw [if_neg (by omega), wrap64_in (x := y + 1) (by omega)])
      (max ay by_ + 1 - min ay by_).toNat (min ay by_) true k (by omega) (by omega) (by omega) trivial
    rw [this]
    unfold seesv linev
    cases foldS (sstep w l ax ay bx by_) (lineL ax ay bx by_ (max ax bx + 1 - min ax bx).toNat (min ax bx) (max ay by_ + 1 - min ay by_).toNat (min ay by_)) true <;> rfl
  · rw [decide_eq_false hc, if_neg (by decide), if_neg hc]
/-- One sees just if no wall stands on the line. -/
theorem sees_all (w : Int) (l : List Bool) (ax ay bx by_ : Int) : ∀ (L : List (Int × Int)), foldS (sstep w l ax ay bx by_) L true = some (L.all fun p => !wb w l ax ay bx by_ p.1 p.2)
  | [] => rfl
  | p :: L => by
    unfold foldS
    simp only [sstep, Option.bind_some, List.all_cons]
    cases hw : wb w l ax ay bx by_ p.1 p.2
    · simpa using sees_all w l ax ay bx by_ L
    · simp
theorem first_found (w : Int) (l : List Bool) (ax ay bx by_ : Int) : ∀ (L : List (Int × Int)) (s : Bool × Int × Int), ∃ r, foldS (fstep w l ax ay bx by_) L s = some r ∧ (r.1 = true ↔ s.1 = true ∨ ∃ p ∈ L, wb w l ax ay bx by_ p.1 p.2 = true) ∧ (r.1 = true → r = s ∨ (r.2 ∈ L ∧ wb w l ax ay bx by_ r.2.1 r.2.2 = true)) ∧ (r.1 = false → r = s)
  | [], s => ⟨s, rfl, by simp, fun _ => .inl rfl, fun _ => rfl⟩
  | p :: L, s => by
    unfold foldS
    simp only [fstep, Option.bind_some, if_true]
    obtain ⟨r, h1, h2, h3, h4⟩ := first_found w l ax ay bx by_ L (if wb w l ax ay bx by_ p.1 p.2 = true ∧ (s.1 = false ∨ sqv ax ay p.1 p.2 < sqv ax ay s.2.1 s.2.2) then (true, p.1, p.2) else s)
    refine ⟨r, h1, ?_, ?_, ?_⟩
    · rw [h2]
      by_cases hw : wb w l ax ay bx by_ p.1 p.2 = true
      · by_cases hs : s.1 = false
        · simp [hw, hs]
        · have : s.1 = true := by simpa using hs
          rw [this]
          split <;> simp [this]
      · simp [hw]
    · intro hr
      rcases h3 hr with h | ⟨h, h'⟩
      · split at h
        · rename_i hc
          right
          rw [h]
          exact ⟨by simp, hc.1⟩
        · exact .inl h
      · exact .inr ⟨List.mem_cons_of_mem _ h, h'⟩
    · intro hr
      have := h4 hr
      split at this
      · rw [this] at hr; cases hr
      · exact this
end Go.Proofs.Ytljmecjciifceaa.Pure
namespace Go.Proofs.Ytljmecjciifceaa.Pure
open Go.RowKit Go.Proofs.Ytljmecjciifceaa.XSW Go.Proofs.YtljmecjciifceaaW.PrintWords Go.Proofs.YtljmecjciifceaaW.PrintLast

section
variable {ax ay bx by_ : Int} (h1 : Bx ax) (h2 : Bx ay) (h3 : Bx bx) (h4 : Bx by_)
include h1 h2 h3 h4
end
theorem rd_map (L : List (Int × Int)) (i : Nat) (p : Int × Int) (h : L[i]? = some p) : rd_T26 (L.map toS) (i : Int) = toS p := by
  unfold rd_T26
  rw [Int.toNat_natCast, List.getD_eq_getElem?_getD, List.getElem?_map, h]
  rfl
end Go.Proofs.Ytljmecjciifceaa.Pure
namespace Go.Proofs.Ytljmecjciifceaa.Pure
open Go.RowKit Go.Proofs.Ytljmecjciifceaa.XSW Go.Proofs.YtljmecjciifceaaW.PrintWords Go.Proofs.YtljmecjciifceaaW.PrintLast

theorem small_ev : Ev (fun k => barrowlaw07_small.f k = some true) := Ev.of barrowlaw07_small.mono (K := 60) (by decide +kernel)
theorem line_self (ax ay bx by_ : Int) : (ax, ay) ∈ linev ax ay bx by_ := by
  rw [linev_mem]
  refine ⟨by dsimp only; omega, by dsimp only; omega, by dsimp only; omega, by dsimp only; omega, ?_⟩
  unfold TP nn lenv
  dsimp only
  rw [Int.sub_self ax, Int.sub_self ay, Int.mul_zero, Int.mul_zero]
  omega
/-- A wall stands between. -/
def foundv (w : Int) (l : List Bool) (ax ay bx by_ : Int) : Bool := (linev ax ay bx by_).any fun p => wb w l ax ay bx by_ p.1 p.2
theorem seesv_eq (w : Int) (l : List Bool) (ax ay bx by_ : Int) : seesv w l ax ay bx by_ = some (!foundv w l ax ay bx by_) := by
  unfold seesv foundv
  rw [sees_all, List.not_any_eq_all_not]
theorem firstv_eq (w : Int) (l : List Bool) (ax ay bx by_ : Int) : ∃ r, firstv w l ax ay bx by_ = some r ∧ r.1 = foundv w l ax ay bx by_ ∧ (r.1 = true → r.2 ∈ linev ax ay bx by_ ∧ wb w l ax ay bx by_ r.2.1 r.2.2 = true) := by
  obtain ⟨r, h1, h2, h3, h4⟩ := first_found w l ax ay bx by_ (linev ax ay bx by_) (false, 0, 0)
  refine ⟨r, h1, ?_, ?_⟩
  · rw [Bool.eq_iff_iff, h2]
    unfold foundv
    simp
  · intro hr
    rcases h3 hr with h | h
    · rw [h] at hr; cases hr
    · exact h
theorem sees_eq' (w h : Int) (l : List Bool) (ax ay bx by_ : Int) (k : Nat) (hk : 80000 ≤ k) : sight_Sees.f k w h l ax ay bx by_ = if RightG w h l ∧ Ins w h ax ay ∧ Ins w h bx by_ then some (!foundv w l ax ay bx by_) else some false := by
  rw [sees_eq w h l ax ay bx by_ k hk, seesv_eq]
end Go.Proofs.Ytljmecjciifceaa.Pure
namespace Go.Proofs.Ytljmecjciifceaa.Pure
open Go.RowKit Go.Proofs.Ytljmecjciifceaa.XSW Go.Proofs.YtljmecjciifceaaW.PrintWords Go.Proofs.YtljmecjciifceaaW.PrintLast

theorem has_l0 (L : List (Int × Int)) (x y : Int) (hl : L.length ≤ 65536) : ∀ (n i k : Nat), i + n = L.length → n < k → barrowlaw07_has.l0 k (L.map toS) i x y = some (decide ((x, y) ∈ L.drop i)) := by
  intro n
  induction n with
  | zero =>
    intro i k hn hk
    obtain ⟨k, rfl⟩ : ∃ q, k = q + 1 := ⟨k - 1, by omega⟩
    rw [barrowlaw07_has.l0, List.length_map, if_neg (by omega), List.drop_eq_nil_of_le (by omega)]
    simp
  | succ n ih =>
    intro i k hn hk
    obtain ⟨k, rfl⟩ : ∃ q, k = q + 1 := ⟨k - 1, by omega⟩
    have hg : L[i]? = some L[i] := List.getElem?_eq_getElem (by omega)
    rw [barrowlaw07_has.l0, List.length_map, if_pos (by omega), if_pos (by omega), rd_map L i _ hg, List.drop_eq_getElem_cons (by omega : i < L.length)]
    have := ih (i + 1) k (by omega) (by omega)
    rw [wrap64_in (by omega)]
    by_cases h : (toS L[i]).f0 = x ∧ (toS L[i]).f1 = y
    · have e : (x, y) = L[i] := by rw [← h.1, ← h.2]; rfl
      rw [if_pos (by simp [h.1, h.2]), ← e]
      simp
    · rw [if_neg (by simpa using h), show ((i : Int) + 1) = ((i + 1 : Nat) : Int) by omega, this]
      congr 1
      rw [decide_eq_decide, List.mem_cons]
      constructor
      · exact .inr
      · rintro (h' | h')
        · exact absurd ⟨by rw [← h']; rfl, by rw [← h']; rfl⟩ h
        · exact h'
theorem has_eq (L : List (Int × Int)) (x y : Int) (hl : L.length ≤ 65536) (k : Nat) (hk : 70000 ≤ k) : barrowlaw07_has.f k (L.map toS) x y = some (decide ((x, y) ∈ L)) := by
  unfold barrowlaw07_has.f
  have := has_l0 L x y hl L.length 0 k (by omega) (by omega)
  simpa using this
section
variable (P : Int → Prop) [DecidablePred P]
variable {P}
end
section
variable (P : Int → Int → Prop) [∀ x y, Decidable (P x y)]
variable {P}
end
end Go.Proofs.Ytljmecjciifceaa.Pure
