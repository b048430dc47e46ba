/- Grid: right grids, tiles inside them, and where one comes who walks. -/
import Derived.Test.YtoalpmfkaijomaaGrA0
import Derived.Test.YtoalpmfkaijomaaXGNx2
import Derived.Test.YtoalpmfkaijomaaXGRx3
import Derived.Test.YtoalpmfkaijomaaXGRx4
set_option linter.unusedSimpArgs false
set_option linter.unusedVariables false
namespace Go.Proofs.Ytoalpmfkaijomaa.Pure
open Go.RowKit Go.Proofs.Ytoalpmfkaijomaa.XGR Go.Proofs.Ytoalpmfkaijomaa.XGN Go.Proofs.YtoalpmfkaijomaaW.PrintWords Go.Proofs.YtoalpmfkaijomaaW.PrintLast Go.Proofs.YtoalpmfkaijomaaW.PrintMore Go.Proofs.YtoalpmfkaijomaaTo

def RightG (w h : Int) (l : List Bool) : Prop := 1 ≤ w ∧ w ≤ 256 ∧ 1 ≤ h ∧ h ≤ 256 ∧ (l.length : Int) = w * h
instance (w h : Int) (l : List Bool) : Decidable (RightG w h l) := by unfold RightG; infer_instance
def Ins (w h x y : Int) : Prop := 0 ≤ x ∧ x < w ∧ 0 ≤ y ∧ y < h
instance (w h x y : Int) : Decidable (Ins w h x y) := by unfold Ins; infer_instance
theorem wrap64_in {x : Int} (h : In64 x) : wrap64 x = x := by unfold wrap64; omega
theorem mul_small {w h : Int} (h1 : 1 ≤ w) (h2 : w ≤ 256) (h3 : 1 ≤ h) (h4 : h ≤ 256) : 1 ≤ w * h ∧ w * h ≤ 65536 := by
  have a1 := Int.mul_le_mul h1 h3 (by decide : (0 : Int) ≤ 1) (by omega)
  have a2 := Int.mul_le_mul h2 h4 (by omega) (by decide : (0 : Int) ≤ 256)
  omega
theorem right_eq (w h : Int) (l : List Bool) : grid_Right.f w h l = some (decide (RightG w h l)) := by
  unfold grid_Right.f grid_Right_1.f
  by_cases h1 : w ≥ 1
  · rw [if_pos h1]
    by_cases h2 : w ≤ 256
    · rw [decide_eq_true h2]
      simp only [Option.bind_some, if_true]
      by_cases h3 : h ≥ 1
      · rw [if_pos h3]
        by_cases h4 : h ≤ 256
        · rw [decide_eq_true h4]
          simp only [Option.bind_some, if_true]
          have := mul_small h1 h2 h3 h4
          rw [wrap64_in (by omega)]
          congr 1
          rw [Bool.eq_iff_iff]
          simp only [beq_iff_eq, decide_eq_true_eq]
          unfold RightG
          omega
        · rw [decide_eq_false h4]
          simp only [Option.bind_some, Bool.false_eq_true, if_false]
          congr 1; symm; rw [decide_eq_false_iff_not]; unfold RightG; omega
      · rw [if_neg h3]
        simp only [Option.bind_some, Bool.false_eq_true, if_false]
        congr 1; symm; rw [decide_eq_false_iff_not]; unfold RightG; omega
    · rw [decide_eq_false h2]
      simp only [Option.bind_some, Bool.false_eq_true, if_false]
      congr 1; symm; rw [decide_eq_false_iff_not]; unfold RightG; omega
  · rw [if_neg h1]
    simp only [Option.bind_some, Bool.false_eq_true, if_false]
    congr 1; symm; rw [decide_eq_false_iff_not]; unfold RightG; omega
theorem inside_eq (w h : Int) (l : List Bool) (x y : Int) : grid_inside.f w h l x y = some (decide (Ins w h x y)) := by
  unfold grid_inside.f
  by_cases c : Ins w h x y
  · rw [decide_eq_true c]
    unfold Ins at c
    (repeat' split) <;> first | rfl | (exfalso; omega) | (congr 1; rw [decide_eq_true_eq]; omega)
  · rw [decide_eq_false c]
    unfold Ins at c
    (repeat' split) <;> first | rfl | (exfalso; omega) | (congr 1; rw [decide_eq_false_iff_not]; omega)
theorem in_eq (w h : Int) (l : List Bool) (x y : Int) : grid_In.f w h l x y = some (decide (RightG w h l ∧ Ins w h x y)) := by
  unfold grid_In.f
  rw [right_eq, inside_eq]
  simp only [Option.bind_some]
  by_cases h1 : RightG w h l
  · rw [decide_eq_true h1, if_pos rfl]; congr 1; rw [decide_eq_decide]; simp [h1]
  · rw [decide_eq_false h1, if_neg (by decide)]; congr 1; symm; rw [decide_eq_false_iff_not]; exact fun h => h1 h.1
/-- The place of a tile. -/
theorem place {w h x y : Int} {l : List Bool} (hr : RightG w h l) (hi : Ins w h x y) : wrap64 (wrap64 (y * w) + x) = y * w + x ∧ 0 ≤ y * w + x ∧ y * w + x < (l.length : Int) := by
  obtain ⟨r1, r2, r3, r4, r5⟩ := hr
  obtain ⟨i1, i2, i3, i4⟩ := hi
  have m1 := Int.mul_nonneg i3 (by omega : (0 : Int) ≤ w)
  have m2 : (y + 1) * w ≤ h * w := Int.mul_le_mul_of_nonneg_right (by omega) (by omega)
  rw [Int.add_mul] at m2
  have m3 := Int.mul_comm h w
  have m4 := mul_small r1 r2 r3 r4
  rw [wrap64_in (x := y * w) (by omega), wrap64_in (by omega)]
  omega
def wallv (w : Int) (l : List Bool) (x y : Int) : Bool := rdOf false l (y * w + x)
theorem wall_eq {w h x y : Int} {l : List Bool} (hr : RightG w h l) (hi : Ins w h x y) : grid_wall.f w h l x y = some (wallv w l x y) := by
  obtain ⟨h1, h2, h3⟩ := place hr hi
  unfold grid_wall.f
  rw [h1, if_pos h2, if_pos h3]
  rfl
/-- One step nearer. -/
def stp (a b : Int) : Int := if a < b then a + 1 else if a > b then a - 1 else a
theorem step1_eq {a b : Int} (h1 : 0 ≤ a) (h2 : a < 256) (h3 : 0 ≤ b) (h4 : b < 256) : step1 a b = stp a b := by
  unfold step1 cmpI stp
  (repeat' split) <;> (rw [wrap64_in (by omega)]) <;> omega
theorem stp_ins {w h x y bx by_ : Int} (h1 : Ins w h x y) (h2 : Ins w h bx by_) : Ins w h (stp x bx) (stp y by_) := by
  unfold Ins stp at *
  (repeat' split) <;> omega
/-- Where one comes, who walks: d is more than the ways to go. -/
def walkv (w : Int) (l : List Bool) (bx by_ : Int) : Nat → Int → Int → Int → Int × Int
  | 0, x, y, _ => (x, y)
  | d + 1, x, y, n => if x = bx ∧ y = by_ then (x, y) else if n ≤ 0 then (x, y) else if wallv w l (stp x bx) (stp y by_) = true then (x, y) else walkv w l bx by_ d (stp x bx) (stp y by_) (n - 1)
def dist (x y bx by_ : Int) : Nat := (max (max x bx - min x bx) (max y by_ - min y by_)).toNat
theorem dist_stp {x y bx by_ : Int} (h : ¬ (x = bx ∧ y = by_)) : dist (stp x bx) (stp y by_) bx by_ + 1 = dist x y bx by_ := by
  unfold dist stp
  (repeat' split) <;> omega
theorem dist_zero {x y bx by_ : Int} (h : dist x y bx by_ = 0) : x = bx ∧ y = by_ := by unfold dist at h; omega
theorem towardL_eq {w h : Int} {l : List Bool} (hr : RightG w h l) {bx by_ : Int} (hb : Ins w h bx by_) : ∀ (d k : Nat) (x y n : Int), dist x y bx by_ ≤ d → d < k → Ins w h x y → In64 n → towardL k w h l bx by_ x y n = some (walkv w l bx by_ d x y n) := by
  intro d
  induction d with
  | zero =>
    intro k x y n hd hk hi hn
    obtain ⟨k, rfl⟩ : ∃ q, k = q + 1 := ⟨k - 1, by omega⟩
    rw [towardL, if_pos (dist_zero (by omega))]
    rfl
  | succ d ih =>
    intro k x y n hd hk hi hn
    obtain ⟨k, rfl⟩ : ∃ q, k = q + 1 := ⟨k - 1, by omega⟩
    rw [towardL, walkv]
    by_cases he : x = bx ∧ y = by_
    · rw [if_pos he, if_pos he]
    · rw [if_neg he, if_neg he]
      by_cases hn0 : n ≤ 0
      · rw [if_pos hn0, if_pos hn0]
      · rw [if_neg hn0, if_neg hn0]
        have r2 := hr.2.1
        have r4 := hr.2.2.2.1
        have hi' := hi
        have hb' := hb
        unfold Ins at hi' hb'
        rw [step1_eq (by omega) (by omega) (by omega) (by omega), step1_eq (by omega) (by omega) (by omega) (by omega)]
        have hs := stp_ins hi hb
        rw [wall_eq hr hs, Option.bind_some]
        split
        · rfl
        · rw [wrap64_in (by omega)]
          have := dist_stp he
          exact ih k _ _ _ (by omega) (by omega) hs (by omega)
theorem dist_le {w h x y bx by_ : Int} {l : List Bool} (hr : RightG w h l) (hi : Ins w h x y) (hb : Ins w h bx by_) : dist x y bx by_ ≤ 256 := by
  obtain ⟨r1, r2, r3, r4, r5⟩ := hr
  unfold Ins at hi hb
  unfold dist
  omega
def towv (w h : Int) (l : List Bool) (x y bx by_ n : Int) : Int × Int := if RightG w h l ∧ Ins w h x y ∧ Ins w h bx by_ then walkv w l bx by_ 256 x y n else (x, y)
theorem toward_eq (k : Nat) (hk : 256 < k) (w h : Int) (l : List Bool) (x y bx by_ n : Int) (hn : In64 n) : grid_Toward.f k w h l x y bx by_ n = some (towv w h l x y bx by_ n) := by
  unfold grid_Toward.f towardF towv
  rw [in_eq, inside_eq]
  simp only [Option.bind_some]
  by_cases h1 : RightG w h l ∧ Ins w h x y
  · rw [decide_eq_true h1, if_pos rfl]
    by_cases h2 : Ins w h bx by_
    · rw [decide_eq_true h2, if_pos rfl, if_pos ⟨h1.1, h1.2, h2⟩]
      exact towardL_eq h1.1 h2 256 k x y n (dist_le h1.1 h1.2 h2) hk h1.2 hn
    · rw [decide_eq_false h2, if_neg (by decide), if_neg (fun h => h2 h.2.2)]
  · rw [decide_eq_false h1, if_neg (by decide), if_neg (fun h => h1 ⟨h.1, h.2.1⟩)]
end Go.Proofs.Ytoalpmfkaijomaa.Pure
