/- How far two tiles are apart, and whether they are near, as plain numbers. -/
import Derived.Test.YtdpeflbdoaccbaaEvX
import Derived.Test.YtdpeflbdoaccbaaXCLx3
import Derived.Test.YtdpeflbdoaccbaaXCLx4
set_option linter.unusedSimpArgs false
set_option linter.unusedVariables false
namespace Go.Proofs.Ytdpeflbdoaccbaa.Pure
open Go.RowKit Go.Proofs.Ytdpeflbdoaccbaa.XCL Go.Proofs.YtdpeflbdoaccbaaW.PrintWords Go.Proofs.YtdpeflbdoaccbaaW.PrintLast Go.Proofs.YtdpeflbdoaccbaaW.PrintMore

def farv (a b : Int) : Int := satv (max a b - min a b)
theorem farv64 (a b : Int) : In64 (farv a b) := satv64 _
theorem far_eq (k : Nat) (a b : Int) (ha : In64 a) (hb : In64 b) : grid_far.f (k + 1) a b = some (farv a b) := by
  unfold grid_far.f
  rw [mx_max, mn_min, sub_eq k _ _ (by omega) (by omega)]
  rfl
def sqv (ax ay bx by_ : Int) : Int := satv (satv (farv ax bx * farv ax bx) + satv (farv ay by_ * farv ay by_))
def nearv (ax ay bx by_ r : Int) : Bool := if r ≥ 0 then decide (sqv ax ay bx by_ ≤ satv (r * r)) else false
section
variable (k : Nat) (ax ay bx by_ : Int) (hax : In64 ax) (hay : In64 ay) (hbx : In64 bx) (hby : In64 by_)
include hax hay hbx hby
theorem square_eq : grid_Square.f (k + 1) ax ay bx by_ = some (sqv ax ay bx by_) := by
  unfold grid_Square.f sqv
  rw [far_eq k ax bx hax hbx, far_eq k ay by_ hay hby]
  simp only [Option.bind_some]
  rw [mul_eq _ _ (farv64 _ _) (farv64 _ _), mul_eq _ _ (farv64 _ _) (farv64 _ _)]
  simp only [Option.bind_some]
  rw [add_eq k _ _ (satv64 _) (satv64 _)]
  rfl
theorem near_eq (r : Int) (hr : In64 r) : grid_Near.f (k + 1) ax ay bx by_ r = some (nearv ax ay bx by_ r) := by
  unfold grid_Near.f nearv
  split
  · rw [square_eq k ax ay bx by_ hax hay hbx hby]
    simp only [Option.bind_some]
    rw [mul_eq _ _ hr hr]
    rfl
  · rfl
end
theorem farv_comm (a b : Int) : farv a b = farv b a := by unfold farv; rw [show max a b - min a b = max b a - min b a by omega]
theorem farv_nonneg (a b : Int) : 0 ≤ farv a b := by unfold farv satv; (repeat' split) <;> omega
theorem farv_zero (a b : Int) : farv a b = 0 ↔ a = b := by unfold farv satv; (repeat' split) <;> omega
theorem sqv_comm (ax ay bx by_ : Int) : sqv ax ay bx by_ = sqv bx by_ ax ay := by unfold sqv; rw [farv_comm ax, farv_comm ay]
theorem self_le {d : Int} (h : 0 ≤ d) : d ≤ d * d := by
  rcases Int.lt_or_le d 1 with h1 | h1
  · have : d = 0 := by omega
    subst this; decide
  · have := Int.mul_le_mul_of_nonneg_right h1 h
    omega
/-- A square, cut at the end, is above each number from 0 to 2^62 whose square is less. -/
theorem satv_sq {d : Int} (h : 0 ≤ d) (hd : In64 d) : 0 ≤ satv (d * d) ∧ d ≤ satv (d * d) := by
  have := self_le h
  unfold satv
  (repeat' split) <;> omega
theorem sqv_nonneg (ax ay bx by_ : Int) : 0 ≤ sqv ax ay bx by_ := by
  have h1 := (satv_sq (farv_nonneg ax bx) (farv64 ax bx)).1
  have h2 := (satv_sq (farv_nonneg ay by_) (farv64 ay by_)).1
  unfold sqv
  generalize satv (farv ax bx * farv ax bx) = p at *
  generalize satv (farv ay by_ * farv ay by_) = q at *
  unfold satv
  (repeat' split) <;> omega
theorem sqv_ge (ax ay bx by_ : Int) : satv (farv ax bx * farv ax bx) ≤ sqv ax ay bx by_ ∧ satv (farv ay by_ * farv ay by_) ≤ sqv ax ay bx by_ := by
  have h1 := (satv_sq (farv_nonneg ax bx) (farv64 ax bx)).1
  have h2 := (satv_sq (farv_nonneg ay by_) (farv64 ay by_)).1
  have h3 := satv64 (farv ax bx * farv ax bx)
  have h4 := satv64 (farv ay by_ * farv ay by_)
  unfold sqv
  generalize satv (farv ax bx * farv ax bx) = p at *
  generalize satv (farv ay by_ * farv ay by_) = q at *
  unfold satv
  (repeat' split) <;> omega
theorem sqv_zero (ax ay bx by_ : Int) : sqv ax ay bx by_ = 0 ↔ ax = bx ∧ ay = by_ := by
  constructor
  · intro h
    have h1 := sqv_ge ax ay bx by_
    have h2 := satv_sq (farv_nonneg ax bx) (farv64 ax bx)
    have h3 := satv_sq (farv_nonneg ay by_) (farv64 ay by_)
    have h4 := farv_nonneg ax bx
    have h5 := farv_nonneg ay by_
    have h6 := farv_zero ax bx
    have h7 := farv_zero ay by_
    omega
  · rintro ⟨rfl, rfl⟩
    have h1 := (farv_zero ax ax).2 rfl
    have h2 := (farv_zero ay ay).2 rfl
    unfold sqv
    rw [h1, h2]
    decide
theorem nearv_comm (ax ay bx by_ r : Int) : nearv ax ay bx by_ r = nearv bx by_ ax ay r := by unfold nearv; rw [sqv_comm]
theorem nearv_self (ax ay r : Int) (hr : 0 ≤ r) : nearv ax ay ax ay r = true := by
  unfold nearv
  rw [if_pos hr, (sqv_zero ax ay ax ay).2 ⟨rfl, rfl⟩]
  have := Int.mul_nonneg hr hr
  refine decide_eq_true ?_
  unfold satv
  (repeat' split) <;> omega
theorem nearv_up (ax ay bx by_ r : Int) (hr : 0 ≤ r) (h : nearv ax ay bx by_ r = true) : nearv ax ay bx by_ (r + 1) = true := by
  unfold nearv at *
  rw [if_pos hr] at h
  rw [if_pos (by omega)]
  have h1 := of_decide_eq_true h
  refine decide_eq_true (Int.le_trans h1 (satv_mono ?_))
  have := Int.mul_le_mul (show r ≤ r + 1 by omega) (show r ≤ r + 1 by omega) hr (by omega)
  exact this
end Go.Proofs.Ytdpeflbdoaccbaa.Pure
