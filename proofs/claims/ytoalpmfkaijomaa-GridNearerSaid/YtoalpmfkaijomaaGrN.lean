/- Grid: where one comes who walks: how many steps, and two walks as one. -/
import Derived.Test.YtoalpmfkaijomaaGrB
import Derived.Test.YtoalpmfkaijomaaXGRx3
import Derived.Test.YtoalpmfkaijomaaXGRx2
import Derived.Test.YtoalpmfkaijomaaXGRx8
import Derived.Test.YtoalpmfkaijomaaXGRx9
import Derived.Test.YtoalpmfkaijomaaXGNx4
set_option linter.unusedSimpArgs false
set_option linter.unusedVariables false
namespace Go.Proofs.Ytoalpmfkaijomaa.Pure
open Go.RowKit Go.Proofs.Ytoalpmfkaijomaa.XGR Go.Proofs.Ytoalpmfkaijomaa.XGN Go.Proofs.YtoalpmfkaijomaaW.PrintWords Go.Proofs.YtoalpmfkaijomaaW.PrintLast Go.Proofs.YtoalpmfkaijomaaW.PrintMore Go.Proofs.YtoalpmfkaijomaaTo
def farv (a b : Int) : Int := satv (max a b - min a b)
theorem farv64 (a b : Int) : In64 (farv a b) := satv64 _
theorem far_eq (k : Nat) (a b : Int) (ha : In64 a) (hb : In64 b) : grid_far.f (k + 1) a b = some (farv a b) := by
  unfold grid_far.f
  rw [mx_max, mn_min, sub_eq k _ _ (by omega) (by omega)]
  rfl
def stepsv (ax ay bx by_ : Int) : Int := max (farv ax bx) (farv ay by_)
theorem steps_eq (k : Nat) (ax ay bx by_ : Int) (hax : In64 ax) (hay : In64 ay) (hbx : In64 bx) (hby : In64 by_) : grid_Steps.f (k + 1) ax ay bx by_ = some (stepsv ax ay bx by_) := by
  unfold grid_Steps.f stepsv
  rw [far_eq k ax bx hax hbx, far_eq k ay by_ hay hby]
  simp only [Option.bind_some, mx_max]
theorem steps_dist {w h ax ay bx by_ : Int} {l : List Bool} (hr : RightG w h l) (ha : Ins w h ax ay) (hb : Ins w h bx by_) {k : Nat} (hk : 0 < k) : grid_Steps.f k ax ay bx by_ = some (dist ax ay bx by_ : Int) := by
  obtain ⟨k, rfl⟩ : ∃ q, k = q + 1 := ⟨k - 1, by omega⟩
  obtain ⟨r1, r2, r3, r4, -⟩ := hr
  unfold Ins at ha hb
  rw [steps_eq k _ _ _ _ (by constructor <;> omega) (by constructor <;> omega) (by constructor <;> omega) (by constructor <;> omega)]
  congr 1
  unfold stepsv farv dist
  rw [satv_in (by constructor <;> omega), satv_in (by constructor <;> omega)]
  omega
theorem wallG_eq {w h x y : Int} {l : List Bool} (hr : RightG w h l) (hi : Ins w h x y) : grid_Wall.f w h l x y = some (wallv w l x y) := by
  unfold grid_Wall.f
  rw [in_eq, decide_eq_true ⟨hr, hi⟩, wall_eq hr hi]
  simp
/-- So many steps from a to b. -/
def adv (a b : Int) (k : Nat) : Int := if a ≤ b then min (a + k) b else max (a - k) b
theorem adv_zero (a b : Int) : adv a b 0 = a := by unfold adv; split <;> omega
theorem adv_succ (a b : Int) (k : Nat) : adv (stp a b) b k = adv a b (k + 1) := by
  unfold adv stp
  (repeat' split) <;> omega
theorem walk_spec {w h : Int} {l : List Bool} {bx by_ : Int} : ∀ (d : Nat) (x y n : Int), dist x y bx by_ ≤ d → 0 ≤ n →
    ∃ k : Nat, (k : Int) ≤ n ∧ k ≤ dist x y bx by_ ∧ walkv w l bx by_ d x y n = (adv x bx k, adv y by_ k) ∧ (0 < k → wallv w l (adv x bx k) (adv y by_ k) = false) ∧
      ((k : Int) = n ∨ k = dist x y bx by_ ∨ wallv w l (stp (adv x bx k) bx) (stp (adv y by_ k) by_) = true) := by
  intro d
  induction d with
  | zero =>
    intro x y n hd hn
    exact ⟨0, by omega, by omega, by rw [walkv, adv_zero, adv_zero], by omega, .inr (.inl (by omega))⟩
  | succ d ih =>
    intro x y n hd hn
    rw [walkv]
    by_cases he : x = bx ∧ y = by_
    · rw [if_pos he]
      refine ⟨0, by omega, by omega, by rw [adv_zero, adv_zero], by omega, .inr (.inl ?_)⟩
      obtain ⟨rfl, rfl⟩ := he
      unfold dist; omega
    rw [if_neg he]
    by_cases h0 : n ≤ 0
    · rw [if_pos h0]
      exact ⟨0, by omega, by omega, by rw [adv_zero, adv_zero], by omega, .inl (by omega)⟩
    rw [if_neg h0]
    have hs := dist_stp he
    by_cases hw : wallv w l (stp x bx) (stp y by_) = true
    · rw [if_pos hw]
      exact ⟨0, by omega, by omega, by rw [adv_zero, adv_zero], by omega, .inr (.inr (by rw [adv_zero, adv_zero]; exact hw))⟩
    rw [if_neg hw]
    obtain ⟨k, h1, h2, h3, h4, h5⟩ := ih (stp x bx) (stp y by_) (n - 1) (by omega) (by omega)
    rw [adv_succ, adv_succ] at h3 h4 h5
    refine ⟨k + 1, by omega, by omega, h3, fun _ => ?_, ?_⟩
    · by_cases c : 0 < k
      · exact h4 c
      · obtain rfl : k = 0 := by omega
        rw [← adv_succ, ← adv_succ, adv_zero, adv_zero]
        exact Bool.eq_false_iff.2 hw
    · rcases h5 with h | h | h
      · exact .inl (by omega)
      · exact .inr (.inl (by omega))
      · exact .inr (.inr h)
theorem walk_succ (w : Int) (l : List Bool) (bx by_ : Int) (d : Nat) (x y n : Int) : walkv w l bx by_ (d + 1) x y n = if x = bx ∧ y = by_ then (x, y) else if n ≤ 0 then (x, y) else if wallv w l (stp x bx) (stp y by_) = true then (x, y) else walkv w l bx by_ d (stp x bx) (stp y by_) (n - 1) := rfl
theorem walk_fuel {w : Int} {l : List Bool} {bx by_ : Int} : ∀ (d : Nat) (x y n : Int), dist x y bx by_ ≤ d → walkv w l bx by_ (d + 1) x y n = walkv w l bx by_ d x y n := by
  intro d
  induction d with
  | zero =>
    intro x y n hd
    rw [walk_succ, if_pos (dist_zero (by omega))]; rfl
  | succ d ih =>
    intro x y n hd
    rw [walk_succ w l bx by_ (d + 1) x y n, walk_succ w l bx by_ d x y n]
    by_cases he : x = bx ∧ y = by_
    · rw [if_pos he, if_pos he]
    rw [if_neg he, if_neg he]
    have hs := dist_stp he
    rw [ih _ _ _ (by omega)]
theorem walk_add {w : Int} {l : List Bool} {bx by_ m : Int} (hm : 0 ≤ m) : ∀ (d : Nat) (x y n : Int), dist x y bx by_ ≤ d → 0 ≤ n →
    walkv w l bx by_ d x y (n + m) = walkv w l bx by_ d (walkv w l bx by_ d x y n).1 (walkv w l bx by_ d x y n).2 m := by
  intro d
  induction d with
  | zero => intro x y n _ _; rfl
  | succ d ih =>
    intro x y n hd hn
    by_cases he : x = bx ∧ y = by_
    · obtain ⟨rfl, rfl⟩ := he
      have : ∀ n, walkv w l x y (d + 1) x y n = (x, y) := fun n => by rw [walk_succ, if_pos ⟨rfl, rfl⟩]
      rw [this, this, this]
    by_cases h0 : n ≤ 0
    · obtain rfl : n = 0 := by omega
      have : walkv w l bx by_ (d + 1) x y 0 = (x, y) := by rw [walk_succ, if_neg he, if_pos (by omega)]
      rw [this, Int.zero_add]
    have hs := dist_stp he
    by_cases hw : wallv w l (stp x bx) (stp y by_) = true
    · have : ∀ n, walkv w l bx by_ (d + 1) x y n = (x, y) := fun n => by
        rw [walk_succ, if_neg he]
        by_cases q : n ≤ 0
        · rw [if_pos q]
        · rw [if_neg q, if_pos hw]
      rw [this, this, this]
    have e1 : walkv w l bx by_ (d + 1) x y n = walkv w l bx by_ d (stp x bx) (stp y by_) (n - 1) := by rw [walk_succ, if_neg he, if_neg h0, if_neg hw]
    have e2 : walkv w l bx by_ (d + 1) x y (n + m) = walkv w l bx by_ d (stp x bx) (stp y by_) (n - 1 + m) := by
      rw [walk_succ, if_neg he, if_neg (by omega), if_neg hw]
      congr 1; omega
    rw [e1, e2, ih _ _ (n - 1) (by omega) (by omega), walk_fuel]
    obtain ⟨k, h1, h2, h3, -, -⟩ := @walk_spec w 0 l bx by_ d (stp x bx) (stp y by_) (n - 1) (by omega) (by omega)
    rw [h3]
    simp only
    have : dist (adv (stp x bx) bx k) (adv (stp y by_) by_ k) bx by_ ≤ dist (stp x bx) (stp y by_) bx by_ := by
      unfold dist adv
      (repeat' split) <;> omega
    omega
theorem adv_ins {w h x y bx by_ : Int} (h1 : Ins w h x y) (h2 : Ins w h bx by_) (k : Nat) : Ins w h (adv x bx k) (adv y by_ k) := by
  unfold Ins adv at *
  (repeat' split) <;> omega
theorem adv_dist {x y bx by_ : Int} {k : Nat} (h : k ≤ dist x y bx by_) : dist x y (adv x bx k) (adv y by_ k) = k ∧ dist (adv x bx k) (adv y by_ k) bx by_ + k = dist x y bx by_ := by
  unfold dist adv at *
  (repeat' split) <;> omega
end Go.Proofs.Ytoalpmfkaijomaa.Pure
