/- Grid: how far two tiles are apart, as plain numbers. -/
import Derived.Test.YtoalpmfkaijomaaRefSumX
import Derived.Test.YtoalpmfkaijomaaXGRx2
import Derived.Test.YtoalpmfkaijomaaXGRx5
import Derived.Test.YtoalpmfkaijomaaXGLx3
set_option linter.unusedSimpArgs false
set_option linter.unusedVariables false
namespace Go.Proofs.Ytoalpmfkaijomaa.Pure
open Go.RowKit Go.Proofs.Ytoalpmfkaijomaa.XGR Go.Proofs.Ytoalpmfkaijomaa.XGL Go.Proofs.YtoalpmfkaijomaaW.PrintWords Go.Proofs.YtoalpmfkaijomaaW.PrintLast Go.Proofs.YtoalpmfkaijomaaW.PrintMore

/-- With rounds enough it is so. -/
def Ev (P : Nat → Prop) : Prop := ∃ K, ∀ k, K ≤ k → P k
theorem Ev.ge (B : Nat) : Ev (fun k => B ≤ k) := ⟨B, fun _ h => h⟩
theorem Ev.and {P Q : Nat → Prop} (h : Ev P) (h' : Ev Q) : Ev (fun k => P k ∧ Q k) := by
  obtain ⟨K, h⟩ := h
  obtain ⟨K', h'⟩ := h'
  exact ⟨max K K', fun k hk => ⟨h k (by omega), h' k (by omega)⟩⟩
theorem Ev.imp {P Q : Nat → Prop} (h : Ev P) (hs : ∀ k, P k → Q k) : Ev Q := let ⟨K, h⟩ := h; ⟨K, fun k hk => hs k (h k hk)⟩
theorem Ev.get {P : Nat → Prop} (h : Ev P) : ∃ k, P k := let ⟨K, h⟩ := h; ⟨K, h K (Nat.le_refl _)⟩
theorem Ev.of {α : Type} {f : Nat → Option α} (hm : ∀ k, LeO (f k) (f (k + 1))) {K : Nat} {v : α} (h : f K = some v) : Ev (fun k => f k = some v) := by
  refine ⟨K, fun k hk => ?_⟩
  obtain ⟨d, rfl⟩ := Nat.exists_eq_add_of_le hk
  induction d with
  | zero => exact h
  | succ d ih => exact hm _ _ (ih (by omega))
theorem small_ev : Ev (fun k => barrowlaw06_small.f k = some true) := Ev.of (fun k => barrowlaw06_small.mono k) (K := 100) (by decide +kernel)

abbrev In64 (a : Int) : Prop := -9223372036854775808 ≤ a ∧ a ≤ 9223372036854775807
theorem satv64 (x : Int) : In64 (satv x) := by unfold satv; (repeat' split) <;> constructor <;> omega
theorem mn_min (a b : Int) : mn a b = min a b := by unfold mn; split <;> omega
theorem mx_max (a b : Int) : mx a b = max a b := by unfold mx; split <;> omega
def farv (a b : Int) : Int := satv (max a b - min a b)
theorem farv64 (a b : Int) : In64 (farv a b) := satv64 _
theorem far_eq (k : Nat) (a b : Int) (ha : In64 a) (hb : In64 b) : grid_far.f (k + 1) a b = some (farv a b) := by
  unfold grid_far.f
  rw [mx_max, mn_min, sub_eq k _ _ (by omega) (by omega)]
  rfl
theorem rfar_eq (k : Nat) (a b : Int) (ha : In64 a) (hb : In64 b) : barrowref06_far.f (k + 1) a b = some (farv a b) := by
  unfold barrowref06_far.f farv
  split
  · rw [refsub_eq k _ _ hb ha]
    simp only [Option.bind_some]
    congr 2; omega
  · rw [refsub_eq k _ _ ha hb]
    simp only [Option.bind_some]
    congr 2; omega
def sqv (ax ay bx by_ : Int) : Int := satv (satv (farv ax bx * farv ax bx) + satv (farv ay by_ * farv ay by_))
def stepsv (ax ay bx by_ : Int) : Int := max (farv ax bx) (farv ay by_)
def nearv (ax ay bx by_ r : Int) : Bool := if r ≥ 0 then decide (sqv ax ay bx by_ ≤ satv (r * r)) else false
section
variable (k : Nat) (ax ay bx by_ : Int) (hax : In64 ax) (hay : In64 ay) (hbx : In64 bx) (hby : In64 by_)
include hax hay hbx hby
theorem square_eq : grid_Square.f (k + 1) ax ay bx by_ = some (sqv ax ay bx by_) := by
  unfold grid_Square.f sqv
  rw [far_eq k ax bx hax hbx, far_eq k ay by_ hay hby]
  simp only [Option.bind_some]
  rw [mul_eq _ _ (farv64 _ _) (farv64 _ _), mul_eq _ _ (farv64 _ _) (farv64 _ _)]
  simp only [Option.bind_some]
  rw [add_eq k _ _ (satv64 _) (satv64 _)]
  rfl
theorem rsquare_eq : barrowref06_Square.f (k + 1) ax ay bx by_ = some (sqv ax ay bx by_) := by
  unfold barrowref06_Square.f sqv
  rw [rfar_eq k ax bx hax hbx, rfar_eq k ay by_ hay hby]
  simp only [Option.bind_some]
  rw [refmul_eq _ _ (farv64 _ _) (farv64 _ _), refmul_eq _ _ (farv64 _ _) (farv64 _ _)]
  simp only [Option.bind_some]
  rw [refadd_eq k _ _ (satv64 _) (satv64 _)]
  rfl
theorem steps_eq : grid_Steps.f (k + 1) ax ay bx by_ = some (stepsv ax ay bx by_) := by
  unfold grid_Steps.f stepsv
  rw [far_eq k ax bx hax hbx, far_eq k ay by_ hay hby]
  simp only [Option.bind_some, mx_max]
theorem rsteps_eq : barrowref06_Steps.f (k + 1) ax ay bx by_ = some (stepsv ax ay bx by_) := by
  unfold barrowref06_Steps.f stepsv
  rw [rfar_eq k ax bx hax hbx, rfar_eq k ay by_ hay hby]
  simp only [Option.bind_some, mx_max]
theorem near_eq (r : Int) (hr : In64 r) : grid_Near.f (k + 1) ax ay bx by_ r = some (nearv ax ay bx by_ r) := by
  unfold grid_Near.f nearv
  split
  · rw [square_eq k ax ay bx by_ hax hay hbx hby]
    simp only [Option.bind_some]
    rw [mul_eq _ _ hr hr]
    rfl
  · rfl
theorem rnear_eq (r : Int) (hr : In64 r) : barrowref06_Near.f (k + 1) ax ay bx by_ r = some (nearv ax ay bx by_ r) := by
  unfold barrowref06_Near.f nearv
  split
  · rw [rsquare_eq k ax ay bx by_ hax hay hbx hby]
    simp only [Option.bind_some]
    rw [refmul_eq _ _ hr hr]
    rfl
  · rfl
end
theorem farv_comm (a b : Int) : farv a b = farv b a := by unfold farv; rw [show max a b - min a b = max b a - min b a by omega]
theorem farv_nonneg (a b : Int) : 0 ≤ farv a b := by unfold farv satv; (repeat' split) <;> omega
theorem farv_zero (a b : Int) : farv a b = 0 ↔ a = b := by unfold farv satv; (repeat' split) <;> omega
theorem sqv_comm (ax ay bx by_ : Int) : sqv ax ay bx by_ = sqv bx by_ ax ay := by unfold sqv; rw [farv_comm ax, farv_comm ay]
theorem stepsv_comm (ax ay bx by_ : Int) : stepsv ax ay bx by_ = stepsv bx by_ ax ay := by unfold stepsv; rw [farv_comm ax, farv_comm ay]
theorem stepsv_nonneg (ax ay bx by_ : Int) : 0 ≤ stepsv ax ay bx by_ := by unfold stepsv; have := farv_nonneg ax bx; omega
theorem stepsv_zero (ax ay bx by_ : Int) : stepsv ax ay bx by_ = 0 ↔ ax = bx ∧ ay = by_ := by
  have h1 := farv_zero ax bx
  have h2 := farv_zero ay by_
  have h3 := farv_nonneg ax bx
  have h4 := farv_nonneg ay by_
  unfold stepsv
  omega
theorem self_le {d : Int} (h : 0 ≤ d) : d ≤ d * d := by
  rcases Int.lt_or_le d 1 with h1 | h1
  · have : d = 0 := by omega
    subst this; decide
  · have := Int.mul_le_mul_of_nonneg_right h1 h
    omega
/-- A square, cut at the end, is above each number from 0 to 2^62 whose square is less. -/
theorem satv_sq {d : Int} (h : 0 ≤ d) (hd : In64 d) : 0 ≤ satv (d * d) ∧ d ≤ satv (d * d) := by
  have := self_le h
  unfold satv
  (repeat' split) <;> omega
theorem sqv_nonneg (ax ay bx by_ : Int) : 0 ≤ sqv ax ay bx by_ := by
  have h1 := (satv_sq (farv_nonneg ax bx) (farv64 ax bx)).1
  have h2 := (satv_sq (farv_nonneg ay by_) (farv64 ay by_)).1
  unfold sqv
  generalize satv (farv ax bx * farv ax bx) = p at *
  generalize satv (farv ay by_ * farv ay by_) = q at *
  unfold satv
  (repeat' split) <;> omega
theorem sqv_ge (ax ay bx by_ : Int) : satv (farv ax bx * farv ax bx) ≤ sqv ax ay bx by_ ∧ satv (farv ay by_ * farv ay by_) ≤ sqv ax ay bx by_ := by
  have h1 := (satv_sq (farv_nonneg ax bx) (farv64 ax bx)).1
  have h2 := (satv_sq (farv_nonneg ay by_) (farv64 ay by_)).1
  have h3 := satv64 (farv ax bx * farv ax bx)
  have h4 := satv64 (farv ay by_ * farv ay by_)
  unfold sqv
  generalize satv (farv ax bx * farv ax bx) = p at *
  generalize satv (farv ay by_ * farv ay by_) = q at *
  unfold satv
  (repeat' split) <;> omega
theorem sqv_zero (ax ay bx by_ : Int) : sqv ax ay bx by_ = 0 ↔ ax = bx ∧ ay = by_ := by
  constructor
  · intro h
    have h1 := sqv_ge ax ay bx by_
    have h2 := satv_sq (farv_nonneg ax bx) (farv64 ax bx)
    have h3 := satv_sq (farv_nonneg ay by_) (farv64 ay by_)
    have h4 := farv_nonneg ax bx
    have h5 := farv_nonneg ay by_
    have h6 := farv_zero ax bx
    have h7 := farv_zero ay by_
    omega
  · rintro ⟨rfl, rfl⟩
    have h1 := (farv_zero ax ax).2 rfl
    have h2 := (farv_zero ay ay).2 rfl
    unfold sqv
    rw [h1, h2]
    decide
theorem nearv_comm (ax ay bx by_ r : Int) : nearv ax ay bx by_ r = nearv bx by_ ax ay r := by unfold nearv; rw [sqv_comm]
theorem nearv_steps (ax ay bx by_ r : Int) (h : nearv ax ay bx by_ r = true) (hr : r ≤ 2147483648) : stepsv ax ay bx by_ ≤ r := by
  unfold nearv at h
  split at h
  · rename_i h0
    have h1 := of_decide_eq_true h
    have h2 := sqv_ge ax ay bx by_
    have hrr : r * r ≤ 4611686018427387904 := by
      have := Int.mul_le_mul hr hr h0 (by decide : (0 : Int) ≤ 2147483648)
      omega
    have hr0 : 0 ≤ r * r := Int.mul_nonneg h0 h0
    rw [satv_in (by omega)] at h1
    have key : ∀ d : Int, 0 ≤ d → satv (d * d) ≤ r * r → d ≤ r := by
      intro d hd hs
      rcases Int.lt_or_le r d with hlt | hle
      · have h5 : (r + 1) * (r + 1) ≤ d * d := Int.mul_le_mul (by omega) (by omega) (by omega) hd
        have h6 : (r + 1) * (r + 1) = r * r + 2 * r + 1 := by rw [Int.add_mul, Int.mul_add]; omega
        unfold satv at hs
        (repeat' split at hs) <;> omega
      · exact hle
    have h7 := key _ (farv_nonneg ax bx) (by omega)
    have h8 := key _ (farv_nonneg ay by_) (by omega)
    unfold stepsv
    omega
  · cases h
theorem nearv_self (ax ay r : Int) (hr : 0 ≤ r) : nearv ax ay ax ay r = true := by
  unfold nearv
  rw [if_pos hr, (sqv_zero ax ay ax ay).2 ⟨rfl, rfl⟩]
  have := Int.mul_nonneg hr hr
  refine decide_eq_true ?_
  unfold satv
  (repeat' split) <;> omega
end Go.Proofs.Ytoalpmfkaijomaa.Pure
