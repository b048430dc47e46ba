-- Written by xprint.py (a program of this session) for this claim
import Derived.Test.YtgffgmkfafdjjaaXSatx0
import Derived.Test.YtgffgmkfafdjjaaXSatx1
namespace Go.Proofs.Ytgffgmkfafdjjaa.XSat
open Go.Proofs.YtgffgmkfafdjjaaV
open Go.RowKit Go.Proofs.YtgffgmkfafdjjaaW.PrintWords Go.Proofs.YtgffgmkfafdjjaaW.PrintLast Go.Proofs.YtgffgmkfafdjjaaW.PrintMore
attribute [local go_sem] max2_int min2_int max_two min_two max_three min_three max_four min_four   -- for this text's walks alone
set_option linter.unusedVariables false
set_option linter.unusedSimpArgs false

/-! ### barrowref01_Add: function 10 -/
def barrowref01_Add.j0 : Nat → Int → Int → Bool → Option (Int)
  | 0, _, _, _ => none
  | k + 1, x0, x1, x12 => if x12 = true then (some 9223372036854775807) else (if x0 < 0 then (if x1 < (wrap64 ((-9223372036854775808) - x0)) then (some (-9223372036854775808)) else (some (wrap64 (x0 + x1)))) else (some (wrap64 (x0 + x1))))
def barrowref01_Add.f (k : Nat) (a0 : Int) (a1 : Int) : Option (Int) := if a0 > 0 then (barrowref01_Add.j0 k a0 a1 (decide (a1 > (wrap64 (9223372036854775807 - a0))))) else (barrowref01_Add.j0 k a0 a1 false)
theorem barrowref01_Add.mono_l : ∀ k, (∀ y0 y1 y2, LeO (barrowref01_Add.j0 k y0 y1 y2) (barrowref01_Add.j0 (k + 1) y0 y1 y2))
  | 0 => fun _ _ _ r h => by simp [barrowref01_Add.j0] at h
  | k + 1 => by
    have ih0 := barrowref01_Add.mono_l k
    · intro y0 y1 y2
      unfold barrowref01_Add.j0
      repeat' first
      | (with_reducible exact ih0 _ _ _)
      | (with_reducible exact LeO.refl _)
      | (with_reducible exact LeO.none _)
      | (with_reducible refine LeO.ite ?_ ?_)
      | (with_reducible refine LeO.bind ?_ (fun _ => ?_))
      | exact ih0 _ _ _
      | exact LeO.none _
      | refine LeO.ite ?_ ?_
      | refine LeO.bind ?_ (fun _ => ?_)
theorem barrowref01_Add.mono : ∀ a0 a1 k, LeO (barrowref01_Add.f k a0 a1) (barrowref01_Add.f (k + 1) a0 a1) := by
  intro a0 a1 k
  have ih0 := barrowref01_Add.mono_l k
  unfold barrowref01_Add.f
  repeat' first
      | (with_reducible exact ih0 _ _ _)
      | (with_reducible exact LeO.refl _)
      | (with_reducible exact LeO.none _)
      | (with_reducible refine LeO.ite ?_ ?_)
      | (with_reducible refine LeO.bind ?_ (fun _ => ?_))
      | exact ih0 _ _ _
      | exact LeO.none _
      | refine LeO.ite ?_ ?_
      | refine LeO.bind ?_ (fun _ => ?_)
set_option maxHeartbeats 8000000 in
set_option maxRecDepth 100000 in
theorem barrowref01_Add.calls (k : Nat) (a0 : Int) (a1 : Int) (r : Int) (w : World) (h : barrowref01_Add.f k a0 a1 = some r) :
    Calls Try.prog 10 #[.int .i64 a0, .int .i64 a1] w fun e w' => e = .returned (.int .i64 r) ∧ Drawn0 w w' := by
  have H : (if a0 > 0 then (barrowref01_Add.j0 k a0 a1 (decide (a1 > (wrap64 (9223372036854775807 - a0))))) else (barrowref01_Add.j0 k a0 a1 false)) = some r := h
  clear h
  have HC3 := Aside0.mk H
  clear H
  go_enter Try.func10, Try.ntmps10
  go_upto_region 1 with (fail)
  go_cut [12] (fun v12 wc => ∃ (kq : Nat) (x12_2 : Bool), v12 = .bool x12_2 ∧ Aside0 (barrowref01_Add.j0 kq a0 a1 x12_2 = some r) ∧ Aside0 (kq ≤ k) ∧ Drawn0 w wc)
  case first =>
    have H := HC3.out
    clear HC3
    by_cases c4 : a0 > 0
    · rw [if_pos c4] at H
      have c4b0 : decide (0 < a0) = true := decide_eq_true c4
      clear c4
      (first | rw [c4b0] | (simp only [i64_w, i32_w]; rw [c4b0]) | skip)
      have H' := Aside0.mk H
      clear H
      go_wp2
      go_meet
      case rel => exact ⟨_, (decide (a1 > (wrap64 (9223372036854775807 - a0)))), (by first | rfl | (simp; done) | (simp [*]; done)), H', ⟨by first | omega | exact Nat.le_refl _⟩, by repeat (first | exact Drawn0.refl _ | apply Drawn0.step)⟩
    · rw [if_neg c4] at H
      have c4b0 : decide (0 < a0) = false := decide_eq_false c4
      clear c4
      (first | rw [c4b0] | (simp only [i64_w, i32_w]; rw [c4b0]) | skip)
      have H' := Aside0.mk H
      clear H
      go_wp2
      go_meet
      case rel => exact ⟨_, (false), (by first | rfl | (simp; done) | (simp [*]; done)), H', ⟨by first | omega | exact Nat.le_refl _⟩, by repeat (first | exact Drawn0.refl _ | apply Drawn0.step)⟩
  case rest =>
    clear HC3
    try clear c1
    try clear p2
    try clear c4
    try clear c4b0
    obtain ⟨kq, x12_2, rfl, HA, HJ2, ⟨mc2, rfl⟩⟩ := hcut
    cases kq with
    | zero => exact absurd HA.out (by simp [barrowref01_Add.j0])
    | succ kj2 =>
      have H := HA.out
      clear HA
      simp only [barrowref01_Add.j0] at H
      by_cases c5 : x12_2 = true
      · subst c5
        have H1 : (some 9223372036854775807) = some r := by rw [if_pos rfl] at H; exact H
        clear H
        have H := H1
        clear H1
        obtain rfl := Option.some.inj H
        go_wp2
        go_ret
        exact ⟨by first | rfl | (simp; done) | (simp [*]; done), by repeat (first | exact Drawn0.refl _ | apply Drawn0.step)⟩
      · replace c5 := Bool.eq_false_iff.mpr c5
        subst c5
        have H1 : (if a0 < 0 then (if a1 < (wrap64 ((-9223372036854775808) - a0)) then (some (-9223372036854775808)) else (some (wrap64 (a0 + a1)))) else (some (wrap64 (a0 + a1)))) = some r := by rw [if_neg (show ¬ (false = true) by decide)] at H; exact H
        clear H
        have H := H1
        clear H1
        by_cases c6 : a0 < 0
        · rw [if_pos c6] at H
          have c6b0 : decide (a0 < 0) = true := decide_eq_true c6
          clear c6
          by_cases c7 : a1 < (wrap64 ((-9223372036854775808) - a0))
          · rw [if_pos c7] at H
            have c7b0 : decide (a1 < (wrap64 ((-9223372036854775808) - a0))) = true := decide_eq_true c7
            clear c7
            obtain rfl := Option.some.inj H
            go_wp2
            go_ret
            exact ⟨by first | rfl | (simp; done) | (simp [*]; done), by repeat (first | exact Drawn0.refl _ | apply Drawn0.step)⟩
          · rw [if_neg c7] at H
            have c7b0 : decide (a1 < (wrap64 ((-9223372036854775808) - a0))) = false := decide_eq_false c7
            clear c7
            obtain rfl := Option.some.inj H
            go_wp2
            go_ret
            exact ⟨by first | rfl | (simp; done) | (simp [*]; done), by repeat (first | exact Drawn0.refl _ | apply Drawn0.step)⟩
        · rw [if_neg c6] at H
          have c6b0 : decide (a0 < 0) = false := decide_eq_false c6
          clear c6
          obtain rfl := Option.some.inj H
          go_wp2
          go_ret
          exact ⟨by first | rfl | (simp; done) | (simp [*]; done), by repeat (first | exact Drawn0.refl _ | apply Drawn0.step)⟩

/-! ### barrowref01_Sub: function 12 -/
def barrowref01_Sub.j0 : Nat → Int → Int → Bool → Option (Int)
  | 0, _, _, _ => none
  | k + 1, x0, x1, x12 => if x12 = true then (some 9223372036854775807) else (if x1 > 0 then (if x0 < (wrap64 ((-9223372036854775808) + x1)) then (some (-9223372036854775808)) else (some (wrap64 (x0 - x1)))) else (some (wrap64 (x0 - x1))))
def barrowref01_Sub.f (k : Nat) (a0 : Int) (a1 : Int) : Option (Int) := if a1 < 0 then (barrowref01_Sub.j0 k a0 a1 (decide (a0 > (wrap64 (9223372036854775807 + a1))))) else (barrowref01_Sub.j0 k a0 a1 false)
theorem barrowref01_Sub.mono_l : ∀ k, (∀ y0 y1 y2, LeO (barrowref01_Sub.j0 k y0 y1 y2) (barrowref01_Sub.j0 (k + 1) y0 y1 y2))
  | 0 => fun _ _ _ r h => by simp [barrowref01_Sub.j0] at h
  | k + 1 => by
    have ih0 := barrowref01_Sub.mono_l k
    · intro y0 y1 y2
      unfold barrowref01_Sub.j0
      repeat' first
      | (with_reducible exact ih0 _ _ _)
      | (with_reducible exact LeO.refl _)
      | (with_reducible exact LeO.none _)
      | (with_reducible refine LeO.ite ?_ ?_)
      | (with_reducible refine LeO.bind ?_ (fun _ => ?_))
      | exact ih0 _ _ _
      | exact LeO.none _
      | refine LeO.ite ?_ ?_
      | refine LeO.bind ?_ (fun _ => ?_)
theorem barrowref01_Sub.mono : ∀ a0 a1 k, LeO (barrowref01_Sub.f k a0 a1) (barrowref01_Sub.f (k + 1) a0 a1) := by
  intro a0 a1 k
  have ih0 := barrowref01_Sub.mono_l k
  unfold barrowref01_Sub.f
  repeat' first
      | (with_reducible exact ih0 _ _ _)
      | (with_reducible exact LeO.refl _)
      | (with_reducible exact LeO.none _)
      | (with_reducible refine LeO.ite ?_ ?_)
      | (with_reducible refine LeO.bind ?_ (fun _ => ?_))
      | exact ih0 _ _ _
      | exact LeO.none _
      | refine LeO.ite ?_ ?_
      | refine LeO.bind ?_ (fun _ => ?_)
set_option maxHeartbeats 8000000 in
set_option maxRecDepth 100000 in
theorem barrowref01_Sub.calls (k : Nat) (a0 : Int) (a1 : Int) (r : Int) (w : World) (h : barrowref01_Sub.f k a0 a1 = some r) :
    Calls Try.prog 12 #[.int .i64 a0, .int .i64 a1] w fun e w' => e = .returned (.int .i64 r) ∧ Drawn0 w w' := by
  have H : (if a1 < 0 then (barrowref01_Sub.j0 k a0 a1 (decide (a0 > (wrap64 (9223372036854775807 + a1))))) else (barrowref01_Sub.j0 k a0 a1 false)) = some r := h
  clear h
  have HC3 := Aside0.mk H
  clear H
  go_enter Try.func12, Try.ntmps12
  go_upto_region 1 with (fail)
  go_cut [12] (fun v12 wc => ∃ (kq : Nat) (x12_2 : Bool), v12 = .bool x12_2 ∧ Aside0 (barrowref01_Sub.j0 kq a0 a1 x12_2 = some r) ∧ Aside0 (kq ≤ k) ∧ Drawn0 w wc)
  case first =>
    have H := HC3.out
    clear HC3
    by_cases c4 : a1 < 0
    · rw [if_pos c4] at H
      have c4b0 : decide (a1 < 0) = true := decide_eq_true c4
      clear c4
      (first | rw [c4b0] | (simp only [i64_w, i32_w]; rw [c4b0]) | skip)
      have H' := Aside0.mk H
      clear H
      go_wp2
      go_meet
      case rel => exact ⟨_, (decide (a0 > (wrap64 (9223372036854775807 + a1)))), (by first | rfl | (simp; done) | (simp [*]; done)), H', ⟨by first | omega | exact Nat.le_refl _⟩, by repeat (first | exact Drawn0.refl _ | apply Drawn0.step)⟩
    · rw [if_neg c4] at H
      have c4b0 : decide (a1 < 0) = false := decide_eq_false c4
      clear c4
      (first | rw [c4b0] | (simp only [i64_w, i32_w]; rw [c4b0]) | skip)
      have H' := Aside0.mk H
      clear H
      go_wp2
      go_meet
      case rel => exact ⟨_, (false), (by first | rfl | (simp; done) | (simp [*]; done)), H', ⟨by first | omega | exact Nat.le_refl _⟩, by repeat (first | exact Drawn0.refl _ | apply Drawn0.step)⟩
  case rest =>
    clear HC3
    try clear c1
    try clear p2
    try clear c4
    try clear c4b0
    obtain ⟨kq, x12_2, rfl, HA, HJ2, ⟨mc2, rfl⟩⟩ := hcut
    cases kq with
    | zero => exact absurd HA.out (by simp [barrowref01_Sub.j0])
    | succ kj2 =>
      have H := HA.out
      clear HA
      simp only [barrowref01_Sub.j0] at H
      by_cases c5 : x12_2 = true
      · subst c5
        have H1 : (some 9223372036854775807) = some r := by rw [if_pos rfl] at H; exact H
        clear H
        have H := H1
        clear H1
        obtain rfl := Option.some.inj H
        go_wp2
        go_ret
        exact ⟨by first | rfl | (simp; done) | (simp [*]; done), by repeat (first | exact Drawn0.refl _ | apply Drawn0.step)⟩
      · replace c5 := Bool.eq_false_iff.mpr c5
        subst c5
        have H1 : (if a1 > 0 then (if a0 < (wrap64 ((-9223372036854775808) + a1)) then (some (-9223372036854775808)) else (some (wrap64 (a0 - a1)))) else (some (wrap64 (a0 - a1)))) = some r := by rw [if_neg (show ¬ (false = true) by decide)] at H; exact H
        clear H
        have H := H1
        clear H1
        by_cases c6 : a1 > 0
        · rw [if_pos c6] at H
          have c6b0 : decide (0 < a1) = true := decide_eq_true c6
          clear c6
          by_cases c7 : a0 < (wrap64 ((-9223372036854775808) + a1))
          · rw [if_pos c7] at H
            have c7b0 : decide (a0 < (wrap64 ((-9223372036854775808) + a1))) = true := decide_eq_true c7
            clear c7
            obtain rfl := Option.some.inj H
            go_wp2
            go_ret
            exact ⟨by first | rfl | (simp; done) | (simp [*]; done), by repeat (first | exact Drawn0.refl _ | apply Drawn0.step)⟩
          · rw [if_neg c7] at H
            have c7b0 : decide (a0 < (wrap64 ((-9223372036854775808) + a1))) = false := decide_eq_false c7
            clear c7
            obtain rfl := Option.some.inj H
            go_wp2
            go_ret
            exact ⟨by first | rfl | (simp; done) | (simp [*]; done), by repeat (first | exact Drawn0.refl _ | apply Drawn0.step)⟩
        · rw [if_neg c6] at H
          have c6b0 : decide (0 < a1) = false := decide_eq_false c6
          clear c6
          obtain rfl := Option.some.inj H
          go_wp2
          go_ret
          exact ⟨by first | rfl | (simp; done) | (simp [*]; done), by repeat (first | exact Drawn0.refl _ | apply Drawn0.step)⟩

-- NOT PRINTED: function 24 (barrowref01_big)

-- NOT PRINTED: function 14 (barrowref01_Mul)

-- NOT PRINTED: function 3 (barrowlaw01_SatReckons)

/-! ### barrowref01_Clamp: function 16 -/
def barrowref01_Clamp.j0 : Nat → Int → Int → Int → Bool → Option (Int)
  | 0, _, _, _, _ => none
  | k + 1, x0, x1, x2, x14 => if x14 = true then (some x1) else (if x0 > x2 then (some x2) else (some x0))
def barrowref01_Clamp.f (k : Nat) (a0 : Int) (a1 : Int) (a2 : Int) : Option (Int) := if a1 > a2 then (barrowref01_Clamp.j0 k a0 a1 a2 true) else (barrowref01_Clamp.j0 k a0 a1 a2 (decide (a0 < a1)))
theorem barrowref01_Clamp.mono_l : ∀ k, (∀ y0 y1 y2 y3, LeO (barrowref01_Clamp.j0 k y0 y1 y2 y3) (barrowref01_Clamp.j0 (k + 1) y0 y1 y2 y3))
  | 0 => fun _ _ _ _ r h => by simp [barrowref01_Clamp.j0] at h
  | k + 1 => by
    have ih0 := barrowref01_Clamp.mono_l k
    · intro y0 y1 y2 y3
      unfold barrowref01_Clamp.j0
      repeat' first
      | (with_reducible exact ih0 _ _ _ _)
      | (with_reducible exact LeO.refl _)
      | (with_reducible exact LeO.none _)
      | (with_reducible refine LeO.ite ?_ ?_)
      | (with_reducible refine LeO.bind ?_ (fun _ => ?_))
      | exact ih0 _ _ _ _
      | exact LeO.none _
      | refine LeO.ite ?_ ?_
      | refine LeO.bind ?_ (fun _ => ?_)
theorem barrowref01_Clamp.mono : ∀ a0 a1 a2 k, LeO (barrowref01_Clamp.f k a0 a1 a2) (barrowref01_Clamp.f (k + 1) a0 a1 a2) := by
  intro a0 a1 a2 k
  have ih0 := barrowref01_Clamp.mono_l k
  unfold barrowref01_Clamp.f
  repeat' first
      | (with_reducible exact ih0 _ _ _ _)
      | (with_reducible exact LeO.refl _)
      | (with_reducible exact LeO.none _)
      | (with_reducible refine LeO.ite ?_ ?_)
      | (with_reducible refine LeO.bind ?_ (fun _ => ?_))
      | exact ih0 _ _ _ _
      | exact LeO.none _
      | refine LeO.ite ?_ ?_
      | refine LeO.bind ?_ (fun _ => ?_)
set_option maxHeartbeats 8000000 in
set_option maxRecDepth 100000 in
theorem barrowref01_Clamp.calls (k : Nat) (a0 : Int) (a1 : Int) (a2 : Int) (r : Int) (w : World) (h : barrowref01_Clamp.f k a0 a1 a2 = some r) :
    Calls Try.prog 16 #[.int .i64 a0, .int .i64 a1, .int .i64 a2] w fun e w' => e = .returned (.int .i64 r) ∧ Drawn0 w w' := by
  have H : (if a1 > a2 then (barrowref01_Clamp.j0 k a0 a1 a2 true) else (barrowref01_Clamp.j0 k a0 a1 a2 (decide (a0 < a1)))) = some r := h
  clear h
  have HC4 := Aside0.mk H
  clear H
  go_enter Try.func16, Try.ntmps16
  go_upto_region 1 with (fail)
  go_cut [14] (fun v14 wc => ∃ (kq : Nat) (x14_3 : Bool), v14 = .bool x14_3 ∧ Aside0 (barrowref01_Clamp.j0 kq a0 a1 a2 x14_3 = some r) ∧ Aside0 (kq ≤ k) ∧ Drawn0 w wc)
  case first =>
    have H := HC4.out
    clear HC4
    by_cases c5 : a1 > a2
    · rw [if_pos c5] at H
      have c5b0 : decide (a2 < a1) = true := decide_eq_true c5
      clear c5
      (first | rw [c5b0] | (simp only [i64_w, i32_w]; rw [c5b0]) | skip)
      have H' := Aside0.mk H
      clear H
      go_wp2
      go_meet
      case rel => exact ⟨_, (true), (by first | rfl | (simp; done) | (simp [*]; done)), H', ⟨by first | omega | exact Nat.le_refl _⟩, by repeat (first | exact Drawn0.refl _ | apply Drawn0.step)⟩
    · rw [if_neg c5] at H
      have c5b0 : decide (a2 < a1) = false := decide_eq_false c5
      clear c5
      (first | rw [c5b0] | (simp only [i64_w, i32_w]; rw [c5b0]) | skip)
      have H' := Aside0.mk H
      clear H
      go_wp2
      go_meet
      case rel => exact ⟨_, (decide (a0 < a1)), (by first | rfl | (simp; done) | (simp [*]; done)), H', ⟨by first | omega | exact Nat.le_refl _⟩, by repeat (first | exact Drawn0.refl _ | apply Drawn0.step)⟩
  case rest =>
    clear HC4
    try clear c1
    try clear p2
    try clear c5
    try clear c5b0
    obtain ⟨kq, x14_3, rfl, HA, HJ3, ⟨mc3, rfl⟩⟩ := hcut
    cases kq with
    | zero => exact absurd HA.out (by simp [barrowref01_Clamp.j0])
    | succ kj3 =>
      have H := HA.out
      clear HA
      simp only [barrowref01_Clamp.j0] at H
      by_cases c6 : x14_3 = true
      · subst c6
        have H1 : (some a1) = some r := by rw [if_pos rfl] at H; exact H
        clear H
        have H := H1
        clear H1
        obtain rfl := Option.some.inj H
        go_wp2
        go_ret
        exact ⟨by first | rfl | (simp; done) | (simp [*]; done), by repeat (first | exact Drawn0.refl _ | apply Drawn0.step)⟩
      · replace c6 := Bool.eq_false_iff.mpr c6
        subst c6
        have H1 : (if a0 > a2 then (some a2) else (some a0)) = some r := by rw [if_neg (show ¬ (false = true) by decide)] at H; exact H
        clear H
        have H := H1
        clear H1
        by_cases c7 : a0 > a2
        · rw [if_pos c7] at H
          have c7b0 : decide (a2 < a0) = true := decide_eq_true c7
          clear c7
          obtain rfl := Option.some.inj H
          go_wp2
          go_ret
          exact ⟨by first | rfl | (simp; done) | (simp [*]; done), by repeat (first | exact Drawn0.refl _ | apply Drawn0.step)⟩
        · rw [if_neg c7] at H
          have c7b0 : decide (a2 < a0) = false := decide_eq_false c7
          clear c7
          obtain rfl := Option.some.inj H
          go_wp2
          go_ret
          exact ⟨by first | rfl | (simp; done) | (simp [*]; done), by repeat (first | exact Drawn0.refl _ | apply Drawn0.step)⟩

/-! ### barrowref01_Part: function 18 -/
def barrowref01_Part.f (k : Nat) (a0 : Int) (a1 : Int) (a2 : Int) : Option (Int) := if a2 < 1 then (some 0) else ((barrowref01_Clamp.f k a0 (-2147483647) 2147483647).bind fun t128 => ((barrowref01_Clamp.f k a1 (-2147483647) 2147483647).bind fun t129 => (if a2 = 0 then (none) else (some (wrap64 (Int.tdiv (wrap64 (t128 * t129)) a2))))))
theorem barrowref01_Part.mono : ∀ a0 a1 a2 k, LeO (barrowref01_Part.f k a0 a1 a2) (barrowref01_Part.f (k + 1) a0 a1 a2) := by
  intro a0 a1 a2 k
  unfold barrowref01_Part.f
  repeat' first
      | (with_reducible exact barrowref01_Clamp.mono _ _ _ _)
      | (with_reducible exact LeO.refl _)
      | (with_reducible exact LeO.none _)
      | (with_reducible refine LeO.ite ?_ ?_)
      | (with_reducible refine LeO.bind ?_ (fun _ => ?_))
      | exact barrowref01_Clamp.mono _ _ _ _
      | exact LeO.none _
      | refine LeO.ite ?_ ?_
      | refine LeO.bind ?_ (fun _ => ?_)
set_option maxHeartbeats 8000000 in
set_option maxRecDepth 100000 in
theorem barrowref01_Part.calls (k : Nat) (a0 : Int) (a1 : Int) (a2 : Int) (r : Int) (w : World) (h : barrowref01_Part.f k a0 a1 a2 = some r) :
    Calls Try.prog 18 #[.int .i64 a0, .int .i64 a1, .int .i64 a2] w fun e w' => e = .returned (.int .i64 r) ∧ Drawn0 w w' := by
  have H : (if a2 < 1 then (some 0) else ((barrowref01_Clamp.f k a0 (-2147483647) 2147483647).bind fun t128 => ((barrowref01_Clamp.f k a1 (-2147483647) 2147483647).bind fun t129 => (if a2 = 0 then (none) else (some (wrap64 (Int.tdiv (wrap64 (t128 * t129)) a2))))))) = some r := h
  clear h
  by_cases c4 : a2 < 1
  · rw [if_pos c4] at H
    have c4b0 : decide (a2 < 1) = true := decide_eq_true c4
    clear c4
    obtain rfl := Option.some.inj H
    go_enter Try.func18, Try.ntmps18
    go_wp2
    go_ret
    exact ⟨by first | rfl | (simp; done) | (simp [*]; done), by repeat (first | exact Drawn0.refl _ | apply Drawn0.step)⟩
  · rw [if_neg c4] at H
    have c4b0 : decide (a2 < 1) = false := decide_eq_false c4
    clear c4
    replace H := Option.bind_eq_some_iff.mp H
    obtain ⟨t128, A50, H⟩ := H
    replace H : ((barrowref01_Clamp.f k a1 (-2147483647) 2147483647).bind fun t129 => (if a2 = 0 then (none) else (some (wrap64 (Int.tdiv (wrap64 (t128 * t129)) a2))))) = some r := H
    have A5 := Aside0.mk A50
    clear A50
    replace H := Option.bind_eq_some_iff.mp H
    obtain ⟨t129, A60, H⟩ := H
    replace H : (if a2 = 0 then (none) else (some (wrap64 (Int.tdiv (wrap64 (t128 * t129)) a2)))) = some r := H
    have A6 := Aside0.mk A60
    clear A60
    by_cases c7 : a2 = 0
    · rw [if_pos c7] at H
      exact absurd H (by simp)
    · rw [if_neg c7] at H
      have c7b0 : (a2 == 0) = false := beq_eq_false_iff_ne.mpr c7
      have c7b1 : (a2 != 0) = true := bne_iff_ne.mpr c7
      obtain rfl := Option.some.inj H
      go_enter Try.func18, Try.ntmps18
      go_wp2_with (first | ((with_reducible refine gate_callee (f := 16) rfl ?_); refine goesL_ (some 10) rfl rfl Try.func16 (by kernel_rfl) rfl #[.int .i64 a0, .int .i64 (-2147483647), .int .i64 2147483647] rfl (by (try simp only [List.map_toArray, List.map_cons, List.map_nil]); first | done | rfl | (simp only [List.length_drop, List.length_take]; rfl)) ?_; (with_reducible refine (barrowref01_Clamp.calls k a0 (-2147483647) 2147483647 t128 _ A5.out).mono ?_); rintro e w' ⟨rfl, ⟨nd, rfl⟩⟩; refine ⟨_, rfl, ?_⟩) | ((with_reducible refine gate_callee (f := 16) rfl ?_); refine goesL_ (some 12) rfl rfl Try.func16 (by kernel_rfl) rfl #[.int .i64 a1, .int .i64 (-2147483647), .int .i64 2147483647] rfl (by (try simp only [List.map_toArray, List.map_cons, List.map_nil]); first | done | rfl | (simp only [List.length_drop, List.length_take]; rfl)) ?_; (with_reducible refine (barrowref01_Clamp.calls k a1 (-2147483647) 2147483647 t129 _ A6.out).mono ?_); rintro e w' ⟨rfl, ⟨nd, rfl⟩⟩; refine ⟨_, rfl, ?_⟩))
      go_ret
      exact ⟨by first | rfl | (simp; done) | (simp [*]; done), by repeat (first | exact Drawn0.refl _ | apply Drawn0.step)⟩

/-! ### barrowref01_Root: function 20 -/
mutual
def barrowref01_Root.l0 : Nat → Int → Int → Int → Option (Int)
  | 0, _, _, _ => none
  | k + 1, x0, x3, x4 => if (wrap64 (x3 + 1)) < x4 then (barrowref01_Root.j1 k x0 x3 x4 (decide (x0 > 0))) else (barrowref01_Root.j1 k x0 x3 x4 false)
def barrowref01_Root.j1 : Nat → Int → Int → Int → Bool → Option (Int)
  | 0, _, _, _, _ => none
  | k + 1, x0, x3, x4, x13 => if x13 = true then (if (wrap64 ((wrap64 (Int.tdiv (wrap64 (x3 + x4)) 2)) * (wrap64 (Int.tdiv (wrap64 (x3 + x4)) 2)))) ≤ x0 then (barrowref01_Root.l0 k x0 (wrap64 (Int.tdiv (wrap64 (x3 + x4)) 2)) x4) else (barrowref01_Root.l0 k x0 x3 (wrap64 (Int.tdiv (wrap64 (x3 + x4)) 2)))) else (some x3)
end
def barrowref01_Root.f (k : Nat) (a0 : Int) : Option (Int) := barrowref01_Root.l0 k a0 0 3037000500
theorem barrowref01_Root.mono_l : ∀ k, (∀ y0 y1 y2, LeO (barrowref01_Root.l0 k y0 y1 y2) (barrowref01_Root.l0 (k + 1) y0 y1 y2)) ∧ (∀ y0 y1 y2 y3, LeO (barrowref01_Root.j1 k y0 y1 y2 y3) (barrowref01_Root.j1 (k + 1) y0 y1 y2 y3))
  | 0 => ⟨fun _ _ _ r h => by simp [barrowref01_Root.l0] at h, fun _ _ _ _ r h => by simp [barrowref01_Root.j1] at h⟩
  | k + 1 => by
    obtain ⟨ih0, ih1⟩ := barrowref01_Root.mono_l k
    refine ⟨?_, ?_⟩
    · intro y0 y1 y2
      unfold barrowref01_Root.l0
      repeat' first
      | (with_reducible exact ih0 _ _ _)
      | (with_reducible exact ih1 _ _ _ _)
      | (with_reducible exact LeO.refl _)
      | (with_reducible exact LeO.none _)
      | (with_reducible refine LeO.ite ?_ ?_)
      | (with_reducible refine LeO.bind ?_ (fun _ => ?_))
      | exact ih0 _ _ _
      | exact ih1 _ _ _ _
      | exact LeO.none _
      | refine LeO.ite ?_ ?_
      | refine LeO.bind ?_ (fun _ => ?_)
    · intro y0 y1 y2 y3
      unfold barrowref01_Root.j1
      repeat' first
      | (with_reducible exact ih0 _ _ _)
      | (with_reducible exact ih1 _ _ _ _)
      | (with_reducible exact LeO.refl _)
      | (with_reducible exact LeO.none _)
      | (with_reducible refine LeO.ite ?_ ?_)
      | (with_reducible refine LeO.bind ?_ (fun _ => ?_))
      | exact ih0 _ _ _
      | exact ih1 _ _ _ _
      | exact LeO.none _
      | refine LeO.ite ?_ ?_
      | refine LeO.bind ?_ (fun _ => ?_)
theorem barrowref01_Root.mono : ∀ a0 k, LeO (barrowref01_Root.f k a0) (barrowref01_Root.f (k + 1) a0) := by
  intro a0 k
  obtain ⟨ih0, ih1⟩ := barrowref01_Root.mono_l k
  unfold barrowref01_Root.f
  repeat' first
      | (with_reducible exact ih0 _ _ _)
      | (with_reducible exact ih1 _ _ _ _)
      | (with_reducible exact LeO.refl _)
      | (with_reducible exact LeO.none _)
      | (with_reducible refine LeO.ite ?_ ?_)
      | (with_reducible refine LeO.bind ?_ (fun _ => ?_))
      | exact ih0 _ _ _
      | exact ih1 _ _ _ _
      | exact LeO.none _
      | refine LeO.ite ?_ ?_
      | refine LeO.bind ?_ (fun _ => ?_)
set_option maxHeartbeats 8000000 in
set_option maxRecDepth 100000 in
theorem barrowref01_Root.calls (k : Nat) (a0 : Int) (r : Int) (w : World) (h : barrowref01_Root.f k a0 = some r) :
    Calls Try.prog 20 #[.int .i64 a0] w fun e w' => e = .returned (.int .i64 r) ∧ Drawn0 w w' := by
  have H : (barrowref01_Root.l0 k a0 0 3037000500) = some r := h
  clear h
  have H' := Aside0.mk H
  clear H
  go_enter Try.func20, Try.ntmps20
  go_wp2
  go_loopg [3, 4] k (fun kq v3 v4 w' => ∃ (x3_1 : Int) (x4_1 : Int), v3 = .int .i64 x3_1 ∧ v4 = .int .i64 x4_1 ∧ Aside0 (barrowref01_Root.l0 kq a0 x3_1 x4_1 = some r) ∧ Aside0 (kq ≤ k) ∧ Drawn0 w w')
  case atStart => exact ⟨(0), (3037000500), (by first | rfl | (simp; done) | (simp [*]; done)), (by first | rfl | (simp; done) | (simp [*]; done)), H', ⟨Nat.le_refl _⟩, by repeat (first | exact Drawn0.refl _ | apply Drawn0.step)⟩
  case round =>
    clear H'
    obtain ⟨x3_1, x4_1, rfl, rfl, HA, HK1, ⟨m1, rfl⟩⟩ := hrel
    cases gk with
    | zero => exact absurd HA.out (by simp [barrowref01_Root.l0])
    | succ k1 =>
      have H := HA.out
      clear HA
      simp only [barrowref01_Root.l0] at H
      have HC2 := Aside0.mk H
      clear H
      go_upto_region 3 with (fail)
      go_cut [13] (fun v13 wc => ∃ (kq : Nat) (x13_1 : Bool), v13 = .bool x13_1 ∧ Aside0 (barrowref01_Root.j1 kq a0 x3_1 x4_1 x13_1 = some r) ∧ Aside0 (kq ≤ k1) ∧ Drawn0 w wc)
      case first =>
        have H := HC2.out
        clear HC2
        by_cases c3 : (wrap64 (x3_1 + 1)) < x4_1
        · rw [if_pos c3] at H
          have c3b0 : decide ((wrap64 (x3_1 + 1)) < x4_1) = true := decide_eq_true c3
          clear c3
          (first | rw [c3b0] | (simp only [i64_w, i32_w]; rw [c3b0]) | skip)
          have H' := Aside0.mk H
          clear H
          go_wp2
          go_meet
          case rel => exact ⟨_, (decide (a0 > 0)), (by first | rfl | (simp; done) | (simp [*]; done)), H', ⟨by have := HK1.out; first | omega | exact Nat.le_refl _⟩, by repeat (first | exact Drawn0.refl _ | apply Drawn0.step)⟩
        · rw [if_neg c3] at H
          have c3b0 : decide ((wrap64 (x3_1 + 1)) < x4_1) = false := decide_eq_false c3
          clear c3
          (first | rw [c3b0] | (simp only [i64_w, i32_w]; rw [c3b0]) | skip)
          have H' := Aside0.mk H
          clear H
          go_wp2
          go_meet
          case rel => exact ⟨_, (false), (by first | rfl | (simp; done) | (simp [*]; done)), H', ⟨by have := HK1.out; first | omega | exact Nat.le_refl _⟩, by repeat (first | exact Drawn0.refl _ | apply Drawn0.step)⟩
      case rest =>
        clear HC2
        try clear c2
        try clear p2
        try clear c3
        try clear c3b0
        obtain ⟨kq, x13_1, rfl, HA, HJ1, ⟨mc1, rfl⟩⟩ := hcut
        cases kq with
        | zero => exact absurd HA.out (by simp [barrowref01_Root.j1])
        | succ kj1 =>
          have H := HA.out
          clear HA
          simp only [barrowref01_Root.j1] at H
          by_cases c4 : x13_1 = true
          · subst c4
            have H1 : (if (wrap64 ((wrap64 (Int.tdiv (wrap64 (x3_1 + x4_1)) 2)) * (wrap64 (Int.tdiv (wrap64 (x3_1 + x4_1)) 2)))) ≤ a0 then (barrowref01_Root.l0 kj1 a0 (wrap64 (Int.tdiv (wrap64 (x3_1 + x4_1)) 2)) x4_1) else (barrowref01_Root.l0 kj1 a0 x3_1 (wrap64 (Int.tdiv (wrap64 (x3_1 + x4_1)) 2)))) = some r := by rw [if_pos rfl] at H; exact H
            clear H
            have H := H1
            clear H1
            by_cases c5 : (wrap64 ((wrap64 (Int.tdiv (wrap64 (x3_1 + x4_1)) 2)) * (wrap64 (Int.tdiv (wrap64 (x3_1 + x4_1)) 2)))) ≤ a0
            · rw [if_pos c5] at H
              have c5b0 : decide ((wrap64 ((wrap64 (Int.tdiv (wrap64 (x3_1 + x4_1)) 2)) * (wrap64 (Int.tdiv (wrap64 (x3_1 + x4_1)) 2)))) ≤ a0) = true := decide_eq_true c5
              clear c5
              have H' := Aside0.mk H
              clear H
              go_wp2
              go_roundg kj1
              case measure => have := HK1.out; have := HJ1.out; omega
              case rel => exact ⟨(wrap64 (Int.tdiv (wrap64 (x3_1 + x4_1)) 2)), (x4_1), (by first | rfl | (simp; done) | (simp [*]; done)), (by first | rfl | (simp; done) | (simp [*]; done)), H', ⟨by have := HK1.out; have := HJ1.out; omega⟩, by repeat (first | exact Drawn0.refl _ | apply Drawn0.step)⟩
            · rw [if_neg c5] at H
              have c5b0 : decide ((wrap64 ((wrap64 (Int.tdiv (wrap64 (x3_1 + x4_1)) 2)) * (wrap64 (Int.tdiv (wrap64 (x3_1 + x4_1)) 2)))) ≤ a0) = false := decide_eq_false c5
              clear c5
              have H' := Aside0.mk H
              clear H
              go_wp2
              go_roundg kj1
              case measure => have := HK1.out; have := HJ1.out; omega
              case rel => exact ⟨(x3_1), (wrap64 (Int.tdiv (wrap64 (x3_1 + x4_1)) 2)), (by first | rfl | (simp; done) | (simp [*]; done)), (by first | rfl | (simp; done) | (simp [*]; done)), H', ⟨by have := HK1.out; have := HJ1.out; omega⟩, by repeat (first | exact Drawn0.refl _ | apply Drawn0.step)⟩
          · replace c4 := Bool.eq_false_iff.mpr c4
            subst c4
            have H1 : (some x3_1) = some r := by rw [if_neg (show ¬ (false = true) by decide)] at H; exact H
            clear H
            have H := H1
            clear H1
            obtain rfl := Option.some.inj H
            go_wp2
            go_ret
            exact ⟨by first | rfl | (simp; done) | (simp [*]; done), by repeat (first | exact Drawn0.refl _ | apply Drawn0.step)⟩

/-! ### barrowlaw01_SatParts: function 4 -/
def barrowlaw01_SatParts.f (k : Nat) (a0 : Int) (a1 : Int) (a2 : Int) : Option (Bool) := (barrowlaw01_small.f k).bind fun t130 => (if t130 = true then ((sat_Clamp.f a0 a1 a2).bind fun t131 => ((barrowref01_Clamp.f k a0 a1 a2).bind fun t132 => (if t131 = t132 then ((sat_Part.f a0 a1 a2).bind fun t133 => ((barrowref01_Part.f k a0 a1 a2).bind fun t134 => (if t133 = t134 then ((sat_Root.f k a0).bind fun t135 => ((barrowref01_Root.f k a0).bind fun t136 => (some (t135 == t136)))) else (some false)))) else (some false)))) else (some false))
theorem barrowlaw01_SatParts.mono : ∀ a0 a1 a2 k, LeO (barrowlaw01_SatParts.f k a0 a1 a2) (barrowlaw01_SatParts.f (k + 1) a0 a1 a2) := by
  intro a0 a1 a2 k
  unfold barrowlaw01_SatParts.f
  repeat' first
      | (with_reducible exact barrowlaw01_small.mono _)
      | (with_reducible exact barrowref01_Clamp.mono _ _ _ _)
      | (with_reducible exact barrowref01_Part.mono _ _ _ _)
      | (with_reducible exact barrowref01_Root.mono _ _)
      | (with_reducible exact sat_Root.mono _ _)
      | (with_reducible exact LeO.refl _)
      | (with_reducible exact LeO.none _)
      | (with_reducible refine LeO.ite ?_ ?_)
      | (with_reducible refine LeO.bind ?_ (fun _ => ?_))
      | exact barrowlaw01_small.mono _
      | exact barrowref01_Clamp.mono _ _ _ _
      | exact barrowref01_Part.mono _ _ _ _
      | exact barrowref01_Root.mono _ _
      | exact sat_Root.mono _ _
      | exact LeO.none _
      | refine LeO.ite ?_ ?_
      | refine LeO.bind ?_ (fun _ => ?_)
set_option maxHeartbeats 8000000 in
set_option maxRecDepth 100000 in
theorem barrowlaw01_SatParts.calls (k : Nat) (a0 : Int) (a1 : Int) (a2 : Int) (r : Bool) (w : World) (h : barrowlaw01_SatParts.f k a0 a1 a2 = some r) :
    Calls Try.prog 4 #[.int .i64 a0, .int .i64 a1, .int .i64 a2] w fun e w' => e = .returned (.bool r) ∧ Below w.heap.size w w' := by
  have HB := Aside0.mk (Below.refl w.heap.size w)
  have H : ((barrowlaw01_small.f k).bind fun t130 => (if t130 = true then ((sat_Clamp.f a0 a1 a2).bind fun t131 => ((barrowref01_Clamp.f k a0 a1 a2).bind fun t132 => (if t131 = t132 then ((sat_Part.f a0 a1 a2).bind fun t133 => ((barrowref01_Part.f k a0 a1 a2).bind fun t134 => (if t133 = t134 then ((sat_Root.f k a0).bind fun t135 => ((barrowref01_Root.f k a0).bind fun t136 => (some (t135 == t136)))) else (some false)))) else (some false)))) else (some false))) = some r := h
  clear h
  replace H := Option.bind_eq_some_iff.mp H
  obtain ⟨t130, A40, H⟩ := H
  replace H : (if t130 = true then ((sat_Clamp.f a0 a1 a2).bind fun t131 => ((barrowref01_Clamp.f k a0 a1 a2).bind fun t132 => (if t131 = t132 then ((sat_Part.f a0 a1 a2).bind fun t133 => ((barrowref01_Part.f k a0 a1 a2).bind fun t134 => (if t133 = t134 then ((sat_Root.f k a0).bind fun t135 => ((barrowref01_Root.f k a0).bind fun t136 => (some (t135 == t136)))) else (some false)))) else (some false)))) else (some false)) = some r := H
  have A4 := Aside0.mk A40
  clear A40
  by_cases c5 : t130 = true
  · subst c5
    have H1 : ((sat_Clamp.f a0 a1 a2).bind fun t131 => ((barrowref01_Clamp.f k a0 a1 a2).bind fun t132 => (if t131 = t132 then ((sat_Part.f a0 a1 a2).bind fun t133 => ((barrowref01_Part.f k a0 a1 a2).bind fun t134 => (if t133 = t134 then ((sat_Root.f k a0).bind fun t135 => ((barrowref01_Root.f k a0).bind fun t136 => (some (t135 == t136)))) else (some false)))) else (some false)))) = some r := by rw [if_pos rfl] at H; exact H
    clear H
    have H := H1
    clear H1
    replace H := Option.bind_eq_some_iff.mp H
    obtain ⟨t131, A60, H⟩ := H
    replace H : ((barrowref01_Clamp.f k a0 a1 a2).bind fun t132 => (if t131 = t132 then ((sat_Part.f a0 a1 a2).bind fun t133 => ((barrowref01_Part.f k a0 a1 a2).bind fun t134 => (if t133 = t134 then ((sat_Root.f k a0).bind fun t135 => ((barrowref01_Root.f k a0).bind fun t136 => (some (t135 == t136)))) else (some false)))) else (some false))) = some r := H
    have A6 := Aside0.mk A60
    clear A60
    replace H := Option.bind_eq_some_iff.mp H
    obtain ⟨t132, A70, H⟩ := H
    replace H : (if t131 = t132 then ((sat_Part.f a0 a1 a2).bind fun t133 => ((barrowref01_Part.f k a0 a1 a2).bind fun t134 => (if t133 = t134 then ((sat_Root.f k a0).bind fun t135 => ((barrowref01_Root.f k a0).bind fun t136 => (some (t135 == t136)))) else (some false)))) else (some false)) = some r := H
    have A7 := Aside0.mk A70
    clear A70
    by_cases c8 : t131 = t132
    · rw [if_pos c8] at H
      have c8b0 : (t131 == t132) = true := beq_iff_eq.mpr c8
      have c8b1 : (t131 != t132) = false := bne_eq_false_iff_eq.mpr c8
      clear c8
      replace H := Option.bind_eq_some_iff.mp H
      obtain ⟨t133, A90, H⟩ := H
      replace H : ((barrowref01_Part.f k a0 a1 a2).bind fun t134 => (if t133 = t134 then ((sat_Root.f k a0).bind fun t135 => ((barrowref01_Root.f k a0).bind fun t136 => (some (t135 == t136)))) else (some false))) = some r := H
      have A9 := Aside0.mk A90
      clear A90
      replace H := Option.bind_eq_some_iff.mp H
      obtain ⟨t134, A100, H⟩ := H
      replace H : (if t133 = t134 then ((sat_Root.f k a0).bind fun t135 => ((barrowref01_Root.f k a0).bind fun t136 => (some (t135 == t136)))) else (some false)) = some r := H
      have A10 := Aside0.mk A100
      clear A100
      by_cases c11 : t133 = t134
      · rw [if_pos c11] at H
        have c11b0 : (t133 == t134) = true := beq_iff_eq.mpr c11
        have c11b1 : (t133 != t134) = false := bne_eq_false_iff_eq.mpr c11
        clear c11
        replace H := Option.bind_eq_some_iff.mp H
        obtain ⟨t135, A120, H⟩ := H
        replace H : ((barrowref01_Root.f k a0).bind fun t136 => (some (t135 == t136))) = some r := H
        have A12 := Aside0.mk A120
        clear A120
        replace H := Option.bind_eq_some_iff.mp H
        obtain ⟨t136, A130, H⟩ := H
        replace H : (some (t135 == t136)) = some r := H
        have A13 := Aside0.mk A130
        clear A130
        obtain rfl := Option.some.inj H
        go_enter Try.func4, Try.ntmps4
        go_wp2_with (first | ((with_reducible refine gate_callee (f := 8) rfl ?_); refine goesL_ (some 8) rfl rfl Try.func8 (by kernel_rfl) rfl #[] rfl (by (try simp only [List.map_toArray, List.map_cons, List.map_nil]); first | done | rfl | (simp only [List.length_drop, List.length_take]; rfl)) ?_; (with_reducible refine (barrowlaw01_small.calls k  true _ A4.out).mono ?_); rintro e w14 ⟨rfl, hb⟩; refine ⟨_, rfl, ?_⟩; have n0_ := Aside0.mk (below_step (by repeat (first | (with_reducible first | exact HB.out | apply below_alloc | apply pw_below_drewN | apply below_drew1) | exact HB.out)) hb); clear HB; have HB := n0_; clear n0_; (try clear hb); (try clear hb2); (try clear hk); (try clear hi)) | (go_at_call 15; (with_reducible refine (sat_Clamp.calls a0 a1 a2 t131 _ A6.out).mono ?_); rintro e w15 ⟨rfl, hb⟩; have n0_ := Aside0.mk (below_step (by repeat (first | (with_reducible first | exact HB.out | apply below_alloc | apply pw_below_drewN | apply below_drew1) | exact HB.out)) hb); clear HB; have HB := n0_; clear n0_; (try clear hb); (try clear hb2); (try clear hk); (try clear hi)) | (go_at_call 16; (with_reducible refine (barrowref01_Clamp.calls k a0 a1 a2 t132 _ A7.out).mono ?_); rintro e w' ⟨rfl, ⟨nd, rfl⟩⟩) | (go_at_call 17; (with_reducible refine (sat_Part.calls a0 a1 a2 t133 _ A9.out).mono ?_); rintro e w16 ⟨rfl, hb⟩; have n0_ := Aside0.mk (below_step (by repeat (first | (with_reducible first | exact HB.out | apply below_alloc | apply pw_below_drewN | apply below_drew1) | exact HB.out)) hb); clear HB; have HB := n0_; clear n0_; (try clear hb); (try clear hb2); (try clear hk); (try clear hi)) | (go_at_call 18; (with_reducible refine (barrowref01_Part.calls k a0 a1 a2 t134 _ A10.out).mono ?_); rintro e w' ⟨rfl, ⟨nd, rfl⟩⟩) | (go_at_call 19; (with_reducible refine (sat_Root.calls k a0 t135 _ A12.out).mono ?_); rintro e w' ⟨rfl, ⟨nd, rfl⟩⟩) | (go_at_call 20; (with_reducible refine (barrowref01_Root.calls k a0 t136 _ A13.out).mono ?_); rintro e w' ⟨rfl, ⟨nd, rfl⟩⟩))
        go_ret
        exact ⟨by first | rfl | (simp [errW_none, errW_some] <;> rfl) | (simp [*, errW_none, errW_some] <;> rfl), by repeat (first | (with_reducible first | exact HB.out | apply below_alloc | apply pw_below_drewN | apply below_drew1) | exact HB.out)⟩
      · rw [if_neg c11] at H
        have c11b0 : (t133 == t134) = false := beq_eq_false_iff_ne.mpr c11
        have c11b1 : (t133 != t134) = true := bne_iff_ne.mpr c11
        obtain rfl := Option.some.inj H
        go_enter Try.func4, Try.ntmps4
        go_wp2_with (first | ((with_reducible refine gate_callee (f := 8) rfl ?_); refine goesL_ (some 8) rfl rfl Try.func8 (by kernel_rfl) rfl #[] rfl (by (try simp only [List.map_toArray, List.map_cons, List.map_nil]); first | done | rfl | (simp only [List.length_drop, List.length_take]; rfl)) ?_; (with_reducible refine (barrowlaw01_small.calls k  true _ A4.out).mono ?_); rintro e w17 ⟨rfl, hb⟩; refine ⟨_, rfl, ?_⟩; have n0_ := Aside0.mk (below_step (by repeat (first | (with_reducible first | exact HB.out | apply below_alloc | apply pw_below_drewN | apply below_drew1) | exact HB.out)) hb); clear HB; have HB := n0_; clear n0_; (try clear hb); (try clear hb2); (try clear hk); (try clear hi)) | (go_at_call 15; (with_reducible refine (sat_Clamp.calls a0 a1 a2 t131 _ A6.out).mono ?_); rintro e w18 ⟨rfl, hb⟩; have n0_ := Aside0.mk (below_step (by repeat (first | (with_reducible first | exact HB.out | apply below_alloc | apply pw_below_drewN | apply below_drew1) | exact HB.out)) hb); clear HB; have HB := n0_; clear n0_; (try clear hb); (try clear hb2); (try clear hk); (try clear hi)) | (go_at_call 16; (with_reducible refine (barrowref01_Clamp.calls k a0 a1 a2 t132 _ A7.out).mono ?_); rintro e w' ⟨rfl, ⟨nd, rfl⟩⟩) | (go_at_call 17; (with_reducible refine (sat_Part.calls a0 a1 a2 t133 _ A9.out).mono ?_); rintro e w19 ⟨rfl, hb⟩; have n0_ := Aside0.mk (below_step (by repeat (first | (with_reducible first | exact HB.out | apply below_alloc | apply pw_below_drewN | apply below_drew1) | exact HB.out)) hb); clear HB; have HB := n0_; clear n0_; (try clear hb); (try clear hb2); (try clear hk); (try clear hi)) | (go_at_call 18; (with_reducible refine (barrowref01_Part.calls k a0 a1 a2 t134 _ A10.out).mono ?_); rintro e w' ⟨rfl, ⟨nd, rfl⟩⟩))
        go_ret
        exact ⟨by first | rfl | (simp [errW_none, errW_some] <;> rfl) | (simp [*, errW_none, errW_some] <;> rfl), by repeat (first | (with_reducible first | exact HB.out | apply below_alloc | apply pw_below_drewN | apply below_drew1) | exact HB.out)⟩
    · rw [if_neg c8] at H
      have c8b0 : (t131 == t132) = false := beq_eq_false_iff_ne.mpr c8
      have c8b1 : (t131 != t132) = true := bne_iff_ne.mpr c8
      obtain rfl := Option.some.inj H
      go_enter Try.func4, Try.ntmps4
      go_wp2_with (first | ((with_reducible refine gate_callee (f := 8) rfl ?_); refine goesL_ (some 8) rfl rfl Try.func8 (by kernel_rfl) rfl #[] rfl (by (try simp only [List.map_toArray, List.map_cons, List.map_nil]); first | done | rfl | (simp only [List.length_drop, List.length_take]; rfl)) ?_; (with_reducible refine (barrowlaw01_small.calls k  true _ A4.out).mono ?_); rintro e w20 ⟨rfl, hb⟩; refine ⟨_, rfl, ?_⟩; have n0_ := Aside0.mk (below_step (by repeat (first | (with_reducible first | exact HB.out | apply below_alloc | apply pw_below_drewN | apply below_drew1) | exact HB.out)) hb); clear HB; have HB := n0_; clear n0_; (try clear hb); (try clear hb2); (try clear hk); (try clear hi)) | (go_at_call 15; (with_reducible refine (sat_Clamp.calls a0 a1 a2 t131 _ A6.out).mono ?_); rintro e w21 ⟨rfl, hb⟩; have n0_ := Aside0.mk (below_step (by repeat (first | (with_reducible first | exact HB.out | apply below_alloc | apply pw_below_drewN | apply below_drew1) | exact HB.out)) hb); clear HB; have HB := n0_; clear n0_; (try clear hb); (try clear hb2); (try clear hk); (try clear hi)) | (go_at_call 16; (with_reducible refine (barrowref01_Clamp.calls k a0 a1 a2 t132 _ A7.out).mono ?_); rintro e w' ⟨rfl, ⟨nd, rfl⟩⟩))
      go_ret
      exact ⟨by first | rfl | (simp [errW_none, errW_some] <;> rfl) | (simp [*, errW_none, errW_some] <;> rfl), by repeat (first | (with_reducible first | exact HB.out | apply below_alloc | apply pw_below_drewN | apply below_drew1) | exact HB.out)⟩
  · replace c5 := Bool.eq_false_iff.mpr c5
    subst c5
    have H1 : (some false) = some r := by rw [if_neg (show ¬ (false = true) by decide)] at H; exact H
    clear H
    have H := H1
    clear H1
    obtain rfl := Option.some.inj H
    go_enter Try.func4, Try.ntmps4
    go_wp2_with (first | ((with_reducible refine gate_callee (f := 8) rfl ?_); refine goesL_ (some 8) rfl rfl Try.func8 (by kernel_rfl) rfl #[] rfl (by (try simp only [List.map_toArray, List.map_cons, List.map_nil]); first | done | rfl | (simp only [List.length_drop, List.length_take]; rfl)) ?_; (with_reducible refine (barrowlaw01_small.calls k  false _ A4.out).mono ?_); rintro e w22 ⟨rfl, hb⟩; refine ⟨_, rfl, ?_⟩; have n0_ := Aside0.mk (below_step (by repeat (first | (with_reducible first | exact HB.out | apply below_alloc | apply pw_below_drewN | apply below_drew1) | exact HB.out)) hb); clear HB; have HB := n0_; clear n0_; (try clear hb); (try clear hb2); (try clear hk); (try clear hi)))
    go_ret
    exact ⟨by first | rfl | (simp [errW_none, errW_some] <;> rfl) | (simp [*, errW_none, errW_some] <;> rfl), by repeat (first | (with_reducible first | exact HB.out | apply below_alloc | apply pw_below_drewN | apply below_drew1) | exact HB.out)⟩

/-- THE ONE PURE STATEMENT of barrowlaw01_SatParts: yours. -/
def barrowlaw01_SatParts.Pure : Prop := ∀ (a0 : Int) (a1 : Int) (a2 : Int), (Lit.int .i64 a0).wf = true → (Lit.int .i64 a1).wf = true → (Lit.int .i64 a2).wf = true → ∃ k, barrowlaw01_SatParts.f k a0 a1 a2 = some true
theorem barrowlaw01_SatParts.walk (P : barrowlaw01_SatParts.Pure) (a0 : Int) (a1 : Int) (a2 : Int) (w : World) (w0 : (Lit.int .i64 a0).wf = true) (w1 : (Lit.int .i64 a1).wf = true) (w2 : (Lit.int .i64 a2).wf = true) :
    Calls Try.prog 4 #[.int .i64 a0, .int .i64 a1, .int .i64 a2] w fun e w' => e = .returned (.bool true) ∧ Below w.heap.size w w' := by
  obtain ⟨k, h⟩ := P a0 a1 a2 w0 w1 w2
  refine (barrowlaw01_SatParts.calls k a0 a1 a2 true w h).mono ?_
  rintro e w' ⟨rfl, hd⟩
  exact ⟨rfl, hd⟩

end Go.Proofs.Ytgffgmkfafdjjaa.XSat
