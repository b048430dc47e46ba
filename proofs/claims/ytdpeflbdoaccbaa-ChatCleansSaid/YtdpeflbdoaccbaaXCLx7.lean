-- Written by xprint.py (a program of this session) for this claim
import Derived.Test.YtdpeflbdoaccbaaSL7
import Derived.Test.YtdpeflbdoaccbaaSL5
import Derived.Test.YtdpeflbdoaccbaaXCLx0
import Derived.Test.YtdpeflbdoaccbaaXCLx6
namespace Go.Proofs.Ytdpeflbdoaccbaa.XCL
open Go.Proofs.YtdpeflbdoaccbaaV Go.Proofs.YtdpeflbdoaccbaaS
open Go.RowKit Go.Proofs.YtdpeflbdoaccbaaW.PrintWords Go.Proofs.YtdpeflbdoaccbaaW.PrintLast Go.Proofs.YtdpeflbdoaccbaaW.PrintMore
attribute [local go_sem] max2_int min2_int max_two min_two max_three min_three max_four min_four   -- for this text's walks alone
set_option linter.unusedVariables false
set_option linter.unusedSimpArgs false

/-! ### stringslite_HasPrefix: function 65 -/
def stringslite_HasPrefix.f (a0 : ByteArray) (a1 : ByteArray) : Option (Bool) := if (a0.size : Int) ≥ (a1.size : Int) then (if 0 ≤ (a1.size : Int) then (if (a1.size : Int) ≤ (a0.size : Int) then (some ((a0.extract 0 ((a1.size : Int) : Int).toNat).toList == a1.toList)) else (none)) else (none)) else (some false)
set_option maxHeartbeats 8000000 in
set_option maxRecDepth 100000 in
theorem stringslite_HasPrefix.calls (a0 : ByteArray) (a1 : ByteArray) (r : Bool) (w : World) (h : stringslite_HasPrefix.f a0 a1 = some r) :
    Calls Try.prog 65 #[.string a0, .string a1] w fun e w' => e = .returned (.bool r) ∧ Drawn0 w w' := by
  have H : (if (a0.size : Int) ≥ (a1.size : Int) then (if 0 ≤ (a1.size : Int) then (if (a1.size : Int) ≤ (a0.size : Int) then (some ((a0.extract 0 ((a1.size : Int) : Int).toNat).toList == a1.toList)) else (none)) else (none)) else (some false)) = some r := h
  clear h
  by_cases c3 : (a0.size : Int) ≥ (a1.size : Int)
  · rw [if_pos c3] at H
    have c3b0 : decide ((a1.size : Int) ≤ (a0.size : Int)) = true := decide_eq_true c3
    have c3b1 : decide (a1.size ≤ a0.size) = true := decide_eq_true (Int.ofNat_le.mp c3)
    clear c3
    by_cases c4 : 0 ≤ (a1.size : Int)
    · rw [if_pos c4] at H
      have c4b0 := eq_true c4
      have c4b1 : decide (0 ≤ (a1.size : Int)) = true := decide_eq_true c4
      clear c4
      by_cases c5 : (a1.size : Int) ≤ (a0.size : Int)
      · rw [if_pos c5] at H
        have c5b0 := eq_true c5
        have c5b1 : decide ((a1.size : Int) ≤ (a0.size : Int)) = true := decide_eq_true c5
        clear c5
        obtain rfl := Option.some.inj H
        go_enter Try.func65, Try.ntmps65
        go_wp2
        go_ret
        exact ⟨by first | rfl | (simp; done) | (simp [*]; done), by repeat (first | exact Drawn0.refl _ | apply Drawn0.step)⟩
      · rw [if_neg c5] at H
        exact absurd H (by simp)
    · rw [if_neg c4] at H
      exact absurd H (by simp)
  · rw [if_neg c3] at H
    have c3b0 : decide ((a1.size : Int) ≤ (a0.size : Int)) = false := decide_eq_false c3
    have c3b1 : decide (a1.size ≤ a0.size) = false := decide_eq_false (fun h => c3 (Int.ofNat_le.mpr h))
    clear c3
    obtain rfl := Option.some.inj H
    go_enter Try.func65, Try.ntmps65
    go_wp2
    go_ret
    exact ⟨by first | rfl | (simp; done) | (simp [*]; done), by repeat (first | exact Drawn0.refl _ | apply Drawn0.step)⟩

/-! ### strings_HasPrefix: function 44 -/
def strings_HasPrefix.f (a0 : ByteArray) (a1 : ByteArray) : Option (Bool) := (stringslite_HasPrefix.f a0 a1).bind fun t212 => (some t212)
set_option maxHeartbeats 8000000 in
set_option maxRecDepth 100000 in
theorem strings_HasPrefix.calls (a0 : ByteArray) (a1 : ByteArray) (r : Bool) (w : World) (h : strings_HasPrefix.f a0 a1 = some r) :
    Calls Try.prog 44 #[.string a0, .string a1] w fun e w' => e = .returned (.bool r) ∧ Drawn0 w w' := by
  have H : ((stringslite_HasPrefix.f a0 a1).bind fun t212 => (some t212)) = some r := h
  clear h
  replace H := Option.bind_eq_some_iff.mp H
  obtain ⟨t212, A30, H⟩ := H
  replace H : (some t212) = some r := H
  have A3 := Aside0.mk A30
  clear A30
  obtain rfl := Option.some.inj H
  go_enter Try.func44, Try.ntmps44
  go_wp2_with (first | ((with_reducible refine gate_callee (f := 65) rfl ?_); refine goesL_ (some 7) rfl rfl Try.func65 (by kernel_rfl) rfl #[.string a0, .string a1] rfl (by (try simp only [List.map_toArray, List.map_cons, List.map_nil]); first | done | rfl | (simp only [List.length_drop, List.length_take]; rfl)) ?_; (with_reducible refine (stringslite_HasPrefix.calls a0 a1 t212 _ A3.out).mono ?_); rintro e w' ⟨rfl, ⟨nd, rfl⟩⟩; refine ⟨_, rfl, ?_⟩))
  go_ret
  exact ⟨by first | rfl | (simp; done) | (simp [*]; done), by repeat (first | exact Drawn0.refl _ | apply Drawn0.step)⟩

/-! ### chat_longest: function 30 -/
def chat_longest.l0 : Nat → ByteArray → Int → List ByteArray → Int → Int → Option (Int)
  | 0, _, _, _, _, _ => none
  | k + 1, x0, x5, x8, x9, x10 => if x10 < x9 then (if 0 ≤ x10 then (if x10 < (x8.length : Int) then (if ((rdOf ByteArray.empty x8 x10).size : Int) > x5 then ((strings_HasPrefix.f x0 (rdOf ByteArray.empty x8 x10)).bind fun t214 => (if t214 = true then (chat_longest.l0 k x0 ((rdOf ByteArray.empty x8 x10).size : Int) x8 x9 (wrap64 (x10 + 1))) else (chat_longest.l0 k x0 x5 x8 x9 (wrap64 (x10 + 1))))) else (chat_longest.l0 k x0 x5 x8 x9 (wrap64 (x10 + 1)))) else (none)) else (none)) else (some x5)
def chat_longest.f (k : Nat) (a0 : ByteArray) (l1 : List ByteArray) : Option (Int) := chat_longest.l0 k a0 0 l1 (l1.length : Int) 0
theorem chat_longest.mono_l : ∀ k, (∀ y0 y1 y2 y3 y4, LeO (chat_longest.l0 k y0 y1 y2 y3 y4) (chat_longest.l0 (k + 1) y0 y1 y2 y3 y4))
  | 0 => fun _ _ _ _ _ r h => by simp [chat_longest.l0] at h
  | k + 1 => by
    have ih0 := chat_longest.mono_l k
    · intro y0 y1 y2 y3 y4
      unfold chat_longest.l0
      repeat' first
      | (with_reducible exact ih0 _ _ _ _ _)
      | (with_reducible exact LeO.refl _)
      | (with_reducible exact LeO.none _)
      | (with_reducible refine LeO.ite ?_ ?_)
      | (with_reducible refine LeO.bind ?_ (fun _ => ?_))
      | exact ih0 _ _ _ _ _
      | exact LeO.none _
      | refine LeO.ite ?_ ?_
      | refine LeO.bind ?_ (fun _ => ?_)
theorem chat_longest.mono : ∀ a0 a1 k, LeO (chat_longest.f k a0 a1) (chat_longest.f (k + 1) a0 a1) := by
  intro a0 a1 k
  have ih0 := chat_longest.mono_l k
  unfold chat_longest.f
  repeat' first
      | (with_reducible exact ih0 _ _ _ _ _)
      | (with_reducible exact LeO.refl _)
      | (with_reducible exact LeO.none _)
      | (with_reducible refine LeO.ite ?_ ?_)
      | (with_reducible refine LeO.bind ?_ (fun _ => ?_))
      | exact ih0 _ _ _ _ _
      | exact LeO.none _
      | refine LeO.ite ?_ ?_
      | refine LeO.bind ?_ (fun _ => ?_)
set_option maxHeartbeats 8000000 in
set_option maxRecDepth 100000 in
theorem chat_longest.calls (k : Nat) (a0 : ByteArray) (A1 : Option Addr) (c1 : Nat) (l1 : List ByteArray) (r : Int) (w : World) (hr1 : Kd.C Kd.string w A1 l1.length l1) (hc1 : l1.length ≤ c1) (h : chat_longest.f k a0 l1 = some r) :
    Calls Try.prog 30 #[.string a0, .slice A1 l1.length c1] w fun e w' => e = .returned (.int .i64 r) ∧ Drawn0 w w' := by
  have HR1 := Aside0.mk hr1
  have HC1 := Aside0.mk hc1
  clear hr1 hc1
  have H : (chat_longest.l0 k a0 0 l1 (l1.length : Int) 0) = some r := h
  clear h
  have H' := Aside0.mk H
  clear H
  go_enter Try.func30, Try.ntmps30
  go_wp2
  go_loopg [5, 10] k (fun kq v5 v10 w' => ∃ (x5_1 : Int) (x10_1 : Int), v5 = .int .i64 x5_1 ∧ v10 = .int .i64 x10_1 ∧ Aside0 (chat_longest.l0 kq a0 x5_1 l1 (l1.length : Int) x10_1 = some r) ∧ Aside0 (kq ≤ k) ∧ Drawn0 w w')
  case atStart => exact ⟨(0), (0), (by first | rfl | (simp; done) | (simp [*]; done)), (by first | rfl | (simp; done) | (simp [*]; done)), H', ⟨Nat.le_refl _⟩, by repeat (first | exact Drawn0.refl _ | apply Drawn0.step)⟩
  case round =>
    clear H'
    try clear c1
    try clear p2
    obtain ⟨x5_1, x10_1, rfl, rfl, HA, HK1, ⟨m1, rfl⟩⟩ := hrel
    cases gk with
    | zero => exact absurd HA.out (by simp [chat_longest.l0])
    | succ k1 =>
      have H := HA.out
      clear HA
      simp only [chat_longest.l0] at H
      by_cases c3 : x10_1 < (l1.length : Int)
      · rw [if_pos c3] at H
        have c3b0 : decide (x10_1 < (l1.length : Int)) = true := decide_eq_true c3
        clear c3
        by_cases c4 : 0 ≤ x10_1
        · rw [if_pos c4] at H
          have c4b0 : decide (0 ≤ x10_1) = true := decide_eq_true c4
          clear c4
          by_cases c5 : x10_1 < (l1.length : Int)
          · rw [if_pos c5] at H
            have c5b0 : decide (x10_1 < (l1.length : Int)) = true := decide_eq_true c5
            clear c5
            by_cases c6 : ((rdOf ByteArray.empty l1 x10_1).size : Int) > x5_1
            · rw [if_pos c6] at H
              have c6b0 : decide (x5_1 < ((rdOf ByteArray.empty l1 x10_1).size : Int)) = true := decide_eq_true c6
              clear c6
              replace H := Option.bind_eq_some_iff.mp H
              obtain ⟨t214, A70, H⟩ := H
              replace H : (if t214 = true then (chat_longest.l0 k1 a0 ((rdOf ByteArray.empty l1 x10_1).size : Int) l1 (l1.length : Int) (wrap64 (x10_1 + 1))) else (chat_longest.l0 k1 a0 x5_1 l1 (l1.length : Int) (wrap64 (x10_1 + 1)))) = some r := H
              have A7 := Aside0.mk A70
              clear A70
              by_cases c8 : t214 = true
              · subst c8
                have H1 : (chat_longest.l0 k1 a0 ((rdOf ByteArray.empty l1 x10_1).size : Int) l1 (l1.length : Int) (wrap64 (x10_1 + 1))) = some r := by rw [if_pos rfl] at H; exact H
                clear H
                have H := H1
                clear H1
                have H' := Aside0.mk H
                clear H
                have p213 : 0 ≤ (x10_1 : Int) := of_decide_eq_true (by first | (with_reducible assumption) | assumption)
                have q213 : x10_1 < (l1.length : Int) := of_decide_eq_true (by first | (with_reducible assumption) | assumption)
                obtain ⟨ad213, e213, hx213_0⟩ := Kd.at_string HR1.out x10_1 p213 q213
                cases e213
                replace p213 := eq_true p213
                replace q213 := eq_true q213
                go_wp2_with (first | (go_at_call 44; (with_reducible refine (strings_HasPrefix.calls a0 (rdOf ByteArray.empty l1 x10_1) true _ A7.out).mono ?_); rintro e w' ⟨rfl, ⟨nd, rfl⟩⟩))
                go_roundg k1
                case measure => have := HK1.out; omega
                case rel => exact ⟨(((rdOf ByteArray.empty l1 x10_1).size : Int)), (wrap64 (x10_1 + 1)), (by first | rfl | (simp; done) | (simp [*]; done)), (by first | rfl | (simp; done) | (simp [*]; done)), H', ⟨by have := HK1.out; omega⟩, by repeat (first | exact Drawn0.refl _ | apply Drawn0.step)⟩
              · replace c8 := Bool.eq_false_iff.mpr c8
                subst c8
                have H1 : (chat_longest.l0 k1 a0 x5_1 l1 (l1.length : Int) (wrap64 (x10_1 + 1))) = some r := by rw [if_neg (show ¬ (false = true) by decide)] at H; exact H
                clear H
                have H := H1
                clear H1
                have H' := Aside0.mk H
                clear H
                have p213 : 0 ≤ (x10_1 : Int) := of_decide_eq_true (by first | (with_reducible assumption) | assumption)
                have q213 : x10_1 < (l1.length : Int) := of_decide_eq_true (by first | (with_reducible assumption) | assumption)
                obtain ⟨ad213, e213, hx213_0⟩ := Kd.at_string HR1.out x10_1 p213 q213
                cases e213
                replace p213 := eq_true p213
                replace q213 := eq_true q213
                go_wp2_with (first | (go_at_call 44; (with_reducible refine (strings_HasPrefix.calls a0 (rdOf ByteArray.empty l1 x10_1) false _ A7.out).mono ?_); rintro e w' ⟨rfl, ⟨nd, rfl⟩⟩))
                go_roundg k1
                case measure => have := HK1.out; omega
                case rel => exact ⟨(x5_1), (wrap64 (x10_1 + 1)), (by first | rfl | (simp; done) | (simp [*]; done)), (by first | rfl | (simp; done) | (simp [*]; done)), H', ⟨by have := HK1.out; omega⟩, by repeat (first | exact Drawn0.refl _ | apply Drawn0.step)⟩
            · rw [if_neg c6] at H
              have c6b0 : decide (x5_1 < ((rdOf ByteArray.empty l1 x10_1).size : Int)) = false := decide_eq_false c6
              clear c6
              have H' := Aside0.mk H
              clear H
              have p213 : 0 ≤ (x10_1 : Int) := of_decide_eq_true (by first | (with_reducible assumption) | assumption)
              have q213 : x10_1 < (l1.length : Int) := of_decide_eq_true (by first | (with_reducible assumption) | assumption)
              obtain ⟨ad213, e213, hx213_0⟩ := Kd.at_string HR1.out x10_1 p213 q213
              cases e213
              replace p213 := eq_true p213
              replace q213 := eq_true q213
              go_wp2
              go_roundg k1
              case measure => have := HK1.out; omega
              case rel => exact ⟨(x5_1), (wrap64 (x10_1 + 1)), (by first | rfl | (simp; done) | (simp [*]; done)), (by first | rfl | (simp; done) | (simp [*]; done)), H', ⟨by have := HK1.out; omega⟩, by repeat (first | exact Drawn0.refl _ | apply Drawn0.step)⟩
          · rw [if_neg c5] at H
            exact absurd H (by simp)
        · rw [if_neg c4] at H
          exact absurd H (by simp)
      · rw [if_neg c3] at H
        have c3b0 : decide (x10_1 < (l1.length : Int)) = false := decide_eq_false c3
        clear c3
        obtain rfl := Option.some.inj H
        go_wp2
        go_ret
        exact ⟨by first | rfl | (simp; done) | (simp [*]; done), by repeat (first | exact Drawn0.refl _ | apply Drawn0.step)⟩

/-! ### chat_Clean: function 16 -/
mutual
def chat_Clean.l0 : Nat → ByteArray → (List ByteArray) → (List ByteArray) → Int → Option (ByteArray)
  | 0, _, _, _, _ => none
  | k + 1, a0, l1, x5_0, x15_0 => if x15_0 < (l1.length : Int) then (if 0 ≤ x15_0 then ((chat_lowered.f k (rdOf ByteArray.empty l1 x15_0)).bind fun t217 => ((some (([strOfNums t217] : List ByteArray) : List ByteArray)).bind fun y218 => (if x5_0.length + y218.length < 8796093022208 then ((some (x5_0 ++ y218 : List ByteArray)).bind fun y219 => (chat_Clean.l0 k a0 l1 y219 (wrap64 (x15_0 + 1)))) else (none)))) else (none)) else ((chat_lowered.f k a0).bind fun t222 => (if a0.size ≤ 9223372036854775807 then ((some (bytesOf a0 : List Int)).bind fun y223 => (chat_Clean.l1 k x5_0 t222 y223 0 y223)) else (none)))
def chat_Clean.l1 : Nat → (List ByteArray) → (List Int) → (List Int) → Int → (List Int) → Option (ByteArray)
  | 0, _, _, _, _, _ => none
  | k + 1, x5_0, t222, y223, x10_1, y3000022_1 => if x10_1 < (y223.length : Int) then (if 0 ≤ x10_1 then (if x10_1 ≤ ((strOfNums t222).size : Int) then ((chat_longest.f k ((strOfNums t222).extract (x10_1 : Int).toNat (strOfNums t222).size) x5_0).bind fun t231 => (if t231 = 0 then (chat_Clean.l1 k x5_0 t222 y223 (wrap64 (x10_1 + 1)) y3000022_1) else (chat_Clean.l2 k x5_0 t222 y223 x10_1 0 y3000022_1 t231))) else (none)) else (none)) else (some (strOfNums y3000022_1))
def chat_Clean.l2 : Nat → (List ByteArray) → (List Int) → (List Int) → Int → Int → (List Int) → Int → Option (ByteArray)
  | 0, _, _, _, _, _, _, _ => none
  | k + 1, x5_0, t222, y223, x10_1, x45_2, y3000022_2, t231 => if x45_2 < t231 then ((some (wrap64 (x10_1 + x45_2) : Int)).bind fun j232 => (if 0 ≤ j232 then (if j232 < (y223.length : Int) then ((some (y3000022_2.set (j232).toNat 42 : List Int)).bind fun y234 => (chat_Clean.l2 k x5_0 t222 y223 x10_1 (wrap64 (x45_2 + 1)) y234 t231)) else (none)) else (none))) else (chat_Clean.l1 k x5_0 t222 y223 (wrap64 (x10_1 + t231)) y3000022_2)
end
def chat_Clean.f (k : Nat) (a0 : ByteArray) (l1 : List ByteArray) : Option (ByteArray) := chat_Clean.l0 k a0 l1 ([] : List ByteArray) 0
theorem chat_Clean.mono_l : ∀ k, (∀ y0 y1 y2 y3, LeO (chat_Clean.l0 k y0 y1 y2 y3) (chat_Clean.l0 (k + 1) y0 y1 y2 y3)) ∧ (∀ y0 y1 y2 y3 y4, LeO (chat_Clean.l1 k y0 y1 y2 y3 y4) (chat_Clean.l1 (k + 1) y0 y1 y2 y3 y4)) ∧ (∀ y0 y1 y2 y3 y4 y5 y6, LeO (chat_Clean.l2 k y0 y1 y2 y3 y4 y5 y6) (chat_Clean.l2 (k + 1) y0 y1 y2 y3 y4 y5 y6))
  | 0 => ⟨fun _ _ _ _ r h => by simp [chat_Clean.l0] at h, fun _ _ _ _ _ r h => by simp [chat_Clean.l1] at h, fun _ _ _ _ _ _ _ r h => by simp [chat_Clean.l2] at h⟩
  | k + 1 => by
    obtain ⟨ih0, ih1, ih2⟩ := chat_Clean.mono_l k
    refine ⟨?_, ?_, ?_⟩
    · intro y0 y1 y2 y3
      unfold chat_Clean.l0
      repeat' first
      | (with_reducible exact ih0 _ _ _ _)
      | (with_reducible exact ih1 _ _ _ _ _)
      | (with_reducible exact ih2 _ _ _ _ _ _ _)
      | (with_reducible exact chat_longest.mono _ _ _)
      | (with_reducible exact chat_lowered.mono _ _)
      | (with_reducible exact LeO.refl _)
      | (with_reducible exact LeO.none _)
      | (with_reducible refine LeO.ite ?_ ?_)
      | (with_reducible refine everyOf_le (fun _ => ?_))
      | (with_reducible refine LeO.bind ?_ (fun _ => ?_))
      | exact ih0 _ _ _ _
      | exact ih1 _ _ _ _ _
      | exact ih2 _ _ _ _ _ _ _
      | exact chat_longest.mono _ _ _
      | exact chat_lowered.mono _ _
      | exact LeO.none _
      | refine LeO.ite ?_ ?_
      | refine LeO.bind ?_ (fun _ => ?_)
    · intro y0 y1 y2 y3 y4
      unfold chat_Clean.l1
      repeat' first
      | (with_reducible exact ih0 _ _ _ _)
      | (with_reducible exact ih1 _ _ _ _ _)
      | (with_reducible exact ih2 _ _ _ _ _ _ _)
      | (with_reducible exact chat_longest.mono _ _ _)
      | (with_reducible exact chat_lowered.mono _ _)
      | (with_reducible exact LeO.refl _)
      | (with_reducible exact LeO.none _)
      | (with_reducible refine LeO.ite ?_ ?_)
      | (with_reducible refine everyOf_le (fun _ => ?_))
      | (with_reducible refine LeO.bind ?_ (fun _ => ?_))
      | exact ih0 _ _ _ _
      | exact ih1 _ _ _ _ _
      | exact ih2 _ _ _ _ _ _ _
      | exact chat_longest.mono _ _ _
      | exact chat_lowered.mono _ _
      | exact LeO.none _
      | refine LeO.ite ?_ ?_
      | refine LeO.bind ?_ (fun _ => ?_)
    · intro y0 y1 y2 y3 y4 y5 y6
      unfold chat_Clean.l2
      repeat' first
      | (with_reducible exact ih0 _ _ _ _)
      | (with_reducible exact ih1 _ _ _ _ _)
      | (with_reducible exact ih2 _ _ _ _ _ _ _)
      | (with_reducible exact chat_longest.mono _ _ _)
      | (with_reducible exact chat_lowered.mono _ _)
      | (with_reducible exact LeO.refl _)
      | (with_reducible exact LeO.none _)
      | (with_reducible refine LeO.ite ?_ ?_)
      | (with_reducible refine everyOf_le (fun _ => ?_))
      | (with_reducible refine LeO.bind ?_ (fun _ => ?_))
      | exact ih0 _ _ _ _
      | exact ih1 _ _ _ _ _
      | exact ih2 _ _ _ _ _ _ _
      | exact chat_longest.mono _ _ _
      | exact chat_lowered.mono _ _
      | exact LeO.none _
      | refine LeO.ite ?_ ?_
      | refine LeO.bind ?_ (fun _ => ?_)
theorem chat_Clean.mono : ∀ a0 a1 k, LeO (chat_Clean.f k a0 a1) (chat_Clean.f (k + 1) a0 a1) := by
  intro a0 a1 k
  obtain ⟨ih0, ih1, ih2⟩ := chat_Clean.mono_l k
  unfold chat_Clean.f
  repeat' first
      | (with_reducible exact ih0 _ _ _ _)
      | (with_reducible exact ih1 _ _ _ _ _)
      | (with_reducible exact ih2 _ _ _ _ _ _ _)
      | (with_reducible exact chat_longest.mono _ _ _)
      | (with_reducible exact chat_lowered.mono _ _)
      | (with_reducible exact LeO.refl _)
      | (with_reducible exact LeO.none _)
      | (with_reducible refine LeO.ite ?_ ?_)
      | (with_reducible refine everyOf_le (fun _ => ?_))
      | (with_reducible refine LeO.bind ?_ (fun _ => ?_))
      | exact ih0 _ _ _ _
      | exact ih1 _ _ _ _ _
      | exact ih2 _ _ _ _ _ _ _
      | exact chat_longest.mono _ _ _
      | exact chat_lowered.mono _ _
      | exact LeO.none _
      | refine LeO.ite ?_ ?_
      | refine LeO.bind ?_ (fun _ => ?_)
def chat_Clean.Post (r : ByteArray) (S : Nat → Prop) (L : List Asr) (w : World) (e : Ending) (w' : World) : Prop := e = .returned (.string r) ∧ SL (L) w' S ∧ Keep S w w'
set_option maxHeartbeats 8000000 in
set_option maxRecDepth 100000 in
theorem chat_Clean.slcalls (k : Nat) (a0 : ByteArray) (A1 : Option Addr) (c1 : Nat) (l1 : List ByteArray) (r : ByteArray) (S : Nat → Prop) (L : List Asr) (w : World) (hf : Fresh S w) (hs : SL (L) w S) (hr1 : RO S w (fun w_ => Kd.C Kd.string w_ A1 l1.length l1)) (hc1 : l1.length ≤ c1) (h : chat_Clean.f k a0 l1 = some r) :
    Calls Try.prog 16 #[.string a0, .slice A1 l1.length c1] w (chat_Clean.Post r S L w) := by
  have HR1 := Aside0.mk hr1
  have HC1 := Aside0.mk hc1
  clear hr1 hc1
  have HF := Aside0.mk hf
  have HS := Aside0.mk hs
  have HK := Aside0.mk (Keep.refl S w)
  clear hf hs
  have H : (chat_Clean.l0 k a0 l1 ([] : List ByteArray) 0) = some r := h
  clear h
  have H' := Aside0.mk H
  clear H
  have n2_ := Aside0.mk (SL.nil_row Kd.string 9 HS.out)
  clear HS
  have HS := n2_
  clear n2_
  go_enter Try.func16, Try.ntmps16
  try go_wp2
  go_step3
  try go_wp2
  try simp only [Exit.noGoto_ret, Exit.noGoto_normal, Exit.noGoto_exit]
  go_loopg [5, 15] k (fun kq v5 v15 w' => ∃ (x5_0 : List ByteArray) (Ax5_0 : Option Addr) (cx5_0 : Nat) (x15_0 : Int), v5 = .slice Ax5_0 x5_0.length cx5_0 ∧ v15 = .int .i64 x15_0 ∧ Aside0 (chat_Clean.l0 kq a0 l1 x5_0 x15_0 = some r) ∧ Aside0 (kq ≤ k) ∧ Aside0 (SL (row Kd.string 9 (.slice Ax5_0 x5_0.length cx5_0) x5_0 :: L) w' S) ∧ Aside0 (Keep S w w'))
  case atStart => exact ⟨(([] : List ByteArray)), (none), (0), (0), (by first | rfl | (simp; done) | (simp [*]; done)), (by first | rfl | (simp; done) | (simp [*]; done)), H', ⟨Nat.le_refl _⟩, HS, HK⟩
  case round =>
    clear H' HS HK
    obtain ⟨x5_0, Ax5_0, cx5_0, x15_0, rfl, rfl, HA, HQ1, HS, HK⟩ := hrel
    cases gk with
    | zero => exact absurd HA.out (by simp [chat_Clean.l0])
    | succ k1 =>
      have H := HA.out
      clear HA
      simp only [chat_Clean.l0] at H
      by_cases c1 : x15_0 < (l1.length : Int)
      · rw [if_pos c1] at H
        have c1b0 : decide (x15_0 < (l1.length : Int)) = true := decide_eq_true c1
        clear c1
        by_cases c2 : 0 ≤ x15_0
        · rw [if_pos c2] at H
          have c2b0 : decide (0 ≤ x15_0) = true := decide_eq_true c2
          clear c2
          replace H := Option.bind_eq_some_iff.1 H
          obtain ⟨t217, Hc30, H⟩ := H
          try dsimp only at H
          have Hc3 := Aside0.mk Hc30
          clear Hc30
          replace H := Option.bind_eq_some_iff.1 H
          obtain ⟨y218, hy2180, H⟩ := H
          try dsimp only at H
          have hy218 := Option.some.inj hy2180
          clear hy2180
          have Ny218 := Aside0.mk hy218
          clear hy218
          by_cases c4 : x5_0.length + y218.length < 8796093022208
          · rw [if_pos c4] at H
            have LMc4 := Aside0.mk c4
            clear c4
            replace H := Option.bind_eq_some_iff.1 H
            obtain ⟨y219, hy2190, H⟩ := H
            try dsimp only at H
            have hy219 := Option.some.inj hy2190
            clear hy2190
            have Ny219 := Aside0.mk hy219
            clear hy219
            have H' := Aside0.mk H
            clear H
            have pq216 : 0 ≤ (x15_0 : Int) := of_decide_eq_true (by first | (with_reducible assumption) | assumption)
            have qq216 : x15_0 < ((l1.length : Int) : Int) := of_decide_eq_true (by first | (with_reducible assumption) | assumption)
            obtain ⟨adq216, eq216, hxq216_0⟩ := Kd.at_string (RO.at_ HR1.out HK.out) x15_0 pq216 qq216
            cases eq216
            replace pq216 := eq_true pq216
            replace qq216 := eq_true qq216
            go_wp2_with (first | ((with_reducible refine gate_dst (N := 21) rfl ?_); refine goesL_ (some 21) rfl rfl Try.func29 (by kernel_rfl) rfl #[.string (rdOf ByteArray.empty l1 x15_0)] rfl (by (try simp only [List.map_toArray, List.map_cons, List.map_nil]); first | done | rfl | (simp; done)) ?_; have hs0_ := HS.out; (with_reducible refine (chat_lowered.slcalls k1 _ _ _ _ _ (HF.out.keep HK.out) hs0_  Hc3.out).mono ?_); rintro e_ w5 ⟨Az3000019, cz3000019, rfl, hsr_, hkr_⟩; refine ⟨_, rfl, ?_⟩; replace HS := Aside0.mk (hsr_); replace HK := Aside0.mk (HK.out.trans hkr_); have hcs7 := Kd.C_string (P := Try.prog) (A := Az3000019) (c := cz3000019) Try.underlying57 Try.underlying5 Try.underlying9 (rowM_c HS.out).2.2) | ((with_reducible refine gate_dst (N := 23) rfl ?_); refine wpList_plain rfl (fun K_ hK_ => ?_); refine op_row (S := S) (enc := Value.string) (h1 := fun _ => rfl) 9 y218 #[.string (strOfNums t217)] 1 (by rw [← Ny218.out]; rfl) (by rw [← Ny218.out]; rfl) (by decide) (HF.out.keep HK.out) HS.out (by first | (go_simp; done) | (go_simp; rfl)) ?_; intro Az3000020 cz3000020 w8 hs_ hk_; refine hK_ _ _ ?_; clear hK_ K_; replace HS := Aside0.mk ((show SL (row Kd.string 9 (.slice Az3000020 1 cz3000020) y218 :: _) _ _ from hs_)); replace HK := Aside0.mk (HK.out.trans hk_)) | ((with_reducible refine gate_dst (N := 24) rfl ?_); refine wpList_plain rfl (fun K_ hK_ => ?_); refine op_append (S := S) (enc := Value.string) (h1 := fun _ => rfl) (⟨#[]⟩ : ByteArray) (.tmp 19) (.tmp 23) 31 9 (.string ⟨#[]⟩) 16 rfl Try.underlying31 info9 rfl (by decide) (.slice Ax5_0 x5_0.length cx5_0) rfl rfl (HF.out.keep HK.out) (SL.get2 HS.out) (SL.row_c HS.out).2.2 (by have := LMc4.out; have e_ := (SL.row_c HS.out).1; omega) y219 Ny219.out ?_; intro A220 c221 w9 hs_ hk_; refine hK_ _ _ ?_; clear hK_ K_; replace HS := Aside0.mk ((SL.back2 (show SL (row Kd.string 9 (.slice A220 y219.length c221) y219 :: _) _ _ from hs_))); replace HK := Aside0.mk (HK.out.trans hk_)))
            try simp only [Exit.noGoto_ret, Exit.noGoto_normal, Exit.noGoto_exit]
            replace HS := Aside0.mk (SL.tail (SL.tail HS.out))
            go_roundg k1
            case measure => have := HQ1.out; omega
            case rel => exact ⟨(y219), (A220), (c221), (wrap64 (x15_0 + 1)), (by first | rfl | (simp; done) | (simp [*]; done)), (by first | rfl | (simp; done) | (simp [*]; done)), H', ⟨by have := HQ1.out; omega⟩, HS, HK⟩
          · rw [if_neg c4] at H
            exact absurd H (by simp)
        · rw [if_neg c2] at H
          exact absurd H (by simp)
      · rw [if_neg c1] at H
        have c1b0 : decide (x15_0 < (l1.length : Int)) = false := decide_eq_false c1
        clear c1
        replace H := Option.bind_eq_some_iff.1 H
        obtain ⟨t222, Hc100, H⟩ := H
        try dsimp only at H
        have Hc10 := Aside0.mk Hc100
        clear Hc100
        by_cases c11 : a0.size ≤ 9223372036854775807
        · rw [if_pos c11] at H
          have LMc11 := Aside0.mk c11
          clear c11
          replace H := Option.bind_eq_some_iff.1 H
          obtain ⟨y223, hy2230, H⟩ := H
          try dsimp only at H
          have hy223 := Option.some.inj hy2230
          clear hy2230
          have Ny223 := Aside0.mk hy223
          clear hy223
          have H' := Aside0.mk H
          clear H
          try go_wp2_with (first | ((with_reducible refine gate_dst (N := 27) rfl ?_); refine goesL_ (some 27) rfl rfl Try.func29 (by kernel_rfl) rfl #[.string a0] rfl (by (try simp only [List.map_toArray, List.map_cons, List.map_nil]); first | done | rfl | (simp; done)) ?_; have hs0_ := HS.out; (with_reducible refine (chat_lowered.slcalls k1 _ _ _ _ _ (HF.out.keep HK.out) hs0_  Hc10.out).mono ?_); rintro e_ w12 ⟨Az3000021, cz3000021, rfl, hsr_, hkr_⟩; refine ⟨_, rfl, ?_⟩; replace HS := Aside0.mk (hsr_); replace HK := Aside0.mk (HK.out.trans hkr_); have hcs14 := Kd.C_string (P := Try.prog) (A := Az3000021) (c := cz3000021) Try.underlying57 Try.underlying5 Try.underlying9 (rowM_c HS.out).2.2) | ((with_reducible refine gate_dst (N := 30) rfl ?_); refine wpList_plain rfl (fun K_ hK_ => ?_); refine op_bytesM (S := S) 9 57 5 (.tmp 29) Try.underlying9 Try.underlying57 Try.underlying5 (a0) rfl rfl (LMc11.out) y223 Ny223.out (HF.out.keep HK.out) HS.out ?_; intro Az3000022 cz3000022 w15 hs_ hk_; refine hK_ _ _ ?_; clear hK_ K_; replace HS := Aside0.mk ((show SL (rowM 5 (.slice Az3000022 y223.length cz3000022) y223 :: _) _ _ from hs_)); replace HK := Aside0.mk (HK.out.trans hk_)))
          go_step3
          try go_wp2_with (first | ((with_reducible refine gate_dst (N := 27) rfl ?_); refine goesL_ (some 27) rfl rfl Try.func29 (by kernel_rfl) rfl #[.string a0] rfl (by (try simp only [List.map_toArray, List.map_cons, List.map_nil]); first | done | rfl | (simp; done)) ?_; have hs0_ := HS.out; (with_reducible refine (chat_lowered.slcalls k1 _ _ _ _ _ (HF.out.keep HK.out) hs0_  Hc10.out).mono ?_); rintro e_ w12 ⟨Az3000021, cz3000021, rfl, hsr_, hkr_⟩; refine ⟨_, rfl, ?_⟩; replace HS := Aside0.mk (hsr_); replace HK := Aside0.mk (HK.out.trans hkr_); have hcs14 := Kd.C_string (P := Try.prog) (A := Az3000021) (c := cz3000021) Try.underlying57 Try.underlying5 Try.underlying9 (rowM_c HS.out).2.2) | ((with_reducible refine gate_dst (N := 30) rfl ?_); refine wpList_plain rfl (fun K_ hK_ => ?_); refine op_bytesM (S := S) 9 57 5 (.tmp 29) Try.underlying9 Try.underlying57 Try.underlying5 (a0) rfl rfl (LMc11.out) y223 Ny223.out (HF.out.keep HK.out) HS.out ?_; intro Az3000022 cz3000022 w15 hs_ hk_; refine hK_ _ _ ?_; clear hK_ K_; replace HS := Aside0.mk ((show SL (rowM 5 (.slice Az3000022 y223.length cz3000022) y223 :: _) _ _ from hs_)); replace HK := Aside0.mk (HK.out.trans hk_)))
          try simp only [Exit.noGoto_ret, Exit.noGoto_normal, Exit.noGoto_exit]
          try go_simp
          go_loopg [10] k1 (fun kq v10 w' => ∃ (y3000022_1 : List Int) (x10_1 : Int), v10 = .int .i64 x10_1 ∧ Aside0 (chat_Clean.l1 kq x5_0 t222 y223 x10_1 y3000022_1 = some r) ∧ Aside0 (kq ≤ k1) ∧ Aside0 (SL (rowM 5 (.slice Az3000022 y223.length cz3000022) y3000022_1 :: rowM 5 (.slice Az3000021 t222.length cz3000021) t222 :: row Kd.string 9 (.slice Ax5_0 x5_0.length cx5_0) x5_0 :: L) w' S) ∧ Aside0 (Keep S w w'))
          case atStart => exact ⟨(y223), (0), (by first | rfl | (simp; done) | (simp [*]; done)), H', ⟨Nat.le_refl _⟩, HS, HK⟩
          case round =>
            clear H' HS HK
            obtain ⟨y3000022_1, x10_1, rfl, HA, HQ2, HS, HK⟩ := hrel
            cases gk with
            | zero => exact absurd HA.out (by simp [chat_Clean.l1])
            | succ k2 =>
              have H := HA.out
              clear HA
              simp only [chat_Clean.l1] at H
              by_cases c16 : x10_1 < (y223.length : Int)
              · rw [if_pos c16] at H
                have c16b0 : decide (x10_1 < (y223.length : Int)) = true := decide_eq_true c16
                clear c16
                by_cases c17 : 0 ≤ x10_1
                · rw [if_pos c17] at H
                  have c17b0 := eq_true c17
                  have c17b1 : decide (0 ≤ x10_1) = true := decide_eq_true c17
                  clear c17
                  by_cases c18 : x10_1 ≤ ((strOfNums t222).size : Int)
                  · rw [if_pos c18] at H
                    have c18b0 := eq_true c18
                    have c18b1 : decide (x10_1 ≤ ((strOfNums t222).size : Int)) = true := decide_eq_true c18
                    clear c18
                    replace H := Option.bind_eq_some_iff.1 H
                    obtain ⟨t231, Hc190, H⟩ := H
                    try dsimp only at H
                    have Hc19 := Aside0.mk Hc190
                    clear Hc190
                    by_cases c20 : t231 = 0
                    · rw [if_pos c20] at H
                      have c20b0 : (t231 == 0) = true := beq_iff_eq.mpr c20
                      have c20b1 : (t231 != 0) = false := bne_eq_false_iff_eq.mpr c20
                      clear c20
                      have H' := Aside0.mk H
                      clear H
                      go_wp2_with (first | ((with_reducible refine gate_dst (N := 39) rfl ?_); refine goesL_ (some 39) rfl rfl Try.func30 (by kernel_rfl) rfl #[.string ((strOfNums t222).extract (x10_1 : Int).toNat (strOfNums t222).size), .slice Ax5_0 x5_0.length cx5_0] rfl (by (try simp only [List.map_toArray, List.map_cons, List.map_nil]); first | done | rfl | (simp; done)) ?_; (with_reducible refine (chat_longest.calls k2 _ _ _ _ _ _ (SL.row_c (SL.get2 HS.out)).2.2 (SL.row_c (SL.get2 HS.out)).2.1 Hc19.out).mono ?_); rintro e_ w21 ⟨rfl, hb_⟩; refine ⟨_, rfl, ?_⟩; replace hb_ := Drawn0.below hb_; replace HS := Aside0.mk (HS.out.below hb_); replace HK := Aside0.mk (HK.out.trans (Keep.below hb_))))
                      try simp only [Exit.noGoto_ret, Exit.noGoto_normal, Exit.noGoto_exit]
                      go_roundg k2
                      case measure => have := HQ1.out; have := HQ2.out; omega
                      case rel => exact ⟨(y3000022_1), (wrap64 (x10_1 + 1)), (by first | rfl | (simp; done) | (simp [*]; done)), H', ⟨by have := HQ1.out; have := HQ2.out; omega⟩, HS, HK⟩
                    · rw [if_neg c20] at H
                      have c20b0 : (t231 == 0) = false := beq_eq_false_iff_ne.mpr c20
                      have c20b1 : (t231 != 0) = true := bne_iff_ne.mpr c20
                      have H' := Aside0.mk H
                      clear H
                      go_wp2_with (first | ((with_reducible refine gate_dst (N := 39) rfl ?_); refine goesL_ (some 39) rfl rfl Try.func30 (by kernel_rfl) rfl #[.string ((strOfNums t222).extract (x10_1 : Int).toNat (strOfNums t222).size), .slice Ax5_0 x5_0.length cx5_0] rfl (by (try simp only [List.map_toArray, List.map_cons, List.map_nil]); first | done | rfl | (simp; done)) ?_; (with_reducible refine (chat_longest.calls k2 _ _ _ _ _ _ (SL.row_c (SL.get2 HS.out)).2.2 (SL.row_c (SL.get2 HS.out)).2.1 Hc19.out).mono ?_); rintro e_ w22 ⟨rfl, hb_⟩; refine ⟨_, rfl, ?_⟩; replace hb_ := Drawn0.below hb_; replace HS := Aside0.mk (HS.out.below hb_); replace HK := Aside0.mk (HK.out.trans (Keep.below hb_))))
                      try simp only [Exit.noGoto_ret, Exit.noGoto_normal, Exit.noGoto_exit]
                      try go_simp
                      go_loopg [45] k2 (fun kq v45 w' => ∃ (y3000022_2 : List Int) (x45_2 : Int), v45 = .int .i64 x45_2 ∧ Aside0 (chat_Clean.l2 kq x5_0 t222 y223 x10_1 x45_2 y3000022_2 t231 = some r) ∧ Aside0 (kq ≤ k2) ∧ Aside0 (SL (rowM 5 (.slice Az3000022 y223.length cz3000022) y3000022_2 :: rowM 5 (.slice Az3000021 t222.length cz3000021) t222 :: row Kd.string 9 (.slice Ax5_0 x5_0.length cx5_0) x5_0 :: L) w' S) ∧ Aside0 (Keep S w w'))
                      case atStart => exact ⟨(y3000022_1), (0), (by first | rfl | (simp; done) | (simp [*]; done)), H', ⟨Nat.le_refl _⟩, HS, HK⟩
                      case round =>
                        clear H' HS HK
                        obtain ⟨y3000022_2, x45_2, rfl, HA, HQ3, HS, HK⟩ := hrel
                        cases gk with
                        | zero => exact absurd HA.out (by simp [chat_Clean.l2])
                        | succ k3 =>
                          have H := HA.out
                          clear HA
                          simp only [chat_Clean.l2] at H
                          by_cases c23 : x45_2 < t231
                          · rw [if_pos c23] at H
                            have c23b0 : decide (x45_2 < t231) = true := decide_eq_true c23
                            clear c23
                            replace H := Option.bind_eq_some_iff.1 H
                            obtain ⟨j232, hj2320, H⟩ := H
                            try dsimp only at H
                            have hj232 := Option.some.inj hj2320
                            clear hj2320
                            have hj232w : (IntKind.i64.wrap (x10_1 + x45_2)) = j232 := (i64_w _).trans hj232
                            by_cases c24 : 0 ≤ j232
                            · rw [if_pos c24] at H
                              have c24b0 : decide (0 ≤ j232) = true := decide_eq_true c24
                              clear c24
                              by_cases c25 : j232 < (y223.length : Int)
                              · rw [if_pos c25] at H
                                have c25b0 : decide (j232 < (y223.length : Int)) = true := decide_eq_true c25
                                clear c25
                                replace H := Option.bind_eq_some_iff.1 H
                                obtain ⟨y234, hy2340, H⟩ := H
                                try dsimp only at H
                                have hy234 := Option.some.inj hy2340
                                clear hy2340
                                have Ny234 := Aside0.mk hy234
                                clear hy234
                                have H' := Aside0.mk H
                                clear H
                                have pq233 : 0 ≤ (j232 : Int) := of_decide_eq_true (by first | (with_reducible assumption) | assumption)
                                have qq233 : j232 < ((y223.length : Int) : Int) := of_decide_eq_true (by first | (with_reducible assumption) | assumption)
                                obtain ⟨adq233, eq233, hxq233_0⟩ := Kd.at_int (rowM_c HS.out).2.2 j232 pq233 qq233
                                cases eq233
                                replace pq233 := eq_true pq233
                                replace qq233 := eq_true qq233
                                go_wp2_with (first | ((with_reducible refine gate_store (t := 5) (p := 52) (v := (.const (.int .u8 42))) rfl ?_); refine wpList_plain rfl (fun K_ hK_ => ?_); refine op_setM (S := S) 5 (.tmp 52) (.const (.int .u8 42)) rfl adq233 (j232) 42 HS.out (by rfl) rfl (by kernel_rfl) (of_decide_eq_true (by first | (with_reducible assumption) | assumption)) (of_decide_eq_true (by first | (with_reducible assumption) | assumption)) y234 Ny234.out ?_; intro w26 hs_ hk_; refine hK_ _ _ ?_; clear hK_ K_; replace HS := Aside0.mk ((show SL (rowM 5 (.slice (some adq233) y223.length cz3000022) y234 :: _) _ _ from hs_)); replace HK := Aside0.mk (HK.out.trans hk_)))
                                try simp only [Exit.noGoto_ret, Exit.noGoto_normal, Exit.noGoto_exit]
                                go_roundg k3
                                case measure => have := HQ1.out; have := HQ2.out; have := HQ3.out; omega
                                case rel => exact ⟨(y234), (wrap64 (x45_2 + 1)), (by first | rfl | (simp; done) | (simp [*]; done)), H', ⟨by have := HQ1.out; have := HQ2.out; have := HQ3.out; omega⟩, HS, HK⟩
                              · rw [if_neg c25] at H
                                exact absurd H (by simp)
                            · rw [if_neg c24] at H
                              exact absurd H (by simp)
                          · rw [if_neg c23] at H
                            have c23b0 : decide (x45_2 < t231) = false := decide_eq_false c23
                            clear c23
                            have H' := Aside0.mk H
                            clear H
                            go_wp2
                            try simp only [Exit.noGoto_ret, Exit.noGoto_normal, Exit.noGoto_exit]
                            go_roundg k3
                            case measure => have := HQ1.out; have := HQ2.out; have := HQ3.out; omega
                            case rel => exact ⟨(y3000022_2), (wrap64 (x10_1 + t231)), (by first | rfl | (simp; done) | (simp [*]; done)), H', ⟨by have := HQ1.out; have := HQ2.out; have := HQ3.out; omega⟩, HS, HK⟩
                  · rw [if_neg c18] at H
                    exact absurd H (by simp)
                · rw [if_neg c17] at H
                  exact absurd H (by simp)
              · rw [if_neg c16] at H
                have c16b0 : decide (x10_1 < (y223.length : Int)) = false := decide_eq_false c16
                clear c16
                obtain rfl := Option.some.inj H
                have hcs28 := Kd.C_string (P := Try.prog) (A := Az3000022) (c := cz3000022) Try.underlying57 Try.underlying5 Try.underlying9 (rowM_c HS.out).2.2
                go_wp2
                try simp only [Exit.noGoto_ret, Exit.noGoto_normal, Exit.noGoto_exit]
                go_ret
                replace HS := Aside0.mk (SL.tail (SL.tail (SL.tail HS.out)))
                unfold chat_Clean.Post
                exact ⟨by first | rfl | (simp; done) | (simp [*]; done) | (simp at c16b0 ⊢; first | exact c16b0 | (simp [c16b0]; done)), HS.out, HK.out⟩
        · rw [if_neg c11] at H
          exact absurd H (by simp)
theorem chat_Clean.calls (k : Nat) (a0 : ByteArray) (A1 : Option Addr) (c1 : Nat) (l1 : List ByteArray) (r : ByteArray) (w : World) (hr1 : Kd.C Kd.string w A1 l1.length l1) (hc1 : l1.length ≤ c1) (h : chat_Clean.f k a0 l1 = some r) :
    Calls Try.prog 16 #[.string a0, .slice A1 l1.length c1] w fun e w' => e = .returned (.string r) ∧ Below w.heap.size w w' :=
  (chat_Clean.slcalls k a0 A1 c1 l1 r (news w) [] w (fresh_news w) trivial (RO.top hr1) hc1 h).mono fun _ _ h => ⟨h.1, h.2.2.to_below⟩

/-! ### barrowref37_SameTexts: function 18 -/
def barrowref37_SameTexts.l0 : Nat → List ByteArray → List ByteArray → Int → Option (Bool)
  | 0, _, _, _ => none
  | k + 1, x0, x1, x5 => if x5 < (x0.length : Int) then (if 0 ≤ x5 then (if x5 < (x1.length : Int) then (if (rdOf ByteArray.empty x0 x5).toList = (rdOf ByteArray.empty x1 x5).toList then (barrowref37_SameTexts.l0 k x0 x1 (wrap64 (x5 + 1))) else (some false)) else (none)) else (none)) else (some true)
def barrowref37_SameTexts.f (k : Nat) (l0 : List ByteArray) (l1 : List ByteArray) : Option (Bool) := if (l0.length : Int) = (l1.length : Int) then (barrowref37_SameTexts.l0 k l0 l1 0) else (some false)
theorem barrowref37_SameTexts.mono_l : ∀ k, (∀ y0 y1 y2, LeO (barrowref37_SameTexts.l0 k y0 y1 y2) (barrowref37_SameTexts.l0 (k + 1) y0 y1 y2))
  | 0 => fun _ _ _ r h => by simp [barrowref37_SameTexts.l0] at h
  | k + 1 => by
    have ih0 := barrowref37_SameTexts.mono_l k
    · intro y0 y1 y2
      unfold barrowref37_SameTexts.l0
      repeat' first
      | (with_reducible exact ih0 _ _ _)
      | (with_reducible exact LeO.refl _)
      | (with_reducible exact LeO.none _)
      | (with_reducible refine LeO.ite ?_ ?_)
      | (with_reducible refine LeO.bind ?_ (fun _ => ?_))
      | exact ih0 _ _ _
      | exact LeO.none _
      | refine LeO.ite ?_ ?_
      | refine LeO.bind ?_ (fun _ => ?_)
theorem barrowref37_SameTexts.mono : ∀ a0 a1 k, LeO (barrowref37_SameTexts.f k a0 a1) (barrowref37_SameTexts.f (k + 1) a0 a1) := by
  intro a0 a1 k
  have ih0 := barrowref37_SameTexts.mono_l k
  unfold barrowref37_SameTexts.f
  repeat' first
      | (with_reducible exact ih0 _ _ _)
      | (with_reducible exact LeO.refl _)
      | (with_reducible exact LeO.none _)
      | (with_reducible refine LeO.ite ?_ ?_)
      | (with_reducible refine LeO.bind ?_ (fun _ => ?_))
      | exact ih0 _ _ _
      | exact LeO.none _
      | refine LeO.ite ?_ ?_
      | refine LeO.bind ?_ (fun _ => ?_)
set_option maxHeartbeats 8000000 in
set_option maxRecDepth 100000 in
theorem barrowref37_SameTexts.calls (k : Nat) (A0 : Option Addr) (c0 : Nat) (l0 : List ByteArray) (A1 : Option Addr) (c1 : Nat) (l1 : List ByteArray) (r : Bool) (w : World) (hr0 : Kd.C Kd.string w A0 l0.length l0) (hc0 : l0.length ≤ c0) (hr1 : Kd.C Kd.string w A1 l1.length l1) (hc1 : l1.length ≤ c1) (h : barrowref37_SameTexts.f k l0 l1 = some r) :
    Calls Try.prog 18 #[.slice A0 l0.length c0, .slice A1 l1.length c1] w fun e w' => e = .returned (.bool r) ∧ Drawn0 w w' := by
  have HR0 := Aside0.mk hr0
  have HC0 := Aside0.mk hc0
  clear hr0 hc0
  have HR1 := Aside0.mk hr1
  have HC1 := Aside0.mk hc1
  clear hr1 hc1
  have H : (if (l0.length : Int) = (l1.length : Int) then (barrowref37_SameTexts.l0 k l0 l1 0) else (some false)) = some r := h
  clear h
  by_cases c3 : (l0.length : Int) = (l1.length : Int)
  · rw [if_pos c3] at H
    have c3b0 : ((l0.length : Int) == (l1.length : Int)) = true := beq_iff_eq.mpr c3
    have c3b1 : ((l0.length : Int) != (l1.length : Int)) = false := bne_eq_false_iff_eq.mpr c3
    have c3b2 : (l0.length == l1.length) = true := by first | simpa using c3 | (simp at c3 ⊢; omega)
    clear c3
    have H' := Aside0.mk H
    clear H
    go_enter Try.func18, Try.ntmps18
    go_wp2
    repeat (go_quiet (fail); try go_wp2)
    go_loopg [5] k (fun kq v5 w' => ∃ (x5_1 : Int), v5 = .int .i64 x5_1 ∧ Aside0 (barrowref37_SameTexts.l0 kq l0 l1 x5_1 = some r) ∧ Aside0 (kq ≤ k) ∧ Drawn0 w w')
    case atStart => exact ⟨(0), (by first | rfl | (simp; done) | (simp [*]; done)), H', ⟨Nat.le_refl _⟩, by repeat (first | exact Drawn0.refl _ | apply Drawn0.step)⟩
    case round =>
      clear H'
      try clear c1
      try clear p2
      try clear c3
      try clear c3b0
      try clear c3b1
      try clear c3b2
      obtain ⟨x5_1, rfl, HA, HK1, ⟨m1, rfl⟩⟩ := hrel
      cases gk with
      | zero => exact absurd HA.out (by simp [barrowref37_SameTexts.l0])
      | succ k1 =>
        have H := HA.out
        clear HA
        simp only [barrowref37_SameTexts.l0] at H
        by_cases c4 : x5_1 < (l0.length : Int)
        · rw [if_pos c4] at H
          have c4b0 : decide (x5_1 < (l0.length : Int)) = true := decide_eq_true c4
          clear c4
          by_cases c5 : 0 ≤ x5_1
          · rw [if_pos c5] at H
            have c5b0 : decide (0 ≤ x5_1) = true := decide_eq_true c5
            clear c5
            by_cases c6 : x5_1 < (l1.length : Int)
            · rw [if_pos c6] at H
              have c6b0 : decide (x5_1 < (l1.length : Int)) = true := decide_eq_true c6
              clear c6
              by_cases c7 : (rdOf ByteArray.empty l0 x5_1).toList = (rdOf ByteArray.empty l1 x5_1).toList
              · rw [if_pos c7] at H
                have c7b0 : ((rdOf ByteArray.empty l0 x5_1).toList == (rdOf ByteArray.empty l1 x5_1).toList) = true := beq_iff_eq.mpr c7
                have c7b1 : ((rdOf ByteArray.empty l0 x5_1).toList != (rdOf ByteArray.empty l1 x5_1).toList) = false := bne_eq_false_iff_eq.mpr c7
                clear c7
                have H' := Aside0.mk H
                clear H
                have p235 : 0 ≤ (x5_1 : Int) := of_decide_eq_true (by first | (with_reducible assumption) | assumption)
                have q235 : x5_1 < (l0.length : Int) := of_decide_eq_true (by first | (with_reducible assumption) | assumption)
                obtain ⟨ad235, e235, hx235_0⟩ := Kd.at_string HR0.out x5_1 p235 q235
                cases e235
                replace p235 := eq_true p235
                replace q235 := eq_true q235
                have p236 : 0 ≤ (x5_1 : Int) := of_decide_eq_true (by first | (with_reducible assumption) | assumption)
                have q236 : x5_1 < (l1.length : Int) := of_decide_eq_true (by first | (with_reducible assumption) | assumption)
                obtain ⟨ad236, e236, hx236_0⟩ := Kd.at_string HR1.out x5_1 p236 q236
                cases e236
                replace p236 := eq_true p236
                replace q236 := eq_true q236
                go_wp2
                repeat (go_quiet (fail); try go_wp2)
                go_roundg k1
                case measure => have := HK1.out; omega
                case rel => exact ⟨(wrap64 (x5_1 + 1)), (by first | rfl | (simp; done) | (simp [*]; done)), H', ⟨by have := HK1.out; omega⟩, by repeat (first | exact Drawn0.refl _ | apply Drawn0.step)⟩
              · rw [if_neg c7] at H
                have c7b0 : ((rdOf ByteArray.empty l0 x5_1).toList == (rdOf ByteArray.empty l1 x5_1).toList) = false := beq_eq_false_iff_ne.mpr c7
                have c7b1 : ((rdOf ByteArray.empty l0 x5_1).toList != (rdOf ByteArray.empty l1 x5_1).toList) = true := bne_iff_ne.mpr c7
                obtain rfl := Option.some.inj H
                have p235 : 0 ≤ (x5_1 : Int) := of_decide_eq_true (by first | (with_reducible assumption) | assumption)
                have q235 : x5_1 < (l0.length : Int) := of_decide_eq_true (by first | (with_reducible assumption) | assumption)
                obtain ⟨ad235, e235, hx235_0⟩ := Kd.at_string HR0.out x5_1 p235 q235
                cases e235
                replace p235 := eq_true p235
                replace q235 := eq_true q235
                have p236 : 0 ≤ (x5_1 : Int) := of_decide_eq_true (by first | (with_reducible assumption) | assumption)
                have q236 : x5_1 < (l1.length : Int) := of_decide_eq_true (by first | (with_reducible assumption) | assumption)
                obtain ⟨ad236, e236, hx236_0⟩ := Kd.at_string HR1.out x5_1 p236 q236
                cases e236
                replace p236 := eq_true p236
                replace q236 := eq_true q236
                go_wp2
                repeat (go_quiet (fail); try go_wp2)
                go_ret
                exact ⟨by first | rfl | (simp; done) | (simp [*]; done), by repeat (first | exact Drawn0.refl _ | apply Drawn0.step)⟩
            · rw [if_neg c6] at H
              exact absurd H (by simp)
          · rw [if_neg c5] at H
            exact absurd H (by simp)
        · rw [if_neg c4] at H
          have c4b0 : decide (x5_1 < (l0.length : Int)) = false := decide_eq_false c4
          clear c4
          obtain rfl := Option.some.inj H
          go_wp2
          repeat (go_quiet (fail); try go_wp2)
          go_ret
          exact ⟨by first | rfl | (simp; done) | (simp [*]; done), by repeat (first | exact Drawn0.refl _ | apply Drawn0.step)⟩
  · rw [if_neg c3] at H
    have c3b0 : ((l0.length : Int) == (l1.length : Int)) = false := beq_eq_false_iff_ne.mpr c3
    have c3b1 : ((l0.length : Int) != (l1.length : Int)) = true := bne_iff_ne.mpr c3
    have c3b2 : (l0.length == l1.length) = false := by first | simpa using c3 | (simp at c3 ⊢; omega)
    obtain rfl := Option.some.inj H
    go_enter Try.func18, Try.ntmps18
    go_wp2
    repeat (go_quiet (fail); try go_wp2)
    go_ret
    exact ⟨by first | rfl | (simp; done) | (simp [*]; done), by repeat (first | exact Drawn0.refl _ | apply Drawn0.step)⟩

/-! ### chat_letter: function 32 -/
def chat_letter.f (a0 : Int) : Option (Bool) := if a0 ≥ 97 then (some (decide (a0 ≤ 122))) else (some false)
set_option maxHeartbeats 8000000 in
set_option maxRecDepth 100000 in
theorem chat_letter.calls (a0 : Int) (r : Bool) (w : World) (h : chat_letter.f a0 = some r) :
    Calls Try.prog 32 #[.int .u8 a0] w fun e w' => e = .returned (.bool r) ∧ Drawn0 w w' := by
  have H : (if a0 ≥ 97 then (some (decide (a0 ≤ 122))) else (some false)) = some r := h
  clear h
  by_cases c2 : a0 ≥ 97
  · rw [if_pos c2] at H
    have c2b0 : decide (97 ≤ a0) = true := decide_eq_true c2
    clear c2
    obtain rfl := Option.some.inj H
    go_enter Try.func32, Try.ntmps32
    go_wp2
    go_ret
    exact ⟨by first | rfl | (simp; done) | (simp [*]; done), by repeat (first | exact Drawn0.refl _ | apply Drawn0.step)⟩
  · rw [if_neg c2] at H
    have c2b0 : decide (97 ≤ a0) = false := decide_eq_false c2
    clear c2
    obtain rfl := Option.some.inj H
    go_enter Try.func32, Try.ntmps32
    go_wp2
    go_ret
    exact ⟨by first | rfl | (simp; done) | (simp [*]; done), by repeat (first | exact Drawn0.refl _ | apply Drawn0.step)⟩

end Go.Proofs.Ytdpeflbdoaccbaa.XCL
