-- Written by xprint.py (a program of this session) for this claim
import Derived.Test.YtdpeflbdoaccbaaSL5
import Derived.Test.YtdpeflbdoaccbaaXCLx0
import Derived.Test.YtdpeflbdoaccbaaXCLx7
import Derived.Test.YtdpeflbdoaccbaaXCLx8
import Derived.Test.YtdpeflbdoaccbaaXCLx9
import Derived.Test.YtdpeflbdoaccbaaXCLx10
namespace Go.Proofs.Ytdpeflbdoaccbaa.XCL
open Go.Proofs.YtdpeflbdoaccbaaV Go.Proofs.YtdpeflbdoaccbaaS
open Go.RowKit Go.Proofs.YtdpeflbdoaccbaaW.PrintWords Go.Proofs.YtdpeflbdoaccbaaW.PrintLast Go.Proofs.YtdpeflbdoaccbaaW.PrintMore
attribute [local go_sem] max2_int min2_int max_two min_two max_three min_three max_four min_four   -- for this text's walks alone
set_option linter.unusedVariables false
set_option linter.unusedSimpArgs false

/-! ### barrowlaw38_ChatCleans: function 5 -/
mutual
def barrowlaw38_ChatCleans.l0 : Nat → ByteArray → (List ByteArray) → Bool → ByteArray → Int → Option (Bool)
  | 0, _, _, _, _, _ => none
  | k + 1, a0, l1, t295, t297, x8_0 => if x8_0 < (t297.size : Int) then (if x8_0 < (a0.size : Int) then (if 0 ≤ x8_0 then (if (bt t297 x8_0) = (bt a0 x8_0) then (barrowlaw38_ChatCleans.l199 k a0 l1 t295 t297 x8_0 false) else (barrowlaw38_ChatCleans.l199 k a0 l1 t295 t297 x8_0 ((bt t297 x8_0) != 42))) else (none)) else (barrowlaw38_ChatCleans.l1 k a0 l1 t295 t297 false 0)) else (barrowlaw38_ChatCleans.l1 k a0 l1 t295 t297 false 0)
def barrowlaw38_ChatCleans.l199 : Nat → ByteArray → (List ByteArray) → Bool → ByteArray → Int → Bool → Option (Bool)
  | 0, _, _, _, _, _, _ => none
  | k + 1, a0, l1, t295, t297, x8_0, x55_199 => if x55_199 = true then (none) else (barrowlaw38_ChatCleans.l0 k a0 l1 t295 t297 (wrap64 (x8_0 + 1)))
def barrowlaw38_ChatCleans.l1 : Nat → ByteArray → (List ByteArray) → Bool → ByteArray → Bool → Int → Option (Bool)
  | 0, _, _, _, _, _, _ => none
  | k + 1, a0, l1, t295, t297, x9_1, x10_1 => if x10_1 < (l1.length : Int) then (if 0 ≤ x10_1 then ((chat_Words.f k (rdOf ByteArray.empty l1 x10_1)).bind fun t302 => (if (t302.length : Int) = 1 then (if 0 < (t302.length : Int) then (barrowlaw38_ChatCleans.l299 k a0 l1 t295 t297 x9_1 x10_1 t302 (((rdOf ByteArray.empty t302 0).size : Int) == ((rdOf ByteArray.empty l1 x10_1).size : Int))) else (none)) else (barrowlaw38_ChatCleans.l299 k a0 l1 t295 t297 x9_1 x10_1 t302 false))) else (none)) else (if t295 = true then (if x9_1 = true then ((chat_Clean.f k a0 ([] : List ByteArray)).bind fun t314 => (if t314.toList = a0.toList then (some true) else (none))) else ((chat_Clean.f k t297 l1).bind fun t315 => (if t315.toList = t297.toList then ((chat_Clean.f k a0 ([] : List ByteArray)).bind fun t316 => (if t316.toList = a0.toList then (some true) else (none))) else (none)))) else (none))
def barrowlaw38_ChatCleans.l299 : Nat → ByteArray → (List ByteArray) → Bool → ByteArray → Bool → Int → (List ByteArray) → Bool → Option (Bool)
  | 0, _, _, _, _, _, _, _, _ => none
  | k + 1, a0, l1, t295, t297, x9_1, x10_1, t302, x12_299 => barrowlaw38_ChatCleans.l2 k a0 l1 t295 t297 x10_1 t302 x12_299 x9_1 0
def barrowlaw38_ChatCleans.l2 : Nat → ByteArray → (List ByteArray) → Bool → ByteArray → Int → (List ByteArray) → Bool → Bool → Int → Option (Bool)
  | 0, _, _, _, _, _, _, _, _, _ => none
  | k + 1, a0, l1, t295, t297, x10_1, t302, x12_299, x9_2, x13_2 => if 0 ≤ x10_1 then (if x10_1 < (l1.length : Int) then (if x13_2 < ((rdOf ByteArray.empty l1 x10_1).size : Int) then (if x9_2 = true then (barrowlaw38_ChatCleans.l2 k a0 l1 t295 t297 x10_1 t302 x12_299 true (wrap64 (x13_2 + 1))) else (if 0 ≤ x13_2 then (if (bt (rdOf ByteArray.empty l1 x10_1) x13_2) = 42 then (barrowlaw38_ChatCleans.l2 k a0 l1 t295 t297 x10_1 t302 x12_299 true (wrap64 (x13_2 + 1))) else (barrowlaw38_ChatCleans.l2 k a0 l1 t295 t297 x10_1 t302 x12_299 false (wrap64 (x13_2 + 1)))) else (none))) else (barrowlaw38_ChatCleans.l3 k a0 l1 t295 t297 x10_1 t302 x12_299 x9_2 0)) else (none)) else (none)
def barrowlaw38_ChatCleans.l3 : Nat → ByteArray → (List ByteArray) → Bool → ByteArray → Int → (List ByteArray) → Bool → Bool → Int → Option (Bool)
  | 0, _, _, _, _, _, _, _, _, _ => none
  | k + 1, a0, l1, t295, t297, x10_1, t302, x12_299, x9_2, x14_3 => if 0 ≤ x10_1 then (if x10_1 < (l1.length : Int) then (if (wrap64 (x14_3 + ((rdOf ByteArray.empty l1 x10_1).size : Int))) ≤ (t297.size : Int) then (if x12_299 = true then (if 0 ≤ x14_3 then (if x14_3 ≤ (wrap64 (x14_3 + ((rdOf ByteArray.empty l1 x10_1).size : Int))) then ((chat_Words.f k (t297.extract (x14_3 : Int).toNat ((wrap64 (x14_3 + ((rdOf ByteArray.empty l1 x10_1).size : Int))) : Int).toNat)).bind fun t311 => (if (t311.length : Int) = 1 then (if 0 < (t311.length : Int) then (if 0 < (t302.length : Int) then (barrowlaw38_ChatCleans.l399 k a0 l1 t295 t297 x10_1 t302 x12_299 x9_2 x14_3 ((rdOf ByteArray.empty t311 0).toList == (rdOf ByteArray.empty t302 0).toList)) else (none)) else (none)) else (barrowlaw38_ChatCleans.l399 k a0 l1 t295 t297 x10_1 t302 x12_299 x9_2 x14_3 false))) else (none)) else (none)) else (barrowlaw38_ChatCleans.l1 k a0 l1 t295 t297 x9_2 (wrap64 (x10_1 + 1)))) else (barrowlaw38_ChatCleans.l1 k a0 l1 t295 t297 x9_2 (wrap64 (x10_1 + 1)))) else (none)) else (none)
def barrowlaw38_ChatCleans.l399 : Nat → ByteArray → (List ByteArray) → Bool → ByteArray → Int → (List ByteArray) → Bool → Bool → Int → Bool → Option (Bool)
  | 0, _, _, _, _, _, _, _, _, _, _ => none
  | k + 1, a0, l1, t295, t297, x10_1, t302, x12_299, x9_2, x14_3, x138_399 => if x138_399 = true then (none) else (barrowlaw38_ChatCleans.l3 k a0 l1 t295 t297 x10_1 t302 x12_299 x9_2 (wrap64 (x14_3 + 1)))
end
noncomputable def barrowlaw38_ChatCleans.f (k : Nat) (a0 : ByteArray) (l1 : List ByteArray) : Option (Bool) := (barrowlaw38_small.f k).bind fun t295 => ((barrowlaw38_few.f k l1 a0).bind fun t296 => (if t296 = true then ((chat_Clean.f k a0 l1).bind fun t297 => (if (t297.size : Int) = (a0.size : Int) then (barrowlaw38_ChatCleans.l0 k a0 l1 t295 t297 0) else (none))) else (some t295)))
theorem barrowlaw38_ChatCleans.mono_l : ∀ k, (∀ y0 y1 y2 y3 y4, LeO (barrowlaw38_ChatCleans.l0 k y0 y1 y2 y3 y4) (barrowlaw38_ChatCleans.l0 (k + 1) y0 y1 y2 y3 y4)) ∧ (∀ y0 y1 y2 y3 y4 y5, LeO (barrowlaw38_ChatCleans.l199 k y0 y1 y2 y3 y4 y5) (barrowlaw38_ChatCleans.l199 (k + 1) y0 y1 y2 y3 y4 y5)) ∧ (∀ y0 y1 y2 y3 y4 y5, LeO (barrowlaw38_ChatCleans.l1 k y0 y1 y2 y3 y4 y5) (barrowlaw38_ChatCleans.l1 (k + 1) y0 y1 y2 y3 y4 y5)) ∧ (∀ y0 y1 y2 y3 y4 y5 y6 y7, LeO (barrowlaw38_ChatCleans.l299 k y0 y1 y2 y3 y4 y5 y6 y7) (barrowlaw38_ChatCleans.l299 (k + 1) y0 y1 y2 y3 y4 y5 y6 y7)) ∧ (∀ y0 y1 y2 y3 y4 y5 y6 y7 y8, LeO (barrowlaw38_ChatCleans.l2 k y0 y1 y2 y3 y4 y5 y6 y7 y8) (barrowlaw38_ChatCleans.l2 (k + 1) y0 y1 y2 y3 y4 y5 y6 y7 y8)) ∧ (∀ y0 y1 y2 y3 y4 y5 y6 y7 y8, LeO (barrowlaw38_ChatCleans.l3 k y0 y1 y2 y3 y4 y5 y6 y7 y8) (barrowlaw38_ChatCleans.l3 (k + 1) y0 y1 y2 y3 y4 y5 y6 y7 y8)) ∧ (∀ y0 y1 y2 y3 y4 y5 y6 y7 y8 y9, LeO (barrowlaw38_ChatCleans.l399 k y0 y1 y2 y3 y4 y5 y6 y7 y8 y9) (barrowlaw38_ChatCleans.l399 (k + 1) y0 y1 y2 y3 y4 y5 y6 y7 y8 y9))
  | 0 => ⟨fun _ _ _ _ _ r h => by simp [barrowlaw38_ChatCleans.l0] at h, fun _ _ _ _ _ _ r h => by simp [barrowlaw38_ChatCleans.l199] at h, fun _ _ _ _ _ _ r h => by simp [barrowlaw38_ChatCleans.l1] at h, fun _ _ _ _ _ _ _ _ r h => by simp [barrowlaw38_ChatCleans.l299] at h, fun _ _ _ _ _ _ _ _ _ r h => by simp [barrowlaw38_ChatCleans.l2] at h, fun _ _ _ _ _ _ _ _ _ r h => by simp [barrowlaw38_ChatCleans.l3] at h, fun _ _ _ _ _ _ _ _ _ _ r h => by simp [barrowlaw38_ChatCleans.l399] at h⟩
  | k + 1 => by
    obtain ⟨ih0, ih1, ih2, ih3, ih4, ih5, ih6⟩ := barrowlaw38_ChatCleans.mono_l k
    refine ⟨?_, ?_, ?_, ?_, ?_, ?_, ?_⟩
    · intro y0 y1 y2 y3 y4
      unfold barrowlaw38_ChatCleans.l0
      repeat' first
      | (with_reducible exact ih0 _ _ _ _ _)
      | (with_reducible exact ih1 _ _ _ _ _ _)
      | (with_reducible exact ih2 _ _ _ _ _ _)
      | (with_reducible exact ih3 _ _ _ _ _ _ _ _)
      | (with_reducible exact ih4 _ _ _ _ _ _ _ _ _)
      | (with_reducible exact ih5 _ _ _ _ _ _ _ _ _)
      | (with_reducible exact ih6 _ _ _ _ _ _ _ _ _ _)
      | (with_reducible exact barrowlaw38_few.mono _ _ _)
      | (with_reducible exact barrowlaw38_small.mono _)
      | (with_reducible exact chat_Clean.mono _ _ _)
      | (with_reducible exact chat_Words.mono _ _)
      | (with_reducible exact LeO.refl _)
      | (with_reducible exact LeO.none _)
      | (with_reducible refine LeO.ite ?_ ?_)
      | (with_reducible refine everyOf_le (fun _ => ?_))
      | (with_reducible refine LeO.bind ?_ (fun _ => ?_))
      | exact ih0 _ _ _ _ _
      | exact ih1 _ _ _ _ _ _
      | exact ih2 _ _ _ _ _ _
      | exact ih3 _ _ _ _ _ _ _ _
      | exact ih4 _ _ _ _ _ _ _ _ _
      | exact ih5 _ _ _ _ _ _ _ _ _
      | exact ih6 _ _ _ _ _ _ _ _ _ _
      | exact barrowlaw38_few.mono _ _ _
      | exact barrowlaw38_small.mono _
      | exact chat_Clean.mono _ _ _
      | exact chat_Words.mono _ _
      | exact LeO.none _
      | refine LeO.ite ?_ ?_
      | refine LeO.bind ?_ (fun _ => ?_)
    · intro y0 y1 y2 y3 y4 y5
      unfold barrowlaw38_ChatCleans.l199
      repeat' first
      | (with_reducible exact ih0 _ _ _ _ _)
      | (with_reducible exact ih1 _ _ _ _ _ _)
      | (with_reducible exact ih2 _ _ _ _ _ _)
      | (with_reducible exact ih3 _ _ _ _ _ _ _ _)
      | (with_reducible exact ih4 _ _ _ _ _ _ _ _ _)
      | (with_reducible exact ih5 _ _ _ _ _ _ _ _ _)
      | (with_reducible exact ih6 _ _ _ _ _ _ _ _ _ _)
      | (with_reducible exact barrowlaw38_few.mono _ _ _)
      | (with_reducible exact barrowlaw38_small.mono _)
      | (with_reducible exact chat_Clean.mono _ _ _)
      | (with_reducible exact chat_Words.mono _ _)
      | (with_reducible exact LeO.refl _)
      | (with_reducible exact LeO.none _)
      | (with_reducible refine LeO.ite ?_ ?_)
      | (with_reducible refine everyOf_le (fun _ => ?_))
      | (with_reducible refine LeO.bind ?_ (fun _ => ?_))
      | exact ih0 _ _ _ _ _
      | exact ih1 _ _ _ _ _ _
      | exact ih2 _ _ _ _ _ _
      | exact ih3 _ _ _ _ _ _ _ _
      | exact ih4 _ _ _ _ _ _ _ _ _
      | exact ih5 _ _ _ _ _ _ _ _ _
      | exact ih6 _ _ _ _ _ _ _ _ _ _
      | exact barrowlaw38_few.mono _ _ _
      | exact barrowlaw38_small.mono _
      | exact chat_Clean.mono _ _ _
      | exact chat_Words.mono _ _
      | exact LeO.none _
      | refine LeO.ite ?_ ?_
      | refine LeO.bind ?_ (fun _ => ?_)
    · intro y0 y1 y2 y3 y4 y5
      unfold barrowlaw38_ChatCleans.l1
      repeat' first
      | (with_reducible exact ih0 _ _ _ _ _)
      | (with_reducible exact ih1 _ _ _ _ _ _)
      | (with_reducible exact ih2 _ _ _ _ _ _)
      | (with_reducible exact ih3 _ _ _ _ _ _ _ _)
      | (with_reducible exact ih4 _ _ _ _ _ _ _ _ _)
      | (with_reducible exact ih5 _ _ _ _ _ _ _ _ _)
      | (with_reducible exact ih6 _ _ _ _ _ _ _ _ _ _)
      | (with_reducible exact barrowlaw38_few.mono _ _ _)
      | (with_reducible exact barrowlaw38_small.mono _)
      | (with_reducible exact chat_Clean.mono _ _ _)
      | (with_reducible exact chat_Words.mono _ _)
      | (with_reducible exact LeO.refl _)
      | (with_reducible exact LeO.none _)
      | (with_reducible refine LeO.ite ?_ ?_)
      | (with_reducible refine everyOf_le (fun _ => ?_))
      | (with_reducible refine LeO.bind ?_ (fun _ => ?_))
      | exact ih0 _ _ _ _ _
      | exact ih1 _ _ _ _ _ _
      | exact ih2 _ _ _ _ _ _
      | exact ih3 _ _ _ _ _ _ _ _
      | exact ih4 _ _ _ _ _ _ _ _ _
      | exact ih5 _ _ _ _ _ _ _ _ _
      | exact ih6 _ _ _ _ _ _ _ _ _ _
      | exact barrowlaw38_few.mono _ _ _
      | exact barrowlaw38_small.mono _
      | exact chat_Clean.mono _ _ _
      | exact chat_Words.mono _ _
      | exact LeO.none _
      | refine LeO.ite ?_ ?_
      | refine LeO.bind ?_ (fun _ => ?_)
    · intro y0 y1 y2 y3 y4 y5 y6 y7
      unfold barrowlaw38_ChatCleans.l299
      repeat' first
      | (with_reducible exact ih0 _ _ _ _ _)
      | (with_reducible exact ih1 _ _ _ _ _ _)
      | (with_reducible exact ih2 _ _ _ _ _ _)
      | (with_reducible exact ih3 _ _ _ _ _ _ _ _)
      | (with_reducible exact ih4 _ _ _ _ _ _ _ _ _)
      | (with_reducible exact ih5 _ _ _ _ _ _ _ _ _)
      | (with_reducible exact ih6 _ _ _ _ _ _ _ _ _ _)
      | (with_reducible exact barrowlaw38_few.mono _ _ _)
      | (with_reducible exact barrowlaw38_small.mono _)
      | (with_reducible exact chat_Clean.mono _ _ _)
      | (with_reducible exact chat_Words.mono _ _)
      | (with_reducible exact LeO.refl _)
      | (with_reducible exact LeO.none _)
      | (with_reducible refine LeO.ite ?_ ?_)
      | (with_reducible refine everyOf_le (fun _ => ?_))
      | (with_reducible refine LeO.bind ?_ (fun _ => ?_))
      | exact ih0 _ _ _ _ _
      | exact ih1 _ _ _ _ _ _
      | exact ih2 _ _ _ _ _ _
      | exact ih3 _ _ _ _ _ _ _ _
      | exact ih4 _ _ _ _ _ _ _ _ _
      | exact ih5 _ _ _ _ _ _ _ _ _
      | exact ih6 _ _ _ _ _ _ _ _ _ _
      | exact barrowlaw38_few.mono _ _ _
      | exact barrowlaw38_small.mono _
      | exact chat_Clean.mono _ _ _
      | exact chat_Words.mono _ _
      | exact LeO.none _
      | refine LeO.ite ?_ ?_
      | refine LeO.bind ?_ (fun _ => ?_)
    · intro y0 y1 y2 y3 y4 y5 y6 y7 y8
      unfold barrowlaw38_ChatCleans.l2
      repeat' first
      | (with_reducible exact ih0 _ _ _ _ _)
      | (with_reducible exact ih1 _ _ _ _ _ _)
      | (with_reducible exact ih2 _ _ _ _ _ _)
      | (with_reducible exact ih3 _ _ _ _ _ _ _ _)
      | (with_reducible exact ih4 _ _ _ _ _ _ _ _ _)
      | (with_reducible exact ih5 _ _ _ _ _ _ _ _ _)
      | (with_reducible exact ih6 _ _ _ _ _ _ _ _ _ _)
      | (with_reducible exact barrowlaw38_few.mono _ _ _)
      | (with_reducible exact barrowlaw38_small.mono _)
      | (with_reducible exact chat_Clean.mono _ _ _)
      | (with_reducible exact chat_Words.mono _ _)
      | (with_reducible exact LeO.refl _)
      | (with_reducible exact LeO.none _)
      | (with_reducible refine LeO.ite ?_ ?_)
      | (with_reducible refine everyOf_le (fun _ => ?_))
      | (with_reducible refine LeO.bind ?_ (fun _ => ?_))
      | exact ih0 _ _ _ _ _
      | exact ih1 _ _ _ _ _ _
      | exact ih2 _ _ _ _ _ _
      | exact ih3 _ _ _ _ _ _ _ _
      | exact ih4 _ _ _ _ _ _ _ _ _
      | exact ih5 _ _ _ _ _ _ _ _ _
      | exact ih6 _ _ _ _ _ _ _ _ _ _
      | exact barrowlaw38_few.mono _ _ _
      | exact barrowlaw38_small.mono _
      | exact chat_Clean.mono _ _ _
      | exact chat_Words.mono _ _
      | exact LeO.none _
      | refine LeO.ite ?_ ?_
      | refine LeO.bind ?_ (fun _ => ?_)
    · intro y0 y1 y2 y3 y4 y5 y6 y7 y8
      unfold barrowlaw38_ChatCleans.l3
      repeat' first
      | (with_reducible exact ih0 _ _ _ _ _)
      | (with_reducible exact ih1 _ _ _ _ _ _)
      | (with_reducible exact ih2 _ _ _ _ _ _)
      | (with_reducible exact ih3 _ _ _ _ _ _ _ _)
      | (with_reducible exact ih4 _ _ _ _ _ _ _ _ _)
      | (with_reducible exact ih5 _ _ _ _ _ _ _ _ _)
      | (with_reducible exact ih6 _ _ _ _ _ _ _ _ _ _)
      | (with_reducible exact barrowlaw38_few.mono _ _ _)
      | (with_reducible exact barrowlaw38_small.mono _)
      | (with_reducible exact chat_Clean.mono _ _ _)
      | (with_reducible exact chat_Words.mono _ _)
      | (with_reducible exact LeO.refl _)
      | (with_reducible exact LeO.none _)
      | (with_reducible refine LeO.ite ?_ ?_)
      | (with_reducible refine everyOf_le (fun _ => ?_))
      | (with_reducible refine LeO.bind ?_ (fun _ => ?_))
      | exact ih0 _ _ _ _ _
      | exact ih1 _ _ _ _ _ _
      | exact ih2 _ _ _ _ _ _
      | exact ih3 _ _ _ _ _ _ _ _
      | exact ih4 _ _ _ _ _ _ _ _ _
      | exact ih5 _ _ _ _ _ _ _ _ _
      | exact ih6 _ _ _ _ _ _ _ _ _ _
      | exact barrowlaw38_few.mono _ _ _
      | exact barrowlaw38_small.mono _
      | exact chat_Clean.mono _ _ _
      | exact chat_Words.mono _ _
      | exact LeO.none _
      | refine LeO.ite ?_ ?_
      | refine LeO.bind ?_ (fun _ => ?_)
    · intro y0 y1 y2 y3 y4 y5 y6 y7 y8 y9
      unfold barrowlaw38_ChatCleans.l399
      repeat' first
      | (with_reducible exact ih0 _ _ _ _ _)
      | (with_reducible exact ih1 _ _ _ _ _ _)
      | (with_reducible exact ih2 _ _ _ _ _ _)
      | (with_reducible exact ih3 _ _ _ _ _ _ _ _)
      | (with_reducible exact ih4 _ _ _ _ _ _ _ _ _)
      | (with_reducible exact ih5 _ _ _ _ _ _ _ _ _)
      | (with_reducible exact ih6 _ _ _ _ _ _ _ _ _ _)
      | (with_reducible exact barrowlaw38_few.mono _ _ _)
      | (with_reducible exact barrowlaw38_small.mono _)
      | (with_reducible exact chat_Clean.mono _ _ _)
      | (with_reducible exact chat_Words.mono _ _)
      | (with_reducible exact LeO.refl _)
      | (with_reducible exact LeO.none _)
      | (with_reducible refine LeO.ite ?_ ?_)
      | (with_reducible refine everyOf_le (fun _ => ?_))
      | (with_reducible refine LeO.bind ?_ (fun _ => ?_))
      | exact ih0 _ _ _ _ _
      | exact ih1 _ _ _ _ _ _
      | exact ih2 _ _ _ _ _ _
      | exact ih3 _ _ _ _ _ _ _ _
      | exact ih4 _ _ _ _ _ _ _ _ _
      | exact ih5 _ _ _ _ _ _ _ _ _
      | exact ih6 _ _ _ _ _ _ _ _ _ _
      | exact barrowlaw38_few.mono _ _ _
      | exact barrowlaw38_small.mono _
      | exact chat_Clean.mono _ _ _
      | exact chat_Words.mono _ _
      | exact LeO.none _
      | refine LeO.ite ?_ ?_
      | refine LeO.bind ?_ (fun _ => ?_)
theorem barrowlaw38_ChatCleans.mono : ∀ a0 a1 k, LeO (barrowlaw38_ChatCleans.f k a0 a1) (barrowlaw38_ChatCleans.f (k + 1) a0 a1) := by
  intro a0 a1 k
  obtain ⟨ih0, ih1, ih2, ih3, ih4, ih5, ih6⟩ := barrowlaw38_ChatCleans.mono_l k
  unfold barrowlaw38_ChatCleans.f
  repeat' first
      | (with_reducible exact ih0 _ _ _ _ _)
      | (with_reducible exact ih1 _ _ _ _ _ _)
      | (with_reducible exact ih2 _ _ _ _ _ _)
      | (with_reducible exact ih3 _ _ _ _ _ _ _ _)
      | (with_reducible exact ih4 _ _ _ _ _ _ _ _ _)
      | (with_reducible exact ih5 _ _ _ _ _ _ _ _ _)
      | (with_reducible exact ih6 _ _ _ _ _ _ _ _ _ _)
      | (with_reducible exact barrowlaw38_few.mono _ _ _)
      | (with_reducible exact barrowlaw38_small.mono _)
      | (with_reducible exact chat_Clean.mono _ _ _)
      | (with_reducible exact chat_Words.mono _ _)
      | (with_reducible exact LeO.refl _)
      | (with_reducible exact LeO.none _)
      | (with_reducible refine LeO.ite ?_ ?_)
      | (with_reducible refine everyOf_le (fun _ => ?_))
      | (with_reducible refine LeO.bind ?_ (fun _ => ?_))
      | exact ih0 _ _ _ _ _
      | exact ih1 _ _ _ _ _ _
      | exact ih2 _ _ _ _ _ _
      | exact ih3 _ _ _ _ _ _ _ _
      | exact ih4 _ _ _ _ _ _ _ _ _
      | exact ih5 _ _ _ _ _ _ _ _ _
      | exact ih6 _ _ _ _ _ _ _ _ _ _
      | exact barrowlaw38_few.mono _ _ _
      | exact barrowlaw38_small.mono _
      | exact chat_Clean.mono _ _ _
      | exact chat_Words.mono _ _
      | exact LeO.none _
      | refine LeO.ite ?_ ?_
      | refine LeO.bind ?_ (fun _ => ?_)
def barrowlaw38_ChatCleans.T11 : Bool × List (List Nat × List Nat) := (true, [([], []), ([], []), ([0, 1], [0, 1]), ([], []), ([], []), ([3, 4], [3, 4]), ([2, 5], [2, 5]), ([6], [6]), ([7], [7]), ([7], [7]), ([8, 9, 7], [7, 8, 9]), ([10, 7], [7, 10]), ([7, 11], [7, 11])])
def barrowlaw38_ChatCleans.B11 : List Nat := [0, 0, 3, 0, 0, 24, 63, 127, 255, 255, 1023, 2047, 4095]
theorem barrowlaw38_ChatCleans.tab11 : rtab .any (opsOf Try.f5 11) = barrowlaw38_ChatCleans.T11 := by kernel_rfl
theorem barrowlaw38_ChatCleans.bits11 : waitsOk barrowlaw38_ChatCleans.T11.2 barrowlaw38_ChatCleans.B11 = true := by kernel_rfl
def barrowlaw38_ChatCleans.T18 : Bool × List (List Nat × List Nat) := (true, [([], []), ([0], [0]), ([1], [1]), ([2], [2]), ([3], [3]), ([4, 3], [3, 4]), ([5, 3], [3, 5]), ([6, 3], [3, 6]), ([3], [3]), ([3], [3]), ([8, 9, 3], [3, 8, 9]), ([10, 3], [3, 10]), ([11, 3], [3, 11]), ([7, 12, 3], [3, 7, 12]), ([3, 13], [3, 13]), ([14, 3, 0, 1, 2, 3, 4, 5, 6, 7, 8, 9, 10, 11, 12, 13, 14], [14])])
def barrowlaw38_ChatCleans.B18 : List Nat := [0, 1, 3, 7, 15, 31, 63, 127, 15, 15, 783, 1807, 3855, 8191, 16383, 32767]
theorem barrowlaw38_ChatCleans.tab18 : rtab .any (opsOf Try.f5 18) = barrowlaw38_ChatCleans.T18 := by kernel_rfl
theorem barrowlaw38_ChatCleans.bits18 : waitsOk barrowlaw38_ChatCleans.T18.2 barrowlaw38_ChatCleans.B18 = true := by kernel_rfl
def barrowlaw38_ChatCleans.T27 : Bool × List (List Nat × List Nat) := (true, [([], []), ([0], [0]), ([1], [1]), ([2], [2]), ([3], [3]), ([4, 3], [3, 4]), ([5, 3], [3, 5]), ([3], [3]), ([7, 3], [3, 7]), ([8, 3], [3, 8]), ([6, 9, 3], [3, 6, 9]), ([3, 10], [3, 10])])
def barrowlaw38_ChatCleans.B27 : List Nat := [0, 1, 3, 7, 15, 31, 63, 15, 143, 399, 1023, 2047]
theorem barrowlaw38_ChatCleans.tab27 : rtab .any (opsOf Try.f5 27) = barrowlaw38_ChatCleans.T27 := by kernel_rfl
theorem barrowlaw38_ChatCleans.bits27 : waitsOk barrowlaw38_ChatCleans.T27.2 barrowlaw38_ChatCleans.B27 = true := by kernel_rfl
def barrowlaw38_ChatCleans.Post (r : Bool) (S : Nat → Prop) (L : List Asr) (w : World) (e : Ending) (w' : World) : Prop := e = .returned (.bool r) ∧ SL (L) w' S ∧ Keep S w w'
set_option maxHeartbeats 8000000 in
set_option maxRecDepth 100000 in
theorem barrowlaw38_ChatCleans.slcalls (k : Nat) (a0 : ByteArray) (A1 : Option Addr) (c1 : Nat) (l1 : List ByteArray) (r : Bool) (S : Nat → Prop) (L : List Asr) (w : World) (hf : Fresh S w) (hs : SL (L) w S) (hr1 : RO S w (fun w_ => Kd.C Kd.string w_ A1 l1.length l1)) (hc1 : l1.length ≤ c1) (h : barrowlaw38_ChatCleans.f k a0 l1 = some r) :
    Calls Try.prog 5 #[.string a0, .slice A1 l1.length c1] w (barrowlaw38_ChatCleans.Post r S L w) := by
  have HR1 := Aside0.mk hr1
  have HC1 := Aside0.mk hc1
  clear hr1 hc1
  have HF := Aside0.mk hf
  have HS := Aside0.mk hs
  have HK := Aside0.mk (Keep.refl S w)
  clear hf hs
  have H : ((barrowlaw38_small.f k).bind fun t295 => ((barrowlaw38_few.f k l1 a0).bind fun t296 => (if t296 = true then ((chat_Clean.f k a0 l1).bind fun t297 => (if (t297.size : Int) = (a0.size : Int) then (barrowlaw38_ChatCleans.l0 k a0 l1 t295 t297 0) else (none))) else (some t295)))) = some r := h
  clear h
  replace H := Option.bind_eq_some_iff.1 H
  obtain ⟨t295, Hc10, H⟩ := H
  try dsimp only at H
  have Hc1 := Aside0.mk Hc10
  clear Hc10
  replace H := Option.bind_eq_some_iff.1 H
  obtain ⟨t296, Hc20, H⟩ := H
  try dsimp only at H
  have Hc2 := Aside0.mk Hc20
  clear Hc20
  by_cases c3 : t296 = true
  · subst c3
    rw [if_pos rfl] at H
    replace H := Option.bind_eq_some_iff.1 H
    obtain ⟨t297, Hc40, H⟩ := H
    try dsimp only at H
    have Hc4 := Aside0.mk Hc40
    clear Hc40
    by_cases c5 : (t297.size : Int) = (a0.size : Int)
    · rw [if_pos c5] at H
      have c5b0 : ((t297.size : Int) == (a0.size : Int)) = true := beq_iff_eq.mpr c5
      have c5b1 : ((t297.size : Int) != (a0.size : Int)) = false := bne_eq_false_iff_eq.mpr c5
      have c5b2 : (t297.size == a0.size) = true := by first | simpa using c5 | (simp at c5 ⊢; omega)
      clear c5
      have H' := Aside0.mk H
      clear H
      go_enter Try.func5, Try.ntmps5
      go_wp2_with (first | ((with_reducible refine gate_dst (N := 16) rfl ?_); refine goesL_ (some 16) rfl rfl Try.func7 (by kernel_rfl) rfl #[] rfl (by (try simp only [List.map_toArray, List.map_cons, List.map_nil]); first | done | rfl | (simp; done)) ?_; (with_reducible refine (barrowlaw38_small.calls k _ _  Hc1.out).mono ?_); rintro e_ w6 ⟨rfl, hb_⟩; refine ⟨_, rfl, ?_⟩; replace HS := Aside0.mk (HS.out.below hb_); replace HK := Aside0.mk (HK.out.trans (Keep.below hb_))) | ((with_reducible refine gate_dst (N := 19) rfl ?_); refine goesL_ (some 19) rfl rfl Try.func13 (by kernel_rfl) rfl #[.slice A1 l1.length c1, .string a0] rfl (by (try simp only [List.map_toArray, List.map_cons, List.map_nil]); first | done | rfl | (simp; done)) ?_; (with_reducible refine (barrowlaw38_few.calls k _ _ _ _ _ _ (RO.at_ HR1.out HK.out) HC1.out Hc2.out).mono ?_); rintro e_ w7 ⟨rfl, hb_⟩; refine ⟨_, rfl, ?_⟩; replace hb_ := Drawn0.below hb_; replace HS := Aside0.mk (HS.out.below hb_); replace HK := Aside0.mk (HK.out.trans (Keep.below hb_))) | ((with_reducible refine gate_dst (N := 25) rfl ?_); refine goesL_ (some 25) rfl rfl Try.func16 (by kernel_rfl) rfl #[.string a0, .slice A1 l1.length c1] rfl (by (try simp only [List.map_toArray, List.map_cons, List.map_nil]); first | done | rfl | (simp; done)) ?_; (with_reducible refine (chat_Clean.calls k _ _ _ _ _ _ (RO.at_ HR1.out HK.out) HC1.out Hc4.out).mono ?_); rintro e_ w8 ⟨rfl, hb_⟩; refine ⟨_, rfl, ?_⟩; replace HS := Aside0.mk (HS.out.below hb_); replace HK := Aside0.mk (HK.out.trans (Keep.below hb_))))
      try go_simp
      go_loopg [8] k (fun kq v8 w' => ∃ (x8_0 : Int), v8 = .int .i64 x8_0 ∧ Aside0 (barrowlaw38_ChatCleans.l0 kq a0 l1 t295 t297 x8_0 = some r) ∧ Aside0 (kq ≤ k) ∧ Aside0 (SL (L) w' S) ∧ Aside0 (Keep S w w'))
      case atStart => exact ⟨(0), (by first | rfl | (simp; done) | (simp [*]; done)), H', ⟨Nat.le_refl _⟩, HS, HK⟩
      case round =>
        clear H' HS HK
        obtain ⟨x8_0, rfl, HA, HQ1, HS, HK⟩ := hrel
        cases gk with
        | zero => exact absurd HA.out (by simp [barrowlaw38_ChatCleans.l0])
        | succ k1 =>
          have H := HA.out
          clear HA
          simp only [barrowlaw38_ChatCleans.l0] at H
          by_cases c9 : x8_0 < (t297.size : Int)
          · rw [if_pos c9] at H
            have c9b0 : decide (x8_0 < (t297.size : Int)) = true := decide_eq_true c9
            clear c9
            by_cases c10 : x8_0 < (a0.size : Int)
            · rw [if_pos c10] at H
              have c10b0 : decide (x8_0 < (a0.size : Int)) = true := decide_eq_true c10
              clear c10
              have H' := Aside0.mk H
              clear H
              try go_upto_region 11 with (fail)
              (try simp only [Act.put, sT, sZ, sS])
              go_cut [55] (fun v55 wc => ∃ (kq : Nat) (x55_199 : Bool), v55 = .bool x55_199 ∧ Aside0 (barrowlaw38_ChatCleans.l199 kq a0 l1 t295 t297 x8_0 x55_199 = some r) ∧ Aside0 (kq ≤ k1) ∧ Aside0 (SL (L) wc S) ∧ Aside0 (Keep S w wc))
              case first =>
                have H := H'.out
                clear H'
                by_cases c11 : 0 ≤ x8_0
                · rw [if_pos c11] at H
                  have c11b0 := eq_true c11
                  have c11b1 : decide (0 ≤ x8_0) = true := decide_eq_true c11
                  clear c11
                  by_cases c12 : (bt t297 x8_0) = (bt a0 x8_0)
                  · rw [if_pos c12] at H
                    have c12b0 : ((bt t297 x8_0) == (bt a0 x8_0)) = true := beq_iff_eq.mpr c12
                    have c12b1 : ((bt t297 x8_0) != (bt a0 x8_0)) = false := bne_eq_false_iff_eq.mpr c12
                    clear c12
                    have H' := Aside0.mk H
                    clear H
                    try go_wp2
                    have pq298 : 0 ≤ (x8_0 : Int) := of_decide_eq_true (by first | (with_reducible assumption) | assumption)
                    have qq298 : x8_0 < (t297.size : Int) := of_decide_eq_true (by first | (with_reducible assumption) | assumption)
                    have hxq298 := bt_at t297 x8_0
                    replace pq298 := eq_true pq298
                    replace qq298 := eq_true qq298
                    have pq299 : 0 ≤ (x8_0 : Int) := of_decide_eq_true (by first | (with_reducible assumption) | assumption)
                    have qq299 : x8_0 < (a0.size : Int) := of_decide_eq_true (by first | (with_reducible assumption) | assumption)
                    have hxq299 := bt_at a0 x8_0
                    replace pq299 := eq_true pq299
                    replace qq299 := eq_true qq299
                    refine start_ (n := 13) (S := fun w' => True) (ds := []) #[false, false, false, false, false, false, false, false, false, false, false, false, false] (by kernel_rfl) rfl rfl trivial (fun hHeld => ?_); refine with_tabW barrowlaw38_ChatCleans.tab11 barrowlaw38_ChatCleans.bits11 (fun HT_ HW_ => ?_)
                    replace HK := Aside0.mk (Keep.drew HK.out)
                    replace HS := Aside0.mk (SL.drew HS.out)
                    refine pure_ (i := 0) (N := some 43) (v := ?_) (a' := ?_) #[true, false, false, false, false, false, false, false, false, false, false, false, false] rfl rfl (any_of HT_.out (by kernel_rfl)) (fun _ _ _ h => h) (Or.inl ⟨by rfl, ?_⟩) ?_ ?_; rotate_left; · (intro w'; go_simp; with_reducible rfl)
                    rotate_left; · (simp only [Act.put, sT, sZ, sS, i64_w, i32_w]; rfl)
                    refine pure_ (i := 1) (N := some 44) (v := ?_) (a' := ?_) #[true, true, false, false, false, false, false, false, false, false, false, false, false] rfl rfl (any_of HT_.out (by kernel_rfl)) (fun _ _ _ h => h) (Or.inl ⟨by rfl, ?_⟩) ?_ ?_; rotate_left; · (intro w'; go_simp; with_reducible rfl)
                    rotate_left; · (simp only [Act.put, sT, sZ, sS, i64_w, i32_w]; rfl)
                    refine pure_ (i := 3) (N := some 46) (v := ?_) (a' := ?_) #[true, true, false, true, false, false, false, false, false, false, false, false, false] rfl rfl (any_of HT_.out (by kernel_rfl)) (fun _ _ _ h => h) (Or.inl ⟨by rfl, ?_⟩) ?_ ?_; rotate_left; · (intro w'; go_simp; with_reducible rfl)
                    rotate_left; · (simp only [Act.put, sT, sZ, sS, i64_w, i32_w]; rfl)
                    refine pure_ (i := 4) (N := some 47) (v := ?_) (a' := ?_) #[true, true, false, true, true, false, false, false, false, false, false, false, false] rfl rfl (any_of HT_.out (by kernel_rfl)) (fun _ _ _ h => h) (Or.inl ⟨by rfl, ?_⟩) ?_ ?_; rotate_left; · (intro w'; go_simp; with_reducible rfl)
                    rotate_left; · (simp only [Act.put, sT, sZ, sS, i64_w, i32_w]; rfl)
                    refine take_ (i := 2) (N := some 45) (v := ?_) (a' := ?_) #[true, true, true, true, true, false, false, false, false, false, false, false, false] rfl rfl (take_ofW HT_.out HW_.out (by kernel_rfl)) (fun _ _ _ h => h) (Or.inl ⟨by rfl, ?_⟩) hHeld ?_ ?_; rotate_left
                    · intro w' _
                      go_simp
                      with_reducible rfl
                    rotate_left; · (simp only [Act.put, sT, sZ, sS, i64_w, i32_w]; rfl)
                    refine take_ (i := 5) (N := some 48) (v := ?_) (a' := ?_) #[true, true, true, true, true, true, false, false, false, false, false, false, false] rfl rfl (take_ofW HT_.out HW_.out (by kernel_rfl)) (fun _ _ _ h => h) (Or.inl ⟨by rfl, ?_⟩) hHeld ?_ ?_; rotate_left
                    · intro w' _
                      go_simp
                      with_reducible rfl
                    rotate_left; · (simp only [Act.put, sT, sZ, sS, i64_w, i32_w]; rfl)
                    refine pure_ (i := 6) (N := some 49) (v := ?_) (a' := ?_) #[true, true, true, true, true, true, true, false, false, false, false, false, false] rfl rfl (any_of HT_.out (by kernel_rfl)) (fun _ _ _ h => h) (Or.inl ⟨by rfl, ?_⟩) ?_ ?_; rotate_left; · (intro w'; go_simp; with_reducible rfl)
                    rotate_left; · (simp only [Act.put, sT, sZ, sS, i64_w, i32_w]; rfl)
                    refine pure_ (i := 7) (N := some 50) (v := ?_) (a' := ?_) #[true, true, true, true, true, true, true, true, false, false, false, false, false] rfl rfl (any_of HT_.out (by kernel_rfl)) (fun _ _ _ h => h) (Or.inl ⟨by rfl, ?_⟩) ?_ ?_; rotate_left; · (intro w'; go_simp; with_reducible rfl)
                    rotate_left; · (simp only [Act.put, sT, sZ, sS, i64_w, i32_w]; rfl)
                    refine pure_ (i := 8) (N := some 51) (v := undef) (a' := ?_) #[true, true, true, true, true, true, true, true, true, false, false, false, false] rfl rfl (any_of HT_.out (by kernel_rfl)) (fun _ _ _ h => h) (Or.inr ⟨by rfl, rfl⟩) ?_ ?_; rotate_left; · (simp only [Act.put, sT, sZ, sS, i64_w, i32_w]; rfl)
                    refine pure_ (i := 9) (N := some 52) (v := undef) (a' := ?_) #[true, true, true, true, true, true, true, true, true, true, false, false, false] rfl rfl (any_of HT_.out (by kernel_rfl)) (fun _ _ _ h => h) (Or.inr ⟨by rfl, rfl⟩) ?_ ?_; rotate_left; · (simp only [Act.put, sT, sZ, sS, i64_w, i32_w]; rfl)
                    refine pure_ (i := 10) (N := some 53) (v := undef) (a' := ?_) #[true, true, true, true, true, true, true, true, true, true, true, false, false] rfl rfl (any_of HT_.out (by kernel_rfl)) (fun _ _ _ h => h) (Or.inr ⟨by rfl, rfl⟩) ?_ ?_; rotate_left; · (simp only [Act.put, sT, sZ, sS, i64_w, i32_w]; rfl)
                    refine pure_ (i := 11) (N := some 54) (v := undef) (a' := ?_) #[true, true, true, true, true, true, true, true, true, true, true, true, false] rfl rfl (any_of HT_.out (by kernel_rfl)) (fun _ _ _ h => h) (Or.inr ⟨by rfl, rfl⟩) ?_ ?_; rotate_left; · (simp only [Act.put, sT, sZ, sS, i64_w, i32_w]; rfl)
                    refine pure_ (i := 12) (N := some 55) (v := ?_) (a' := ?_) #[true, true, true, true, true, true, true, true, true, true, true, true, true] rfl rfl (any_of HT_.out (by kernel_rfl)) (fun _ _ _ h => h) (Or.inl ⟨by rfl, ?_⟩) ?_ ?_; rotate_left; · (intro w'; go_simp; with_reducible rfl)
                    rotate_left; · (simp only [Act.put, sT, sZ, sS, i64_w, i32_w]; rfl)
                    refine done_ (done_of HT_.out (by kernel_rfl)) ?_
                    try go_wp2
                    go_meet
                    case rel => exact ⟨k1, (false), (by first | rfl | (simp; done) | (simp [*]; done)), H', ⟨by have := HQ1.out; omega⟩, HS, HK⟩
                  · rw [if_neg c12] at H
                    have c12b0 : ((bt t297 x8_0) == (bt a0 x8_0)) = false := beq_eq_false_iff_ne.mpr c12
                    have c12b1 : ((bt t297 x8_0) != (bt a0 x8_0)) = true := bne_iff_ne.mpr c12
                    have H' := Aside0.mk H
                    clear H
                    try go_wp2
                    have pq298 : 0 ≤ (x8_0 : Int) := of_decide_eq_true (by first | (with_reducible assumption) | assumption)
                    have qq298 : x8_0 < (t297.size : Int) := of_decide_eq_true (by first | (with_reducible assumption) | assumption)
                    have hxq298 := bt_at t297 x8_0
                    replace pq298 := eq_true pq298
                    replace qq298 := eq_true qq298
                    have pq299 : 0 ≤ (x8_0 : Int) := of_decide_eq_true (by first | (with_reducible assumption) | assumption)
                    have qq299 : x8_0 < (a0.size : Int) := of_decide_eq_true (by first | (with_reducible assumption) | assumption)
                    have hxq299 := bt_at a0 x8_0
                    replace pq299 := eq_true pq299
                    replace qq299 := eq_true qq299
                    have pq300 : 0 ≤ (x8_0 : Int) := of_decide_eq_true (by first | (with_reducible assumption) | assumption)
                    have qq300 : x8_0 < (t297.size : Int) := of_decide_eq_true (by first | (with_reducible assumption) | assumption)
                    have hxq300 := bt_at t297 x8_0
                    replace pq300 := eq_true pq300
                    replace qq300 := eq_true qq300
                    refine start_ (n := 13) (S := fun w' => True) (ds := []) #[false, false, false, false, false, false, false, false, false, false, false, false, false] (by kernel_rfl) rfl rfl trivial (fun hHeld => ?_); refine with_tabW barrowlaw38_ChatCleans.tab11 barrowlaw38_ChatCleans.bits11 (fun HT_ HW_ => ?_)
                    replace HK := Aside0.mk (Keep.drew HK.out)
                    replace HS := Aside0.mk (SL.drew HS.out)
                    refine pure_ (i := 0) (N := some 43) (v := ?_) (a' := ?_) #[true, false, false, false, false, false, false, false, false, false, false, false, false] rfl rfl (any_of HT_.out (by kernel_rfl)) (fun _ _ _ h => h) (Or.inl ⟨by rfl, ?_⟩) ?_ ?_; rotate_left; · (intro w'; go_simp; with_reducible rfl)
                    rotate_left; · (simp only [Act.put, sT, sZ, sS, i64_w, i32_w]; rfl)
                    refine pure_ (i := 1) (N := some 44) (v := ?_) (a' := ?_) #[true, true, false, false, false, false, false, false, false, false, false, false, false] rfl rfl (any_of HT_.out (by kernel_rfl)) (fun _ _ _ h => h) (Or.inl ⟨by rfl, ?_⟩) ?_ ?_; rotate_left; · (intro w'; go_simp; with_reducible rfl)
                    rotate_left; · (simp only [Act.put, sT, sZ, sS, i64_w, i32_w]; rfl)
                    refine pure_ (i := 3) (N := some 46) (v := ?_) (a' := ?_) #[true, true, false, true, false, false, false, false, false, false, false, false, false] rfl rfl (any_of HT_.out (by kernel_rfl)) (fun _ _ _ h => h) (Or.inl ⟨by rfl, ?_⟩) ?_ ?_; rotate_left; · (intro w'; go_simp; with_reducible rfl)
                    rotate_left; · (simp only [Act.put, sT, sZ, sS, i64_w, i32_w]; rfl)
                    refine pure_ (i := 4) (N := some 47) (v := ?_) (a' := ?_) #[true, true, false, true, true, false, false, false, false, false, false, false, false] rfl rfl (any_of HT_.out (by kernel_rfl)) (fun _ _ _ h => h) (Or.inl ⟨by rfl, ?_⟩) ?_ ?_; rotate_left; · (intro w'; go_simp; with_reducible rfl)
                    rotate_left; · (simp only [Act.put, sT, sZ, sS, i64_w, i32_w]; rfl)
                    refine take_ (i := 2) (N := some 45) (v := ?_) (a' := ?_) #[true, true, true, true, true, false, false, false, false, false, false, false, false] rfl rfl (take_ofW HT_.out HW_.out (by kernel_rfl)) (fun _ _ _ h => h) (Or.inl ⟨by rfl, ?_⟩) hHeld ?_ ?_; rotate_left
                    · intro w' _
                      go_simp
                      with_reducible rfl
                    rotate_left; · (simp only [Act.put, sT, sZ, sS, i64_w, i32_w]; rfl)
                    refine take_ (i := 5) (N := some 48) (v := ?_) (a' := ?_) #[true, true, true, true, true, true, false, false, false, false, false, false, false] rfl rfl (take_ofW HT_.out HW_.out (by kernel_rfl)) (fun _ _ _ h => h) (Or.inl ⟨by rfl, ?_⟩) hHeld ?_ ?_; rotate_left
                    · intro w' _
                      go_simp
                      with_reducible rfl
                    rotate_left; · (simp only [Act.put, sT, sZ, sS, i64_w, i32_w]; rfl)
                    refine pure_ (i := 6) (N := some 49) (v := ?_) (a' := ?_) #[true, true, true, true, true, true, true, false, false, false, false, false, false] rfl rfl (any_of HT_.out (by kernel_rfl)) (fun _ _ _ h => h) (Or.inl ⟨by rfl, ?_⟩) ?_ ?_; rotate_left; · (intro w'; go_simp; with_reducible rfl)
                    rotate_left; · (simp only [Act.put, sT, sZ, sS, i64_w, i32_w]; rfl)
                    refine pure_ (i := 7) (N := some 50) (v := ?_) (a' := ?_) #[true, true, true, true, true, true, true, true, false, false, false, false, false] rfl rfl (any_of HT_.out (by kernel_rfl)) (fun _ _ _ h => h) (Or.inl ⟨by rfl, ?_⟩) ?_ ?_; rotate_left; · (intro w'; go_simp; with_reducible rfl)
                    rotate_left; · (simp only [Act.put, sT, sZ, sS, i64_w, i32_w]; rfl)
                    refine pure_ (i := 8) (N := some 51) (v := ?_) (a' := ?_) #[true, true, true, true, true, true, true, true, true, false, false, false, false] rfl rfl (any_of HT_.out (by kernel_rfl)) (fun _ _ _ h => h) (Or.inl ⟨by rfl, ?_⟩) ?_ ?_; rotate_left; · (intro w'; go_simp; with_reducible rfl)
                    rotate_left; · (simp only [Act.put, sT, sZ, sS, i64_w, i32_w]; rfl)
                    refine pure_ (i := 9) (N := some 52) (v := ?_) (a' := ?_) #[true, true, true, true, true, true, true, true, true, true, false, false, false] rfl rfl (any_of HT_.out (by kernel_rfl)) (fun _ _ _ h => h) (Or.inl ⟨by rfl, ?_⟩) ?_ ?_; rotate_left; · (intro w'; go_simp; with_reducible rfl)
                    rotate_left; · (simp only [Act.put, sT, sZ, sS, i64_w, i32_w]; rfl)
                    refine take_ (i := 10) (N := some 53) (v := ?_) (a' := ?_) #[true, true, true, true, true, true, true, true, true, true, true, false, false] rfl rfl (take_ofW HT_.out HW_.out (by kernel_rfl)) (fun _ _ _ h => h) (Or.inl ⟨by rfl, ?_⟩) hHeld ?_ ?_; rotate_left
                    · intro w' _
                      go_simp
                      with_reducible rfl
                    rotate_left; · (simp only [Act.put, sT, sZ, sS, i64_w, i32_w]; rfl)
                    refine pure_ (i := 11) (N := some 54) (v := ?_) (a' := ?_) #[true, true, true, true, true, true, true, true, true, true, true, true, false] rfl rfl (any_of HT_.out (by kernel_rfl)) (fun _ _ _ h => h) (Or.inl ⟨by rfl, ?_⟩) ?_ ?_; rotate_left; · (intro w'; go_simp; with_reducible rfl)
                    rotate_left; · (simp only [Act.put, sT, sZ, sS, i64_w, i32_w]; rfl)
                    refine pure_ (i := 12) (N := some 55) (v := ?_) (a' := ?_) #[true, true, true, true, true, true, true, true, true, true, true, true, true] rfl rfl (any_of HT_.out (by kernel_rfl)) (fun _ _ _ h => h) (Or.inl ⟨by rfl, ?_⟩) ?_ ?_; rotate_left; · (intro w'; go_simp; with_reducible rfl)
                    rotate_left; · (simp only [Act.put, sT, sZ, sS, i64_w, i32_w]; rfl)
                    refine done_ (done_of HT_.out (by kernel_rfl)) ?_
                    try go_wp2
                    go_meet
                    case rel => exact ⟨k1, (((bt t297 x8_0) != 42)), (by first | rfl | (simp; done) | (simp [*]; done)), H', ⟨by have := HQ1.out; omega⟩, HS, HK⟩
                · rw [if_neg c11] at H
                  exact absurd H (by simp)
              case rest =>
                clear H' HS HK
                obtain ⟨kq, x55_199, rfl, HA, HQ2, HS, HK⟩ := hcut
                cases kq with
                | zero => exact absurd HA.out (by simp [barrowlaw38_ChatCleans.l199])
                | succ k2 =>
                  have H := HA.out
                  clear HA
                  simp only [barrowlaw38_ChatCleans.l199] at H
                  by_cases c13 : x55_199 = true
                  · subst c13
                    rw [if_pos rfl] at H
                    exact absurd H (by simp)
                  · replace c13 := Bool.eq_false_iff.mpr c13
                    subst c13
                    rw [if_neg (show ¬ (false = true) by decide)] at H
                    have H' := Aside0.mk H
                    clear H
                    go_wp2
                    go_roundg k2
                    case measure => have := HQ1.out; have := HQ2.out; omega
                    case rel => exact ⟨(wrap64 (x8_0 + 1)), (by first | rfl | (simp; done) | (simp [*]; done)), H', ⟨by have := HQ1.out; have := HQ2.out; omega⟩, HS, HK⟩
            · rw [if_neg c10] at H
              have c10b0 : decide (x8_0 < (a0.size : Int)) = false := decide_eq_false c10
              clear c10
              have H' := Aside0.mk H
              clear H
              go_wp2
              go_loopg [9, 10] k1 (fun kq v9 v10 w' => ∃ (x9_1 : Bool) (x10_1 : Int), v9 = .bool x9_1 ∧ v10 = .int .i64 x10_1 ∧ Aside0 (barrowlaw38_ChatCleans.l1 kq a0 l1 t295 t297 x9_1 x10_1 = some r) ∧ Aside0 (kq ≤ k1) ∧ Aside0 (SL (L) w' S) ∧ Aside0 (Keep S w w'))
              case atStart => exact ⟨(false), (0), (by first | rfl | (simp; done) | (simp [*]; done)), (by first | rfl | (simp; done) | (simp [*]; done)), H', ⟨Nat.le_refl _⟩, HS, HK⟩
              case round =>
                clear H' HS HK
                obtain ⟨x9_1, x10_1, rfl, rfl, HA, HQ2, HS, HK⟩ := hrel
                cases gk with
                | zero => exact absurd HA.out (by simp [barrowlaw38_ChatCleans.l1])
                | succ k2 =>
                  have H := HA.out
                  clear HA
                  simp only [barrowlaw38_ChatCleans.l1] at H
                  by_cases c14 : x10_1 < (l1.length : Int)
                  · rw [if_pos c14] at H
                    have c14b0 : decide (x10_1 < (l1.length : Int)) = true := decide_eq_true c14
                    clear c14
                    by_cases c15 : 0 ≤ x10_1
                    · rw [if_pos c15] at H
                      have c15b0 : decide (0 ≤ x10_1) = true := decide_eq_true c15
                      clear c15
                      replace H := Option.bind_eq_some_iff.1 H
                      obtain ⟨t302, Hc160, H⟩ := H
                      try dsimp only at H
                      have Hc16 := Aside0.mk Hc160
                      clear Hc160
                      have H' := Aside0.mk H
                      clear H
                      have pq301 : 0 ≤ (x10_1 : Int) := of_decide_eq_true (by first | (with_reducible assumption) | assumption)
                      have qq301 : x10_1 < ((l1.length : Int) : Int) := of_decide_eq_true (by first | (with_reducible assumption) | assumption)
                      obtain ⟨adq301, eq301, hxq301_0⟩ := Kd.at_string (RO.at_ HR1.out HK.out) x10_1 pq301 qq301
                      cases eq301
                      replace pq301 := eq_true pq301
                      replace qq301 := eq_true qq301
                      try go_upto_region 18 with (first | ((with_reducible refine gate_dst (N := 66) rfl ?_); refine goesL_ (some 66) rfl rfl Try.func19 (by kernel_rfl) rfl #[.string (rdOf ByteArray.empty l1 x10_1)] rfl (by (try simp only [List.map_toArray, List.map_cons, List.map_nil]); first | done | rfl | (simp; done)) ?_; have hs0_ := HS.out; (with_reducible refine (chat_Words.slcalls k2 _ _ _ _ _ (HF.out.keep HK.out) hs0_  Hc16.out).mono ?_); rintro e_ w17 ⟨Az3000039, cz3000039, rfl, hsr_, hkr_⟩; refine ⟨_, rfl, ?_⟩; replace HS := Aside0.mk (hsr_); replace HK := Aside0.mk (HK.out.trans hkr_)))
                      (try simp only [Act.put, sT, sZ, sS])
                      go_cut [12] (fun v12 wc => ∃ (kq : Nat) (x12_299 : Bool), v12 = .bool x12_299 ∧ Aside0 (barrowlaw38_ChatCleans.l299 kq a0 l1 t295 t297 x9_1 x10_1 t302 x12_299 = some r) ∧ Aside0 (kq ≤ k2) ∧ Aside0 (SL (row Kd.string 9 (.slice Az3000039 t302.length cz3000039) t302 :: L) wc S) ∧ Aside0 (Keep S w wc))
                      case first =>
                        have H := H'.out
                        clear H'
                        by_cases c18 : (t302.length : Int) = 1
                        · rw [if_pos c18] at H
                          have c18b0 : ((t302.length : Int) == 1) = true := beq_iff_eq.mpr c18
                          have c18b1 : ((t302.length : Int) != 1) = false := bne_eq_false_iff_eq.mpr c18
                          clear c18
                          by_cases c19 : 0 < (t302.length : Int)
                          · rw [if_pos c19] at H
                            have c19b0 : decide (0 < (t302.length : Int)) = true := decide_eq_true c19
                            have c19b1 : decide (0 < t302.length) = true := decide_eq_true (by omega)
                            clear c19
                            have H' := Aside0.mk H
                            clear H
                            try go_wp2
                            have pq303 : 0 ≤ (0 : Int) := (by omega)
                            have qq303 : 0 < ((t302.length : Int) : Int) := of_decide_eq_true (by first | (with_reducible assumption) | assumption)
                            obtain ⟨adq303, eq303, hxq303_0⟩ := Kd.at_string (SL.row_c HS.out).2.2 0 pq303 qq303
                            cases eq303
                            (try rw [show ((0 : Int)).toNat = 0 from rfl] at hxq303_0)
                            (try rw [Addr.add_zero'] at hxq303_0)
                            have qiq303 : (0 < t302.length) = True := eq_true (by omega)
                            replace pq303 := eq_true pq303
                            replace qq303 := eq_true qq303
                            have pq304 : 0 ≤ (x10_1 : Int) := of_decide_eq_true (by first | (with_reducible assumption) | assumption)
                            have qq304 : x10_1 < ((l1.length : Int) : Int) := of_decide_eq_true (by first | (with_reducible assumption) | assumption)
                            obtain ⟨adq304, eq304, hxxq304⟩ := RO.cell (enc := Value.string) (h1 := fun _ => rfl) (⟨#[]⟩ : ByteArray) HR1.out x10_1 pq304 qq304
                            have hxq304_0 := hxxq304 _ HK.out
                            obtain rfl : adq301 = adq304 := (by injection eq304)
                            replace pq304 := eq_true pq304
                            replace qq304 := eq_true qq304
                            refine start_ (n := 16) (S := fun w' => w'.cell? adq303 = some (.string (rdOf ByteArray.empty t302 0)) ∧ w'.cell? (adq301.add x10_1.toNat) = some (.string (rdOf ByteArray.empty l1 x10_1))) (ds := []) #[false, false, false, false, false, false, false, false, false, false, false, false, false, false, false, false] (by kernel_rfl) rfl rfl ⟨(by have h_ := (SL.cell_sc (enc := Value.string) (h1 := fun _ => rfl) (⟨#[]⟩ : ByteArray) HS.out 0 (of_eq_true pq303) (of_eq_true qq303)); rw [show ((0 : Int)).toNat = 0 from rfl, Addr.add_zero'] at h_; exact h_), (by have h_ := hxxq304 _ HK.out; exact h_)⟩ (fun hHeld => ?_); refine with_tabW barrowlaw38_ChatCleans.tab18 barrowlaw38_ChatCleans.bits18 (fun HT_ HW_ => ?_)
                            replace HK := Aside0.mk (Keep.drew HK.out)
                            replace HS := Aside0.mk (SL.drew HS.out)
                            refine pure_ (i := 0) (N := some 67) (v := ?_) (a' := ?_) #[true, false, false, false, false, false, false, false, false, false, false, false, false, false, false, false] rfl rfl (any_of HT_.out (by kernel_rfl)) (fun _ _ _ h => h) (Or.inl ⟨by rfl, ?_⟩) ?_ ?_; rotate_left; · (intro w'; go_simp; with_reducible rfl)
                            rotate_left; · (simp only [Act.put, sT, sZ, sS, i64_w, i32_w]; rfl)
                            refine pure_ (i := 1) (N := some 68) (v := ?_) (a' := ?_) #[true, true, false, false, false, false, false, false, false, false, false, false, false, false, false, false] rfl rfl (any_of HT_.out (by kernel_rfl)) (fun _ _ _ h => h) (Or.inl ⟨by rfl, ?_⟩) ?_ ?_; rotate_left; · (intro w'; go_simp; with_reducible rfl)
                            rotate_left; · (simp only [Act.put, sT, sZ, sS, i64_w, i32_w]; rfl)
                            refine pure_ (i := 2) (N := some 69) (v := ?_) (a' := ?_) #[true, true, true, false, false, false, false, false, false, false, false, false, false, false, false, false] rfl rfl (any_of HT_.out (by kernel_rfl)) (fun _ _ _ h => h) (Or.inl ⟨by rfl, ?_⟩) ?_ ?_; rotate_left; · (intro w'; go_simp; with_reducible rfl)
                            rotate_left; · (simp only [Act.put, sT, sZ, sS, i64_w, i32_w]; rfl)
                            refine pure_ (i := 3) (N := some 70) (v := ?_) (a' := ?_) #[true, true, true, true, false, false, false, false, false, false, false, false, false, false, false, false] rfl rfl (any_of HT_.out (by kernel_rfl)) (fun _ _ _ h => h) (Or.inl ⟨by rfl, ?_⟩) ?_ ?_; rotate_left; · (intro w'; go_simp; with_reducible rfl)
                            rotate_left; · (simp only [Act.put, sT, sZ, sS, i64_w, i32_w]; rfl)
                            refine pure_ (i := 4) (N := some 71) (v := ?_) (a' := ?_) #[true, true, true, true, true, false, false, false, false, false, false, false, false, false, false, false] rfl rfl (any_of HT_.out (by kernel_rfl)) (fun _ _ _ h => h) (Or.inl ⟨by rfl, ?_⟩) ?_ ?_; rotate_left; · (intro w'; go_simp; with_reducible rfl)
                            rotate_left; · (simp only [Act.put, sT, sZ, sS, i64_w, i32_w]; rfl)
                            refine pure_ (i := 5) (N := some 72) (v := ?_) (a' := ?_) #[true, true, true, true, true, true, false, false, false, false, false, false, false, false, false, false] rfl rfl (any_of HT_.out (by kernel_rfl)) (fun _ _ _ h => h) (Or.inl ⟨by rfl, ?_⟩) ?_ ?_; rotate_left; · (intro w'; go_simp; with_reducible rfl)
                            rotate_left; · (simp only [Act.put, sT, sZ, sS, i64_w, i32_w]; rfl)
                            refine pure_ (i := 8) (N := some 75) (v := ?_) (a' := ?_) #[true, true, true, true, true, true, false, false, true, false, false, false, false, false, false, false] rfl rfl (any_of HT_.out (by kernel_rfl)) (fun _ _ _ h => h) (Or.inl ⟨by rfl, ?_⟩) ?_ ?_; rotate_left; · (intro w'; go_simp; with_reducible rfl)
                            rotate_left; · (simp only [Act.put, sT, sZ, sS, i64_w, i32_w]; rfl)
                            refine pure_ (i := 9) (N := some 76) (v := ?_) (a' := ?_) #[true, true, true, true, true, true, false, false, true, true, false, false, false, false, false, false] rfl rfl (any_of HT_.out (by kernel_rfl)) (fun _ _ _ h => h) (Or.inl ⟨by rfl, ?_⟩) ?_ ?_; rotate_left; · (intro w'; go_simp; with_reducible rfl)
                            rotate_left; · (simp only [Act.put, sT, sZ, sS, i64_w, i32_w]; rfl)
                            refine pure_ (i := 10) (N := some 77) (v := ?_) (a' := ?_) #[true, true, true, true, true, true, false, false, true, true, true, false, false, false, false, false] rfl rfl (any_of HT_.out (by kernel_rfl)) (fun _ _ _ h => h) (Or.inl ⟨by rfl, ?_⟩) ?_ ?_; rotate_left; · (intro w'; go_simp; with_reducible rfl)
                            rotate_left; · (simp only [Act.put, sT, sZ, sS, i64_w, i32_w]; rfl)
                            refine take_ (i := 6) (N := some 73) (v := ?_) (a' := ?_) #[true, true, true, true, true, true, true, false, true, true, true, false, false, false, false, false] rfl rfl (take_ofW HT_.out HW_.out (by kernel_rfl)) (fun _ _ _ h => h) (Or.inl ⟨by rfl, ?_⟩) hHeld ?_ ?_; rotate_left
                            · rintro w' ⟨s0, s1⟩
                              go_simp
                              with_reducible rfl
                            rotate_left; · (simp only [Act.put, sT, sZ, sS, i64_w, i32_w]; rfl)
                            refine pure_ (i := 7) (N := some 74) (v := ?_) (a' := ?_) #[true, true, true, true, true, true, true, true, true, true, true, false, false, false, false, false] rfl rfl (any_of HT_.out (by kernel_rfl)) (fun _ _ _ h => h) (Or.inl ⟨by rfl, ?_⟩) ?_ ?_; rotate_left; · (intro w'; go_simp; with_reducible rfl)
                            rotate_left; · (simp only [Act.put, sT, sZ, sS, i64_w, i32_w]; rfl)
                            refine take_ (i := 11) (N := some 78) (v := ?_) (a' := ?_) #[true, true, true, true, true, true, true, true, true, true, true, true, false, false, false, false] rfl rfl (take_ofW HT_.out HW_.out (by kernel_rfl)) (fun _ _ _ h => h) (Or.inl ⟨by rfl, ?_⟩) hHeld ?_ ?_; rotate_left
                            · rintro w' ⟨s0, s1⟩
                              go_simp
                              with_reducible rfl
                            rotate_left; · (simp only [Act.put, sT, sZ, sS, i64_w, i32_w]; rfl)
                            refine pure_ (i := 12) (N := some 79) (v := ?_) (a' := ?_) #[true, true, true, true, true, true, true, true, true, true, true, true, true, false, false, false] rfl rfl (any_of HT_.out (by kernel_rfl)) (fun _ _ _ h => h) (Or.inl ⟨by rfl, ?_⟩) ?_ ?_; rotate_left; · (intro w'; go_simp; with_reducible rfl)
                            rotate_left; · (simp only [Act.put, sT, sZ, sS, i64_w, i32_w]; rfl)
                            refine pure_ (i := 13) (N := some 80) (v := ?_) (a' := ?_) #[true, true, true, true, true, true, true, true, true, true, true, true, true, true, false, false] rfl rfl (any_of HT_.out (by kernel_rfl)) (fun _ _ _ h => h) (Or.inl ⟨by rfl, ?_⟩) ?_ ?_; rotate_left; · (intro w'; go_simp; with_reducible rfl)
                            rotate_left; · (simp only [Act.put, sT, sZ, sS, i64_w, i32_w]; rfl)
                            refine pure_ (i := 14) (N := some 81) (v := ?_) (a' := ?_) #[true, true, true, true, true, true, true, true, true, true, true, true, true, true, true, false] rfl rfl (any_of HT_.out (by kernel_rfl)) (fun _ _ _ h => h) (Or.inl ⟨by rfl, ?_⟩) ?_ ?_; rotate_left; · (intro w'; go_simp; with_reducible rfl)
                            rotate_left; · (simp only [Act.put, sT, sZ, sS, i64_w, i32_w]; rfl)
                            refine pure_ (i := 15) (N := some 12) (v := ?_) (a' := ?_) #[true, true, true, true, true, true, true, true, true, true, true, true, true, true, true, true] rfl rfl (any_of HT_.out (by kernel_rfl)) (fun _ _ _ h => h) (Or.inl ⟨by rfl, ?_⟩) ?_ ?_; rotate_left; · (intro w'; go_simp; with_reducible rfl)
                            rotate_left; · (simp only [Act.put, sT, sZ, sS, i64_w, i32_w]; rfl)
                            refine done_ (done_of HT_.out (by kernel_rfl)) ?_
                            try go_wp2
                            go_meet
                            case rel => exact ⟨k2, ((((rdOf ByteArray.empty t302 0).size : Int) == ((rdOf ByteArray.empty l1 x10_1).size : Int))), (by first | rfl | (simp; done) | (simp [*]; done)), H', ⟨by have := HQ1.out; have := HQ2.out; omega⟩, HS, HK⟩
                          · rw [if_neg c19] at H
                            exact absurd H (by simp)
                        · rw [if_neg c18] at H
                          have c18b0 : ((t302.length : Int) == 1) = false := beq_eq_false_iff_ne.mpr c18
                          have c18b1 : ((t302.length : Int) != 1) = true := bne_iff_ne.mpr c18
                          have H' := Aside0.mk H
                          clear H
                          try go_wp2
                          refine start_ (n := 16) (S := fun w' => True) (ds := []) #[false, false, false, false, false, false, false, false, false, false, false, false, false, false, false, false] (by kernel_rfl) rfl rfl trivial (fun hHeld => ?_); refine with_tabW barrowlaw38_ChatCleans.tab18 barrowlaw38_ChatCleans.bits18 (fun HT_ HW_ => ?_)
                          replace HK := Aside0.mk (Keep.drew HK.out)
                          replace HS := Aside0.mk (SL.drew HS.out)
                          refine pure_ (i := 0) (N := some 67) (v := ?_) (a' := ?_) #[true, false, false, false, false, false, false, false, false, false, false, false, false, false, false, false] rfl rfl (any_of HT_.out (by kernel_rfl)) (fun _ _ _ h => h) (Or.inl ⟨by rfl, ?_⟩) ?_ ?_; rotate_left; · (intro w'; go_simp; with_reducible rfl)
                          rotate_left; · (simp only [Act.put, sT, sZ, sS, i64_w, i32_w]; rfl)
                          refine pure_ (i := 1) (N := some 68) (v := ?_) (a' := ?_) #[true, true, false, false, false, false, false, false, false, false, false, false, false, false, false, false] rfl rfl (any_of HT_.out (by kernel_rfl)) (fun _ _ _ h => h) (Or.inl ⟨by rfl, ?_⟩) ?_ ?_; rotate_left; · (intro w'; go_simp; with_reducible rfl)
                          rotate_left; · (simp only [Act.put, sT, sZ, sS, i64_w, i32_w]; rfl)
                          refine pure_ (i := 2) (N := some 69) (v := ?_) (a' := ?_) #[true, true, true, false, false, false, false, false, false, false, false, false, false, false, false, false] rfl rfl (any_of HT_.out (by kernel_rfl)) (fun _ _ _ h => h) (Or.inl ⟨by rfl, ?_⟩) ?_ ?_; rotate_left; · (intro w'; go_simp; with_reducible rfl)
                          rotate_left; · (simp only [Act.put, sT, sZ, sS, i64_w, i32_w]; rfl)
                          refine pure_ (i := 3) (N := some 70) (v := ?_) (a' := ?_) #[true, true, true, true, false, false, false, false, false, false, false, false, false, false, false, false] rfl rfl (any_of HT_.out (by kernel_rfl)) (fun _ _ _ h => h) (Or.inl ⟨by rfl, ?_⟩) ?_ ?_; rotate_left; · (intro w'; go_simp; with_reducible rfl)
                          rotate_left; · (simp only [Act.put, sT, sZ, sS, i64_w, i32_w]; rfl)
                          refine pure_ (i := 4) (N := some 71) (v := undef) (a' := ?_) #[true, true, true, true, true, false, false, false, false, false, false, false, false, false, false, false] rfl rfl (any_of HT_.out (by kernel_rfl)) (fun _ _ _ h => h) (Or.inr ⟨by rfl, rfl⟩) ?_ ?_; rotate_left; · (simp only [Act.put, sT, sZ, sS, i64_w, i32_w]; rfl)
                          refine pure_ (i := 5) (N := some 72) (v := undef) (a' := ?_) #[true, true, true, true, true, true, false, false, false, false, false, false, false, false, false, false] rfl rfl (any_of HT_.out (by kernel_rfl)) (fun _ _ _ h => h) (Or.inr ⟨by rfl, rfl⟩) ?_ ?_; rotate_left; · (simp only [Act.put, sT, sZ, sS, i64_w, i32_w]; rfl)
                          refine pure_ (i := 6) (N := some 73) (v := undef) (a' := ?_) #[true, true, true, true, true, true, true, false, false, false, false, false, false, false, false, false] rfl rfl (any_of HT_.out (by kernel_rfl)) (fun _ _ _ h => h) (Or.inr ⟨by rfl, rfl⟩) ?_ ?_; rotate_left; · (simp only [Act.put, sT, sZ, sS, i64_w, i32_w]; rfl)
                          refine pure_ (i := 7) (N := some 74) (v := undef) (a' := ?_) #[true, true, true, true, true, true, true, true, false, false, false, false, false, false, false, false] rfl rfl (any_of HT_.out (by kernel_rfl)) (fun _ _ _ h => h) (Or.inr ⟨by rfl, rfl⟩) ?_ ?_; rotate_left; · (simp only [Act.put, sT, sZ, sS, i64_w, i32_w]; rfl)
                          refine pure_ (i := 8) (N := some 75) (v := undef) (a' := ?_) #[true, true, true, true, true, true, true, true, true, false, false, false, false, false, false, false] rfl rfl (any_of HT_.out (by kernel_rfl)) (fun _ _ _ h => h) (Or.inr ⟨by rfl, rfl⟩) ?_ ?_; rotate_left; · (simp only [Act.put, sT, sZ, sS, i64_w, i32_w]; rfl)
                          refine pure_ (i := 9) (N := some 76) (v := undef) (a' := ?_) #[true, true, true, true, true, true, true, true, true, true, false, false, false, false, false, false] rfl rfl (any_of HT_.out (by kernel_rfl)) (fun _ _ _ h => h) (Or.inr ⟨by rfl, rfl⟩) ?_ ?_; rotate_left; · (simp only [Act.put, sT, sZ, sS, i64_w, i32_w]; rfl)
                          refine pure_ (i := 10) (N := some 77) (v := undef) (a' := ?_) #[true, true, true, true, true, true, true, true, true, true, true, false, false, false, false, false] rfl rfl (any_of HT_.out (by kernel_rfl)) (fun _ _ _ h => h) (Or.inr ⟨by rfl, rfl⟩) ?_ ?_; rotate_left; · (simp only [Act.put, sT, sZ, sS, i64_w, i32_w]; rfl)
                          refine pure_ (i := 11) (N := some 78) (v := undef) (a' := ?_) #[true, true, true, true, true, true, true, true, true, true, true, true, false, false, false, false] rfl rfl (any_of HT_.out (by kernel_rfl)) (fun _ _ _ h => h) (Or.inr ⟨by rfl, rfl⟩) ?_ ?_; rotate_left; · (simp only [Act.put, sT, sZ, sS, i64_w, i32_w]; rfl)
                          refine pure_ (i := 12) (N := some 79) (v := undef) (a' := ?_) #[true, true, true, true, true, true, true, true, true, true, true, true, true, false, false, false] rfl rfl (any_of HT_.out (by kernel_rfl)) (fun _ _ _ h => h) (Or.inr ⟨by rfl, rfl⟩) ?_ ?_; rotate_left; · (simp only [Act.put, sT, sZ, sS, i64_w, i32_w]; rfl)
                          refine pure_ (i := 13) (N := some 80) (v := undef) (a' := ?_) #[true, true, true, true, true, true, true, true, true, true, true, true, true, true, false, false] rfl rfl (any_of HT_.out (by kernel_rfl)) (fun _ _ _ h => h) (Or.inr ⟨by rfl, rfl⟩) ?_ ?_; rotate_left; · (simp only [Act.put, sT, sZ, sS, i64_w, i32_w]; rfl)
                          refine pure_ (i := 14) (N := some 81) (v := ?_) (a' := ?_) #[true, true, true, true, true, true, true, true, true, true, true, true, true, true, true, false] rfl rfl (any_of HT_.out (by kernel_rfl)) (fun _ _ _ h => h) (Or.inl ⟨by rfl, ?_⟩) ?_ ?_; rotate_left; · (intro w'; go_simp; with_reducible rfl)
                          rotate_left; · (simp only [Act.put, sT, sZ, sS, i64_w, i32_w]; rfl)
                          refine pure_ (i := 15) (N := some 12) (v := ?_) (a' := ?_) #[true, true, true, true, true, true, true, true, true, true, true, true, true, true, true, true] rfl rfl (any_of HT_.out (by kernel_rfl)) (fun _ _ _ h => h) (Or.inl ⟨by rfl, ?_⟩) ?_ ?_; rotate_left; · (intro w'; go_simp; with_reducible rfl)
                          rotate_left; · (simp only [Act.put, sT, sZ, sS, i64_w, i32_w]; rfl)
                          refine done_ (done_of HT_.out (by kernel_rfl)) ?_
                          try go_wp2
                          go_meet
                          case rel => exact ⟨k2, (false), (by first | rfl | (simp; done) | (simp [*]; done)), H', ⟨by have := HQ1.out; have := HQ2.out; omega⟩, HS, HK⟩
                      case rest =>
                        clear H' HS HK
                        obtain ⟨kq, x12_299, rfl, HA, HQ3, HS, HK⟩ := hcut
                        cases kq with
                        | zero => exact absurd HA.out (by simp [barrowlaw38_ChatCleans.l299])
                        | succ k3 =>
                          have H := HA.out
                          clear HA
                          simp only [barrowlaw38_ChatCleans.l299] at H
                          have H' := Aside0.mk H
                          clear H
                          go_wp2
                          go_loopg [9, 13] k3 (fun kq v9 v13 w' => ∃ (x9_2 : Bool) (x13_2 : Int), v9 = .bool x9_2 ∧ v13 = .int .i64 x13_2 ∧ Aside0 (barrowlaw38_ChatCleans.l2 kq a0 l1 t295 t297 x10_1 t302 x12_299 x9_2 x13_2 = some r) ∧ Aside0 (kq ≤ k3) ∧ Aside0 (SL (row Kd.string 9 (.slice Az3000039 t302.length cz3000039) t302 :: L) w' S) ∧ Aside0 (Keep S w w'))
                          case atStart => exact ⟨(x9_1), (0), (by first | rfl | (simp; done) | (simp [*]; done)), (by first | rfl | (simp; done) | (simp [*]; done)), H', ⟨Nat.le_refl _⟩, HS, HK⟩
                          case round =>
                            clear H' HS HK
                            obtain ⟨x9_2, x13_2, rfl, rfl, HA, HQ4, HS, HK⟩ := hrel
                            cases gk with
                            | zero => exact absurd HA.out (by simp [barrowlaw38_ChatCleans.l2])
                            | succ k4 =>
                              have H := HA.out
                              clear HA
                              simp only [barrowlaw38_ChatCleans.l2] at H
                              by_cases c20 : 0 ≤ x10_1
                              · rw [if_pos c20] at H
                                have c20b0 : decide (0 ≤ x10_1) = true := decide_eq_true c20
                                clear c20
                                by_cases c21 : x10_1 < (l1.length : Int)
                                · rw [if_pos c21] at H
                                  have c21b0 : decide (x10_1 < (l1.length : Int)) = true := decide_eq_true c21
                                  clear c21
                                  by_cases c22 : x13_2 < ((rdOf ByteArray.empty l1 x10_1).size : Int)
                                  · rw [if_pos c22] at H
                                    have c22b0 : decide (x13_2 < ((rdOf ByteArray.empty l1 x10_1).size : Int)) = true := decide_eq_true c22
                                    clear c22
                                    by_cases c23 : x9_2 = true
                                    · subst c23
                                      rw [if_pos rfl] at H
                                      have H' := Aside0.mk H
                                      clear H
                                      have pq305 : 0 ≤ (x10_1 : Int) := of_decide_eq_true (by first | (with_reducible assumption) | assumption)
                                      have qq305 : x10_1 < ((l1.length : Int) : Int) := of_decide_eq_true (by first | (with_reducible assumption) | assumption)
                                      obtain ⟨adq305, eq305, hxq305_0⟩ := Kd.at_string (RO.at_ HR1.out HK.out) x10_1 pq305 qq305
                                      obtain rfl : adq301 = adq305 := (by injection eq305)
                                      replace pq305 := eq_true pq305
                                      replace qq305 := eq_true qq305
                                      go_wp2
                                      go_roundg k4
                                      case measure => have := HQ1.out; have := HQ2.out; have := HQ3.out; have := HQ4.out; omega
                                      case rel => exact ⟨(true), (wrap64 (x13_2 + 1)), (by first | rfl | (simp; done) | (simp [*]; done)), (by first | rfl | (simp; done) | (simp [*]; done)), H', ⟨by have := HQ1.out; have := HQ2.out; have := HQ3.out; have := HQ4.out; omega⟩, HS, HK⟩
                                    · replace c23 := Bool.eq_false_iff.mpr c23
                                      subst c23
                                      rw [if_neg (show ¬ (false = true) by decide)] at H
                                      by_cases c24 : 0 ≤ x13_2
                                      · rw [if_pos c24] at H
                                        have c24b0 := eq_true c24
                                        have c24b1 : decide (0 ≤ x13_2) = true := decide_eq_true c24
                                        clear c24
                                        by_cases c25 : (bt (rdOf ByteArray.empty l1 x10_1) x13_2) = 42
                                        · rw [if_pos c25] at H
                                          have c25b0 : ((bt (rdOf ByteArray.empty l1 x10_1) x13_2) == 42) = true := beq_iff_eq.mpr c25
                                          have c25b1 : ((bt (rdOf ByteArray.empty l1 x10_1) x13_2) != 42) = false := bne_eq_false_iff_eq.mpr c25
                                          clear c25
                                          have H' := Aside0.mk H
                                          clear H
                                          have pq305 : 0 ≤ (x10_1 : Int) := of_decide_eq_true (by first | (with_reducible assumption) | assumption)
                                          have qq305 : x10_1 < ((l1.length : Int) : Int) := of_decide_eq_true (by first | (with_reducible assumption) | assumption)
                                          obtain ⟨adq305, eq305, hxq305_0⟩ := Kd.at_string (RO.at_ HR1.out HK.out) x10_1 pq305 qq305
                                          obtain rfl : adq301 = adq305 := (by injection eq305)
                                          replace pq305 := eq_true pq305
                                          replace qq305 := eq_true qq305
                                          have pq307 : 0 ≤ (x13_2 : Int) := of_decide_eq_true (by first | (with_reducible assumption) | assumption)
                                          have qq307 : x13_2 < ((rdOf ByteArray.empty l1 x10_1).size : Int) := of_decide_eq_true (by first | (with_reducible assumption) | assumption)
                                          have hxq307 := bt_at (rdOf ByteArray.empty l1 x10_1) x13_2
                                          replace pq307 := eq_true pq307
                                          replace qq307 := eq_true qq307
                                          go_wp2
                                          go_roundg k4
                                          case measure => have := HQ1.out; have := HQ2.out; have := HQ3.out; have := HQ4.out; omega
                                          case rel => exact ⟨(true), (wrap64 (x13_2 + 1)), (by first | rfl | (simp; done) | (simp [*]; done)), (by first | rfl | (simp; done) | (simp [*]; done)), H', ⟨by have := HQ1.out; have := HQ2.out; have := HQ3.out; have := HQ4.out; omega⟩, HS, HK⟩
                                        · rw [if_neg c25] at H
                                          have c25b0 : ((bt (rdOf ByteArray.empty l1 x10_1) x13_2) == 42) = false := beq_eq_false_iff_ne.mpr c25
                                          have c25b1 : ((bt (rdOf ByteArray.empty l1 x10_1) x13_2) != 42) = true := bne_iff_ne.mpr c25
                                          have H' := Aside0.mk H
                                          clear H
                                          have pq305 : 0 ≤ (x10_1 : Int) := of_decide_eq_true (by first | (with_reducible assumption) | assumption)
                                          have qq305 : x10_1 < ((l1.length : Int) : Int) := of_decide_eq_true (by first | (with_reducible assumption) | assumption)
                                          obtain ⟨adq305, eq305, hxq305_0⟩ := Kd.at_string (RO.at_ HR1.out HK.out) x10_1 pq305 qq305
                                          obtain rfl : adq301 = adq305 := (by injection eq305)
                                          replace pq305 := eq_true pq305
                                          replace qq305 := eq_true qq305
                                          have pq307 : 0 ≤ (x13_2 : Int) := of_decide_eq_true (by first | (with_reducible assumption) | assumption)
                                          have qq307 : x13_2 < ((rdOf ByteArray.empty l1 x10_1).size : Int) := of_decide_eq_true (by first | (with_reducible assumption) | assumption)
                                          have hxq307 := bt_at (rdOf ByteArray.empty l1 x10_1) x13_2
                                          replace pq307 := eq_true pq307
                                          replace qq307 := eq_true qq307
                                          go_wp2
                                          go_roundg k4
                                          case measure => have := HQ1.out; have := HQ2.out; have := HQ3.out; have := HQ4.out; omega
                                          case rel => exact ⟨(false), (wrap64 (x13_2 + 1)), (by first | rfl | (simp; done) | (simp [*]; done)), (by first | rfl | (simp; done) | (simp [*]; done)), H', ⟨by have := HQ1.out; have := HQ2.out; have := HQ3.out; have := HQ4.out; omega⟩, HS, HK⟩
                                      · rw [if_neg c24] at H
                                        exact absurd H (by simp)
                                  · rw [if_neg c22] at H
                                    have c22b0 : decide (x13_2 < ((rdOf ByteArray.empty l1 x10_1).size : Int)) = false := decide_eq_false c22
                                    clear c22
                                    have H' := Aside0.mk H
                                    clear H
                                    have pq305 : 0 ≤ (x10_1 : Int) := of_decide_eq_true (by first | (with_reducible assumption) | assumption)
                                    have qq305 : x10_1 < ((l1.length : Int) : Int) := of_decide_eq_true (by first | (with_reducible assumption) | assumption)
                                    obtain ⟨adq305, eq305, hxq305_0⟩ := Kd.at_string (RO.at_ HR1.out HK.out) x10_1 pq305 qq305
                                    obtain rfl : adq301 = adq305 := (by injection eq305)
                                    replace pq305 := eq_true pq305
                                    replace qq305 := eq_true qq305
                                    go_wp2
                                    go_loopg [14] k4 (fun kq v14 w' => ∃ (x14_3 : Int), v14 = .int .i64 x14_3 ∧ Aside0 (barrowlaw38_ChatCleans.l3 kq a0 l1 t295 t297 x10_1 t302 x12_299 x9_2 x14_3 = some r) ∧ Aside0 (kq ≤ k4) ∧ Aside0 (SL (row Kd.string 9 (.slice Az3000039 t302.length cz3000039) t302 :: L) w' S) ∧ Aside0 (Keep S w w'))
                                    case atStart => exact ⟨(0), (by first | rfl | (simp; done) | (simp [*]; done)), H', ⟨Nat.le_refl _⟩, HS, HK⟩
                                    case round =>
                                      clear H' HS HK
                                      obtain ⟨x14_3, rfl, HA, HQ5, HS, HK⟩ := hrel
                                      cases gk with
                                      | zero => exact absurd HA.out (by simp [barrowlaw38_ChatCleans.l3])
                                      | succ k5 =>
                                        have H := HA.out
                                        clear HA
                                        simp only [barrowlaw38_ChatCleans.l3] at H
                                        by_cases c26 : 0 ≤ x10_1
                                        · rw [if_pos c26] at H
                                          have c26b0 : decide (0 ≤ x10_1) = true := decide_eq_true c26
                                          clear c26
                                          by_cases c27 : x10_1 < (l1.length : Int)
                                          · rw [if_pos c27] at H
                                            have c27b0 : decide (x10_1 < (l1.length : Int)) = true := decide_eq_true c27
                                            clear c27
                                            by_cases c28 : (wrap64 (x14_3 + ((rdOf ByteArray.empty l1 x10_1).size : Int))) ≤ (t297.size : Int)
                                            · rw [if_pos c28] at H
                                              have c28b0 : decide ((wrap64 (x14_3 + ((rdOf ByteArray.empty l1 x10_1).size : Int))) ≤ (t297.size : Int)) = true := decide_eq_true c28
                                              have c28b8 := eq_true c28
                                              clear c28
                                              by_cases c29 : x12_299 = true
                                              · subst c29
                                                rw [if_pos rfl] at H
                                                by_cases c30 : 0 ≤ x14_3
                                                · rw [if_pos c30] at H
                                                  have c30b0 := eq_true c30
                                                  have c30b1 : decide (0 ≤ x14_3) = true := decide_eq_true c30
                                                  clear c30
                                                  by_cases c31 : x14_3 ≤ (wrap64 (x14_3 + ((rdOf ByteArray.empty l1 x10_1).size : Int)))
                                                  · rw [if_pos c31] at H
                                                    have c31b0 := eq_true c31
                                                    have c31b1 : decide (x14_3 ≤ (wrap64 (x14_3 + ((rdOf ByteArray.empty l1 x10_1).size : Int)))) = true := decide_eq_true c31
                                                    clear c31
                                                    replace H := Option.bind_eq_some_iff.1 H
                                                    obtain ⟨t311, Hc320, H⟩ := H
                                                    try dsimp only at H
                                                    have Hc32 := Aside0.mk Hc320
                                                    clear Hc320
                                                    have H' := Aside0.mk H
                                                    clear H
                                                    have pq309 : 0 ≤ (x10_1 : Int) := of_decide_eq_true (by first | (with_reducible assumption) | assumption)
                                                    have qq309 : x10_1 < ((l1.length : Int) : Int) := of_decide_eq_true (by first | (with_reducible assumption) | assumption)
                                                    obtain ⟨adq309, eq309, hxq309_0⟩ := Kd.at_string (RO.at_ HR1.out HK.out) x10_1 pq309 qq309
                                                    obtain rfl : adq301 = adq309 := (by injection eq309)
                                                    replace pq309 := eq_true pq309
                                                    replace qq309 := eq_true qq309
                                                    try go_upto_region 27 with (first | ((with_reducible refine gate_dst (N := 126) rfl ?_); refine goesL_ (some 126) rfl rfl Try.func19 (by kernel_rfl) rfl #[.string (t297.extract (x14_3 : Int).toNat ((wrap64 (x14_3 + ((rdOf ByteArray.empty l1 x10_1).size : Int))) : Int).toNat)] rfl (by (try simp only [List.map_toArray, List.map_cons, List.map_nil]); first | done | rfl | (simp; done)) ?_; have hs0_ := HS.out; (with_reducible refine (chat_Words.slcalls k5 _ _ _ _ _ (HF.out.keep HK.out) hs0_  Hc32.out).mono ?_); rintro e_ w33 ⟨Az3000040, cz3000040, rfl, hsr_, hkr_⟩; refine ⟨_, rfl, ?_⟩; replace HS := Aside0.mk (hsr_); replace HK := Aside0.mk (HK.out.trans hkr_)))
                                                    (try simp only [Act.put, sT, sZ, sS])
                                                    go_cut [138] (fun v138 wc => ∃ (kq : Nat) (x138_399 : Bool), v138 = .bool x138_399 ∧ Aside0 (barrowlaw38_ChatCleans.l399 kq a0 l1 t295 t297 x10_1 t302 true x9_2 x14_3 x138_399 = some r) ∧ Aside0 (kq ≤ k5) ∧ Aside0 (SL (row Kd.string 9 (.slice Az3000040 t311.length cz3000040) t311 :: row Kd.string 9 (.slice Az3000039 t302.length cz3000039) t302 :: L) wc S) ∧ Aside0 (Keep S w wc))
                                                    case first =>
                                                      have H := H'.out
                                                      clear H'
                                                      by_cases c34 : (t311.length : Int) = 1
                                                      · rw [if_pos c34] at H
                                                        have c34b0 : ((t311.length : Int) == 1) = true := beq_iff_eq.mpr c34
                                                        have c34b1 : ((t311.length : Int) != 1) = false := bne_eq_false_iff_eq.mpr c34
                                                        clear c34
                                                        by_cases c35 : 0 < (t311.length : Int)
                                                        · rw [if_pos c35] at H
                                                          have c35b0 : decide (0 < (t311.length : Int)) = true := decide_eq_true c35
                                                          have c35b1 : decide (0 < t311.length) = true := decide_eq_true (by omega)
                                                          clear c35
                                                          by_cases c36 : 0 < (t302.length : Int)
                                                          · rw [if_pos c36] at H
                                                            have c36b0 : decide (0 < (t302.length : Int)) = true := decide_eq_true c36
                                                            have c36b1 : decide (0 < t302.length) = true := decide_eq_true (by omega)
                                                            clear c36
                                                            have H' := Aside0.mk H
                                                            clear H
                                                            try go_wp2
                                                            have pq312 : 0 ≤ (0 : Int) := (by omega)
                                                            have qq312 : 0 < ((t311.length : Int) : Int) := of_decide_eq_true (by first | (with_reducible assumption) | assumption)
                                                            obtain ⟨adq312, eq312, hxq312_0⟩ := Kd.at_string (SL.row_c HS.out).2.2 0 pq312 qq312
                                                            cases eq312
                                                            (try rw [show ((0 : Int)).toNat = 0 from rfl] at hxq312_0)
                                                            (try rw [Addr.add_zero'] at hxq312_0)
                                                            have qiq312 : (0 < t311.length) = True := eq_true (by omega)
                                                            replace pq312 := eq_true pq312
                                                            replace qq312 := eq_true qq312
                                                            have pq313 : 0 ≤ (0 : Int) := (by omega)
                                                            have qq313 : 0 < ((t302.length : Int) : Int) := of_decide_eq_true (by first | (with_reducible assumption) | assumption)
                                                            obtain ⟨adq313, eq313, hxq313_0⟩ := Kd.at_string (SL.row_c (SL.get1 HS.out)).2.2 0 pq313 qq313
                                                            cases eq313
                                                            (try rw [show ((0 : Int)).toNat = 0 from rfl] at hxq313_0)
                                                            (try rw [Addr.add_zero'] at hxq313_0)
                                                            have qiq313 : (0 < t302.length) = True := eq_true (by omega)
                                                            replace pq313 := eq_true pq313
                                                            replace qq313 := eq_true qq313
                                                            refine start_ (n := 12) (S := fun w' => w'.cell? adq312 = some (.string (rdOf ByteArray.empty t311 0)) ∧ w'.cell? adq313 = some (.string (rdOf ByteArray.empty t302 0))) (ds := []) #[false, false, false, false, false, false, false, false, false, false, false, false] (by kernel_rfl) rfl rfl ⟨(by have h_ := (SL.cell_sc (enc := Value.string) (h1 := fun _ => rfl) (⟨#[]⟩ : ByteArray) HS.out 0 (of_eq_true pq312) (of_eq_true qq312)); rw [show ((0 : Int)).toNat = 0 from rfl, Addr.add_zero'] at h_; exact h_), (by have h_ := (SL.cell_sc (enc := Value.string) (h1 := fun _ => rfl) (⟨#[]⟩ : ByteArray) (SL.get1 HS.out) 0 (of_eq_true pq313) (of_eq_true qq313)); rw [show ((0 : Int)).toNat = 0 from rfl, Addr.add_zero'] at h_; exact h_)⟩ (fun hHeld => ?_); refine with_tabW barrowlaw38_ChatCleans.tab27 barrowlaw38_ChatCleans.bits27 (fun HT_ HW_ => ?_)
                                                            replace HK := Aside0.mk (Keep.drew HK.out)
                                                            replace HS := Aside0.mk (SL.drew HS.out)
                                                            refine pure_ (i := 0) (N := some 127) (v := ?_) (a' := ?_) #[true, false, false, false, false, false, false, false, false, false, false, false] rfl rfl (any_of HT_.out (by kernel_rfl)) (fun _ _ _ h => h) (Or.inl ⟨by rfl, ?_⟩) ?_ ?_; rotate_left; · (intro w'; go_simp; with_reducible rfl)
                                                            rotate_left; · (simp only [Act.put, sT, sZ, sS, i64_w, i32_w]; rfl)
                                                            refine pure_ (i := 1) (N := some 128) (v := ?_) (a' := ?_) #[true, true, false, false, false, false, false, false, false, false, false, false] rfl rfl (any_of HT_.out (by kernel_rfl)) (fun _ _ _ h => h) (Or.inl ⟨by rfl, ?_⟩) ?_ ?_; rotate_left; · (intro w'; go_simp; with_reducible rfl)
                                                            rotate_left; · (simp only [Act.put, sT, sZ, sS, i64_w, i32_w]; rfl)
                                                            refine pure_ (i := 2) (N := some 129) (v := ?_) (a' := ?_) #[true, true, true, false, false, false, false, false, false, false, false, false] rfl rfl (any_of HT_.out (by kernel_rfl)) (fun _ _ _ h => h) (Or.inl ⟨by rfl, ?_⟩) ?_ ?_; rotate_left; · (intro w'; go_simp; with_reducible rfl)
                                                            rotate_left; · (simp only [Act.put, sT, sZ, sS, i64_w, i32_w]; rfl)
                                                            refine pure_ (i := 3) (N := some 130) (v := ?_) (a' := ?_) #[true, true, true, true, false, false, false, false, false, false, false, false] rfl rfl (any_of HT_.out (by kernel_rfl)) (fun _ _ _ h => h) (Or.inl ⟨by rfl, ?_⟩) ?_ ?_; rotate_left; · (intro w'; go_simp; with_reducible rfl)
                                                            rotate_left; · (simp only [Act.put, sT, sZ, sS, i64_w, i32_w]; rfl)
                                                            refine pure_ (i := 4) (N := some 131) (v := ?_) (a' := ?_) #[true, true, true, true, true, false, false, false, false, false, false, false] rfl rfl (any_of HT_.out (by kernel_rfl)) (fun _ _ _ h => h) (Or.inl ⟨by rfl, ?_⟩) ?_ ?_; rotate_left; · (intro w'; go_simp; with_reducible rfl)
                                                            rotate_left; · (simp only [Act.put, sT, sZ, sS, i64_w, i32_w]; rfl)
                                                            refine pure_ (i := 5) (N := some 132) (v := ?_) (a' := ?_) #[true, true, true, true, true, true, false, false, false, false, false, false] rfl rfl (any_of HT_.out (by kernel_rfl)) (fun _ _ _ h => h) (Or.inl ⟨by rfl, ?_⟩) ?_ ?_; rotate_left; · (intro w'; go_simp; with_reducible rfl)
                                                            rotate_left; · (simp only [Act.put, sT, sZ, sS, i64_w, i32_w]; rfl)
                                                            refine pure_ (i := 7) (N := some 134) (v := ?_) (a' := ?_) #[true, true, true, true, true, true, false, true, false, false, false, false] rfl rfl (any_of HT_.out (by kernel_rfl)) (fun _ _ _ h => h) (Or.inl ⟨by rfl, ?_⟩) ?_ ?_; rotate_left; · (intro w'; go_simp; with_reducible rfl)
                                                            rotate_left; · (simp only [Act.put, sT, sZ, sS, i64_w, i32_w]; rfl)
                                                            refine pure_ (i := 8) (N := some 135) (v := ?_) (a' := ?_) #[true, true, true, true, true, true, false, true, true, false, false, false] rfl rfl (any_of HT_.out (by kernel_rfl)) (fun _ _ _ h => h) (Or.inl ⟨by rfl, ?_⟩) ?_ ?_; rotate_left; · (intro w'; go_simp; with_reducible rfl)
                                                            rotate_left; · (simp only [Act.put, sT, sZ, sS, i64_w, i32_w]; rfl)
                                                            refine take_ (i := 6) (N := some 133) (v := ?_) (a' := ?_) #[true, true, true, true, true, true, true, true, true, false, false, false] rfl rfl (take_ofW HT_.out HW_.out (by kernel_rfl)) (fun _ _ _ h => h) (Or.inl ⟨by rfl, ?_⟩) hHeld ?_ ?_; rotate_left
                                                            · rintro w' ⟨s0, s1⟩
                                                              go_simp
                                                              with_reducible rfl
                                                            rotate_left; · (simp only [Act.put, sT, sZ, sS, i64_w, i32_w]; rfl)
                                                            refine take_ (i := 9) (N := some 136) (v := ?_) (a' := ?_) #[true, true, true, true, true, true, true, true, true, true, false, false] rfl rfl (take_ofW HT_.out HW_.out (by kernel_rfl)) (fun _ _ _ h => h) (Or.inl ⟨by rfl, ?_⟩) hHeld ?_ ?_; rotate_left
                                                            · rintro w' ⟨s0, s1⟩
                                                              go_simp
                                                              with_reducible rfl
                                                            rotate_left; · (simp only [Act.put, sT, sZ, sS, i64_w, i32_w]; rfl)
                                                            refine pure_ (i := 10) (N := some 137) (v := ?_) (a' := ?_) #[true, true, true, true, true, true, true, true, true, true, true, false] rfl rfl (any_of HT_.out (by kernel_rfl)) (fun _ _ _ h => h) (Or.inl ⟨by rfl, ?_⟩) ?_ ?_; rotate_left; · (intro w'; go_simp; with_reducible rfl)
                                                            rotate_left; · (simp only [Act.put, sT, sZ, sS, i64_w, i32_w]; rfl)
                                                            refine pure_ (i := 11) (N := some 138) (v := ?_) (a' := ?_) #[true, true, true, true, true, true, true, true, true, true, true, true] rfl rfl (any_of HT_.out (by kernel_rfl)) (fun _ _ _ h => h) (Or.inl ⟨by rfl, ?_⟩) ?_ ?_; rotate_left; · (intro w'; go_simp; with_reducible rfl)
                                                            rotate_left; · (simp only [Act.put, sT, sZ, sS, i64_w, i32_w]; rfl)
                                                            refine done_ (done_of HT_.out (by kernel_rfl)) ?_
                                                            try go_wp2
                                                            go_meet
                                                            case rel => exact ⟨k5, (((rdOf ByteArray.empty t311 0).toList == (rdOf ByteArray.empty t302 0).toList)), (by first | rfl | (simp; done) | (simp [*]; done)), H', ⟨by have := HQ1.out; have := HQ2.out; have := HQ3.out; have := HQ4.out; have := HQ5.out; omega⟩, HS, HK⟩
                                                          · rw [if_neg c36] at H
                                                            exact absurd H (by simp)
                                                        · rw [if_neg c35] at H
                                                          exact absurd H (by simp)
                                                      · rw [if_neg c34] at H
                                                        have c34b0 : ((t311.length : Int) == 1) = false := beq_eq_false_iff_ne.mpr c34
                                                        have c34b1 : ((t311.length : Int) != 1) = true := bne_iff_ne.mpr c34
                                                        have H' := Aside0.mk H
                                                        clear H
                                                        try go_wp2
                                                        refine start_ (n := 12) (S := fun w' => True) (ds := []) #[false, false, false, false, false, false, false, false, false, false, false, false] (by kernel_rfl) rfl rfl trivial (fun hHeld => ?_); refine with_tabW barrowlaw38_ChatCleans.tab27 barrowlaw38_ChatCleans.bits27 (fun HT_ HW_ => ?_)
                                                        replace HK := Aside0.mk (Keep.drew HK.out)
                                                        replace HS := Aside0.mk (SL.drew HS.out)
                                                        refine pure_ (i := 0) (N := some 127) (v := ?_) (a' := ?_) #[true, false, false, false, false, false, false, false, false, false, false, false] rfl rfl (any_of HT_.out (by kernel_rfl)) (fun _ _ _ h => h) (Or.inl ⟨by rfl, ?_⟩) ?_ ?_; rotate_left; · (intro w'; go_simp; with_reducible rfl)
                                                        rotate_left; · (simp only [Act.put, sT, sZ, sS, i64_w, i32_w]; rfl)
                                                        refine pure_ (i := 1) (N := some 128) (v := ?_) (a' := ?_) #[true, true, false, false, false, false, false, false, false, false, false, false] rfl rfl (any_of HT_.out (by kernel_rfl)) (fun _ _ _ h => h) (Or.inl ⟨by rfl, ?_⟩) ?_ ?_; rotate_left; · (intro w'; go_simp; with_reducible rfl)
                                                        rotate_left; · (simp only [Act.put, sT, sZ, sS, i64_w, i32_w]; rfl)
                                                        refine pure_ (i := 2) (N := some 129) (v := ?_) (a' := ?_) #[true, true, true, false, false, false, false, false, false, false, false, false] rfl rfl (any_of HT_.out (by kernel_rfl)) (fun _ _ _ h => h) (Or.inl ⟨by rfl, ?_⟩) ?_ ?_; rotate_left; · (intro w'; go_simp; with_reducible rfl)
                                                        rotate_left; · (simp only [Act.put, sT, sZ, sS, i64_w, i32_w]; rfl)
                                                        refine pure_ (i := 3) (N := some 130) (v := ?_) (a' := ?_) #[true, true, true, true, false, false, false, false, false, false, false, false] rfl rfl (any_of HT_.out (by kernel_rfl)) (fun _ _ _ h => h) (Or.inl ⟨by rfl, ?_⟩) ?_ ?_; rotate_left; · (intro w'; go_simp; with_reducible rfl)
                                                        rotate_left; · (simp only [Act.put, sT, sZ, sS, i64_w, i32_w]; rfl)
                                                        refine pure_ (i := 4) (N := some 131) (v := undef) (a' := ?_) #[true, true, true, true, true, false, false, false, false, false, false, false] rfl rfl (any_of HT_.out (by kernel_rfl)) (fun _ _ _ h => h) (Or.inr ⟨by rfl, rfl⟩) ?_ ?_; rotate_left; · (simp only [Act.put, sT, sZ, sS, i64_w, i32_w]; rfl)
                                                        refine pure_ (i := 5) (N := some 132) (v := undef) (a' := ?_) #[true, true, true, true, true, true, false, false, false, false, false, false] rfl rfl (any_of HT_.out (by kernel_rfl)) (fun _ _ _ h => h) (Or.inr ⟨by rfl, rfl⟩) ?_ ?_; rotate_left; · (simp only [Act.put, sT, sZ, sS, i64_w, i32_w]; rfl)
                                                        refine pure_ (i := 6) (N := some 133) (v := undef) (a' := ?_) #[true, true, true, true, true, true, true, false, false, false, false, false] rfl rfl (any_of HT_.out (by kernel_rfl)) (fun _ _ _ h => h) (Or.inr ⟨by rfl, rfl⟩) ?_ ?_; rotate_left; · (simp only [Act.put, sT, sZ, sS, i64_w, i32_w]; rfl)
                                                        refine pure_ (i := 7) (N := some 134) (v := undef) (a' := ?_) #[true, true, true, true, true, true, true, true, false, false, false, false] rfl rfl (any_of HT_.out (by kernel_rfl)) (fun _ _ _ h => h) (Or.inr ⟨by rfl, rfl⟩) ?_ ?_; rotate_left; · (simp only [Act.put, sT, sZ, sS, i64_w, i32_w]; rfl)
                                                        refine pure_ (i := 8) (N := some 135) (v := undef) (a' := ?_) #[true, true, true, true, true, true, true, true, true, false, false, false] rfl rfl (any_of HT_.out (by kernel_rfl)) (fun _ _ _ h => h) (Or.inr ⟨by rfl, rfl⟩) ?_ ?_; rotate_left; · (simp only [Act.put, sT, sZ, sS, i64_w, i32_w]; rfl)
                                                        refine pure_ (i := 9) (N := some 136) (v := undef) (a' := ?_) #[true, true, true, true, true, true, true, true, true, true, false, false] rfl rfl (any_of HT_.out (by kernel_rfl)) (fun _ _ _ h => h) (Or.inr ⟨by rfl, rfl⟩) ?_ ?_; rotate_left; · (simp only [Act.put, sT, sZ, sS, i64_w, i32_w]; rfl)
                                                        refine pure_ (i := 10) (N := some 137) (v := undef) (a' := ?_) #[true, true, true, true, true, true, true, true, true, true, true, false] rfl rfl (any_of HT_.out (by kernel_rfl)) (fun _ _ _ h => h) (Or.inr ⟨by rfl, rfl⟩) ?_ ?_; rotate_left; · (simp only [Act.put, sT, sZ, sS, i64_w, i32_w]; rfl)
                                                        refine pure_ (i := 11) (N := some 138) (v := ?_) (a' := ?_) #[true, true, true, true, true, true, true, true, true, true, true, true] rfl rfl (any_of HT_.out (by kernel_rfl)) (fun _ _ _ h => h) (Or.inl ⟨by rfl, ?_⟩) ?_ ?_; rotate_left; · (intro w'; go_simp; with_reducible rfl)
                                                        rotate_left; · (simp only [Act.put, sT, sZ, sS, i64_w, i32_w]; rfl)
                                                        refine done_ (done_of HT_.out (by kernel_rfl)) ?_
                                                        try go_wp2
                                                        go_meet
                                                        case rel => exact ⟨k5, (false), (by first | rfl | (simp; done) | (simp [*]; done)), H', ⟨by have := HQ1.out; have := HQ2.out; have := HQ3.out; have := HQ4.out; have := HQ5.out; omega⟩, HS, HK⟩
                                                    case rest =>
                                                      clear H' HS HK
                                                      obtain ⟨kq, x138_399, rfl, HA, HQ6, HS, HK⟩ := hcut
                                                      cases kq with
                                                      | zero => exact absurd HA.out (by simp [barrowlaw38_ChatCleans.l399])
                                                      | succ k6 =>
                                                        have H := HA.out
                                                        clear HA
                                                        simp only [barrowlaw38_ChatCleans.l399] at H
                                                        by_cases c37 : x138_399 = true
                                                        · subst c37
                                                          rw [if_pos rfl] at H
                                                          exact absurd H (by simp)
                                                        · replace c37 := Bool.eq_false_iff.mpr c37
                                                          subst c37
                                                          rw [if_neg (show ¬ (false = true) by decide)] at H
                                                          have H' := Aside0.mk H
                                                          clear H
                                                          go_wp2
                                                          replace HS := Aside0.mk (SL.tail HS.out)
                                                          go_roundg k6
                                                          case measure => have := HQ1.out; have := HQ2.out; have := HQ3.out; have := HQ4.out; have := HQ5.out; have := HQ6.out; omega
                                                          case rel => exact ⟨(wrap64 (x14_3 + 1)), (by first | rfl | (simp; done) | (simp [*]; done)), H', ⟨by have := HQ1.out; have := HQ2.out; have := HQ3.out; have := HQ4.out; have := HQ5.out; have := HQ6.out; omega⟩, HS, HK⟩
                                                  · rw [if_neg c31] at H
                                                    exact absurd H (by simp)
                                                · rw [if_neg c30] at H
                                                  exact absurd H (by simp)
                                              · replace c29 := Bool.eq_false_iff.mpr c29
                                                subst c29
                                                rw [if_neg (show ¬ (false = true) by decide)] at H
                                                have H' := Aside0.mk H
                                                clear H
                                                have pq309 : 0 ≤ (x10_1 : Int) := of_decide_eq_true (by first | (with_reducible assumption) | assumption)
                                                have qq309 : x10_1 < ((l1.length : Int) : Int) := of_decide_eq_true (by first | (with_reducible assumption) | assumption)
                                                obtain ⟨adq309, eq309, hxq309_0⟩ := Kd.at_string (RO.at_ HR1.out HK.out) x10_1 pq309 qq309
                                                obtain rfl : adq301 = adq309 := (by injection eq309)
                                                replace pq309 := eq_true pq309
                                                replace qq309 := eq_true qq309
                                                go_wp2
                                                replace HS := Aside0.mk (SL.tail HS.out)
                                                go_roundg k5
                                                case measure => have := HQ1.out; have := HQ2.out; have := HQ3.out; have := HQ4.out; have := HQ5.out; omega
                                                case rel => exact ⟨(x9_2), (wrap64 (x10_1 + 1)), (by first | rfl | (simp; done) | (simp [*]; done)), (by first | rfl | (simp; done) | (simp [*]; done)), H', ⟨by have := HQ1.out; have := HQ2.out; have := HQ3.out; have := HQ4.out; have := HQ5.out; omega⟩, HS, HK⟩
                                            · rw [if_neg c28] at H
                                              have c28b0 : decide ((wrap64 (x14_3 + ((rdOf ByteArray.empty l1 x10_1).size : Int))) ≤ (t297.size : Int)) = false := decide_eq_false c28
                                              clear c28
                                              have H' := Aside0.mk H
                                              clear H
                                              have pq309 : 0 ≤ (x10_1 : Int) := of_decide_eq_true (by first | (with_reducible assumption) | assumption)
                                              have qq309 : x10_1 < ((l1.length : Int) : Int) := of_decide_eq_true (by first | (with_reducible assumption) | assumption)
                                              obtain ⟨adq309, eq309, hxq309_0⟩ := Kd.at_string (RO.at_ HR1.out HK.out) x10_1 pq309 qq309
                                              obtain rfl : adq301 = adq309 := (by injection eq309)
                                              replace pq309 := eq_true pq309
                                              replace qq309 := eq_true qq309
                                              go_wp2
                                              replace HS := Aside0.mk (SL.tail HS.out)
                                              go_roundg k5
                                              case measure => have := HQ1.out; have := HQ2.out; have := HQ3.out; have := HQ4.out; have := HQ5.out; omega
                                              case rel => exact ⟨(x9_2), (wrap64 (x10_1 + 1)), (by first | rfl | (simp; done) | (simp [*]; done)), (by first | rfl | (simp; done) | (simp [*]; done)), H', ⟨by have := HQ1.out; have := HQ2.out; have := HQ3.out; have := HQ4.out; have := HQ5.out; omega⟩, HS, HK⟩
                                          · rw [if_neg c27] at H
                                            exact absurd H (by simp)
                                        · rw [if_neg c26] at H
                                          exact absurd H (by simp)
                                · rw [if_neg c21] at H
                                  exact absurd H (by simp)
                              · rw [if_neg c20] at H
                                exact absurd H (by simp)
                    · rw [if_neg c15] at H
                      exact absurd H (by simp)
                  · rw [if_neg c14] at H
                    have c14b0 : decide (x10_1 < (l1.length : Int)) = false := decide_eq_false c14
                    clear c14
                    by_cases c38 : t295 = true
                    · subst c38
                      rw [if_pos rfl] at H
                      by_cases c39 : x9_1 = true
                      · subst c39
                        rw [if_pos rfl] at H
                        replace H := Option.bind_eq_some_iff.1 H
                        obtain ⟨t314, Hc400, H⟩ := H
                        try dsimp only at H
                        have Hc40 := Aside0.mk Hc400
                        clear Hc400
                        by_cases c41 : t314.toList = a0.toList
                        · rw [if_pos c41] at H
                          have c41b0 : (t314.toList == a0.toList) = true := beq_iff_eq.mpr c41
                          have c41b1 : (t314.toList != a0.toList) = false := bne_eq_false_iff_eq.mpr c41
                          clear c41
                          obtain rfl := Option.some.inj H
                          go_wp2_with (first | ((with_reducible refine gate_dst (N := 152) rfl ?_); (try (refine gate_guard (by rfl) ?_; dsimp only)); refine goesL_ (some 152) rfl rfl Try.func16 (by kernel_rfl) rfl #[.string a0, .slice none 0 0] rfl (by (try simp only [List.map_toArray, List.map_cons, List.map_nil]); first | done | rfl | (simp; done)) ?_; (refine (chat_Clean.calls k2 _ _ _ _ _ _ (Kd.C_nil _ _) (Nat.le_refl _) Hc40.out).mono ?_); rintro e_ w42 ⟨rfl, hb_⟩; refine ⟨_, rfl, ?_⟩; replace HS := Aside0.mk (HS.out.below hb_); replace HK := Aside0.mk (HK.out.trans (Keep.below hb_))))
                          go_ret
                          unfold barrowlaw38_ChatCleans.Post
                          exact ⟨by first | rfl | (simp; done) | (simp [*]; done) | (simp at c41b0 ⊢; first | exact c41b0 | (simp [c41b0]; done)), HS.out, HK.out⟩
                        · rw [if_neg c41] at H
                          exact absurd H (by simp)
                      · replace c39 := Bool.eq_false_iff.mpr c39
                        subst c39
                        rw [if_neg (show ¬ (false = true) by decide)] at H
                        replace H := Option.bind_eq_some_iff.1 H
                        obtain ⟨t315, Hc430, H⟩ := H
                        try dsimp only at H
                        have Hc43 := Aside0.mk Hc430
                        clear Hc430
                        by_cases c44 : t315.toList = t297.toList
                        · rw [if_pos c44] at H
                          have c44b0 : (t315.toList == t297.toList) = true := beq_iff_eq.mpr c44
                          have c44b1 : (t315.toList != t297.toList) = false := bne_eq_false_iff_eq.mpr c44
                          clear c44
                          replace H := Option.bind_eq_some_iff.1 H
                          obtain ⟨t316, Hc450, H⟩ := H
                          try dsimp only at H
                          have Hc45 := Aside0.mk Hc450
                          clear Hc450
                          by_cases c46 : t316.toList = a0.toList
                          · rw [if_pos c46] at H
                            have c46b0 : (t316.toList == a0.toList) = true := beq_iff_eq.mpr c46
                            have c46b1 : (t316.toList != a0.toList) = false := bne_eq_false_iff_eq.mpr c46
                            clear c46
                            obtain rfl := Option.some.inj H
                            go_wp2_with (first | ((with_reducible refine gate_dst (N := 145) rfl ?_); (try (refine gate_guard (by rfl) ?_; dsimp only)); refine goesL_ (some 145) rfl rfl Try.func16 (by kernel_rfl) rfl #[.string t297, .slice A1 l1.length c1] rfl (by (try simp only [List.map_toArray, List.map_cons, List.map_nil]); first | done | rfl | (simp; done)) ?_; (with_reducible refine (chat_Clean.calls k2 _ _ _ _ _ _ (RO.at_ HR1.out HK.out) HC1.out Hc43.out).mono ?_); rintro e_ w47 ⟨rfl, hb_⟩; refine ⟨_, rfl, ?_⟩; replace HS := Aside0.mk (HS.out.below hb_); replace HK := Aside0.mk (HK.out.trans (Keep.below hb_))) | ((with_reducible refine gate_dst (N := 152) rfl ?_); (try (refine gate_guard (by rfl) ?_; dsimp only)); refine goesL_ (some 152) rfl rfl Try.func16 (by kernel_rfl) rfl #[.string a0, .slice none 0 0] rfl (by (try simp only [List.map_toArray, List.map_cons, List.map_nil]); first | done | rfl | (simp; done)) ?_; (refine (chat_Clean.calls k2 _ _ _ _ _ _ (Kd.C_nil _ _) (Nat.le_refl _) Hc45.out).mono ?_); rintro e_ w48 ⟨rfl, hb_⟩; refine ⟨_, rfl, ?_⟩; replace HS := Aside0.mk (HS.out.below hb_); replace HK := Aside0.mk (HK.out.trans (Keep.below hb_))))
                            go_ret
                            unfold barrowlaw38_ChatCleans.Post
                            exact ⟨by first | rfl | (simp; done) | (simp [*]; done) | (simp at c46b0 ⊢; first | exact c46b0 | (simp [c46b0]; done)), HS.out, HK.out⟩
                          · rw [if_neg c46] at H
                            exact absurd H (by simp)
                        · rw [if_neg c44] at H
                          exact absurd H (by simp)
                    · replace c38 := Bool.eq_false_iff.mpr c38
                      subst c38
                      rw [if_neg (show ¬ (false = true) by decide)] at H
                      exact absurd H (by simp)
          · rw [if_neg c9] at H
            have c9b0 : decide (x8_0 < (t297.size : Int)) = false := decide_eq_false c9
            clear c9
            have H' := Aside0.mk H
            clear H
            go_wp2
            go_loopg [9, 10] k1 (fun kq v9 v10 w' => ∃ (x9_1 : Bool) (x10_1 : Int), v9 = .bool x9_1 ∧ v10 = .int .i64 x10_1 ∧ Aside0 (barrowlaw38_ChatCleans.l1 kq a0 l1 t295 t297 x9_1 x10_1 = some r) ∧ Aside0 (kq ≤ k1) ∧ Aside0 (SL (L) w' S) ∧ Aside0 (Keep S w w'))
            case atStart => exact ⟨(false), (0), (by first | rfl | (simp; done) | (simp [*]; done)), (by first | rfl | (simp; done) | (simp [*]; done)), H', ⟨Nat.le_refl _⟩, HS, HK⟩
            case round =>
              clear H' HS HK
              obtain ⟨x9_1, x10_1, rfl, rfl, HA, HQ2, HS, HK⟩ := hrel
              cases gk with
              | zero => exact absurd HA.out (by simp [barrowlaw38_ChatCleans.l1])
              | succ k2 =>
                have H := HA.out
                clear HA
                simp only [barrowlaw38_ChatCleans.l1] at H
                by_cases c49 : x10_1 < (l1.length : Int)
                · rw [if_pos c49] at H
                  have c49b0 : decide (x10_1 < (l1.length : Int)) = true := decide_eq_true c49
                  clear c49
                  by_cases c50 : 0 ≤ x10_1
                  · rw [if_pos c50] at H
                    have c50b0 : decide (0 ≤ x10_1) = true := decide_eq_true c50
                    clear c50
                    replace H := Option.bind_eq_some_iff.1 H
                    obtain ⟨t302, Hc510, H⟩ := H
                    try dsimp only at H
                    have Hc51 := Aside0.mk Hc510
                    clear Hc510
                    have H' := Aside0.mk H
                    clear H
                    have pq301 : 0 ≤ (x10_1 : Int) := of_decide_eq_true (by first | (with_reducible assumption) | assumption)
                    have qq301 : x10_1 < ((l1.length : Int) : Int) := of_decide_eq_true (by first | (with_reducible assumption) | assumption)
                    obtain ⟨adq301, eq301, hxq301_0⟩ := Kd.at_string (RO.at_ HR1.out HK.out) x10_1 pq301 qq301
                    cases eq301
                    replace pq301 := eq_true pq301
                    replace qq301 := eq_true qq301
                    try go_upto_region 18 with (first | ((with_reducible refine gate_dst (N := 66) rfl ?_); refine goesL_ (some 66) rfl rfl Try.func19 (by kernel_rfl) rfl #[.string (rdOf ByteArray.empty l1 x10_1)] rfl (by (try simp only [List.map_toArray, List.map_cons, List.map_nil]); first | done | rfl | (simp; done)) ?_; have hs0_ := HS.out; (with_reducible refine (chat_Words.slcalls k2 _ _ _ _ _ (HF.out.keep HK.out) hs0_  Hc51.out).mono ?_); rintro e_ w52 ⟨Az3000039, cz3000039, rfl, hsr_, hkr_⟩; refine ⟨_, rfl, ?_⟩; replace HS := Aside0.mk (hsr_); replace HK := Aside0.mk (HK.out.trans hkr_)))
                    (try simp only [Act.put, sT, sZ, sS])
                    go_cut [12] (fun v12 wc => ∃ (kq : Nat) (x12_299 : Bool), v12 = .bool x12_299 ∧ Aside0 (barrowlaw38_ChatCleans.l299 kq a0 l1 t295 t297 x9_1 x10_1 t302 x12_299 = some r) ∧ Aside0 (kq ≤ k2) ∧ Aside0 (SL (row Kd.string 9 (.slice Az3000039 t302.length cz3000039) t302 :: L) wc S) ∧ Aside0 (Keep S w wc))
                    case first =>
                      have H := H'.out
                      clear H'
                      by_cases c53 : (t302.length : Int) = 1
                      · rw [if_pos c53] at H
                        have c53b0 : ((t302.length : Int) == 1) = true := beq_iff_eq.mpr c53
                        have c53b1 : ((t302.length : Int) != 1) = false := bne_eq_false_iff_eq.mpr c53
                        clear c53
                        by_cases c54 : 0 < (t302.length : Int)
                        · rw [if_pos c54] at H
                          have c54b0 : decide (0 < (t302.length : Int)) = true := decide_eq_true c54
                          have c54b1 : decide (0 < t302.length) = true := decide_eq_true (by omega)
                          clear c54
                          have H' := Aside0.mk H
                          clear H
                          try go_wp2
                          have pq303 : 0 ≤ (0 : Int) := (by omega)
                          have qq303 : 0 < ((t302.length : Int) : Int) := of_decide_eq_true (by first | (with_reducible assumption) | assumption)
                          obtain ⟨adq303, eq303, hxq303_0⟩ := Kd.at_string (SL.row_c HS.out).2.2 0 pq303 qq303
                          cases eq303
                          (try rw [show ((0 : Int)).toNat = 0 from rfl] at hxq303_0)
                          (try rw [Addr.add_zero'] at hxq303_0)
                          have qiq303 : (0 < t302.length) = True := eq_true (by omega)
                          replace pq303 := eq_true pq303
                          replace qq303 := eq_true qq303
                          have pq304 : 0 ≤ (x10_1 : Int) := of_decide_eq_true (by first | (with_reducible assumption) | assumption)
                          have qq304 : x10_1 < ((l1.length : Int) : Int) := of_decide_eq_true (by first | (with_reducible assumption) | assumption)
                          obtain ⟨adq304, eq304, hxxq304⟩ := RO.cell (enc := Value.string) (h1 := fun _ => rfl) (⟨#[]⟩ : ByteArray) HR1.out x10_1 pq304 qq304
                          have hxq304_0 := hxxq304 _ HK.out
                          obtain rfl : adq301 = adq304 := (by injection eq304)
                          replace pq304 := eq_true pq304
                          replace qq304 := eq_true qq304
                          refine start_ (n := 16) (S := fun w' => w'.cell? adq303 = some (.string (rdOf ByteArray.empty t302 0)) ∧ w'.cell? (adq301.add x10_1.toNat) = some (.string (rdOf ByteArray.empty l1 x10_1))) (ds := []) #[false, false, false, false, false, false, false, false, false, false, false, false, false, false, false, false] (by kernel_rfl) rfl rfl ⟨(by have h_ := (SL.cell_sc (enc := Value.string) (h1 := fun _ => rfl) (⟨#[]⟩ : ByteArray) HS.out 0 (of_eq_true pq303) (of_eq_true qq303)); rw [show ((0 : Int)).toNat = 0 from rfl, Addr.add_zero'] at h_; exact h_), (by have h_ := hxxq304 _ HK.out; exact h_)⟩ (fun hHeld => ?_); refine with_tabW barrowlaw38_ChatCleans.tab18 barrowlaw38_ChatCleans.bits18 (fun HT_ HW_ => ?_)
                          replace HK := Aside0.mk (Keep.drew HK.out)
                          replace HS := Aside0.mk (SL.drew HS.out)
                          refine pure_ (i := 0) (N := some 67) (v := ?_) (a' := ?_) #[true, false, false, false, false, false, false, false, false, false, false, false, false, false, false, false] rfl rfl (any_of HT_.out (by kernel_rfl)) (fun _ _ _ h => h) (Or.inl ⟨by rfl, ?_⟩) ?_ ?_; rotate_left; · (intro w'; go_simp; with_reducible rfl)
                          rotate_left; · (simp only [Act.put, sT, sZ, sS, i64_w, i32_w]; rfl)
                          refine pure_ (i := 1) (N := some 68) (v := ?_) (a' := ?_) #[true, true, false, false, false, false, false, false, false, false, false, false, false, false, false, false] rfl rfl (any_of HT_.out (by kernel_rfl)) (fun _ _ _ h => h) (Or.inl ⟨by rfl, ?_⟩) ?_ ?_; rotate_left; · (intro w'; go_simp; with_reducible rfl)
                          rotate_left; · (simp only [Act.put, sT, sZ, sS, i64_w, i32_w]; rfl)
                          refine pure_ (i := 2) (N := some 69) (v := ?_) (a' := ?_) #[true, true, true, false, false, false, false, false, false, false, false, false, false, false, false, false] rfl rfl (any_of HT_.out (by kernel_rfl)) (fun _ _ _ h => h) (Or.inl ⟨by rfl, ?_⟩) ?_ ?_; rotate_left; · (intro w'; go_simp; with_reducible rfl)
                          rotate_left; · (simp only [Act.put, sT, sZ, sS, i64_w, i32_w]; rfl)
                          refine pure_ (i := 3) (N := some 70) (v := ?_) (a' := ?_) #[true, true, true, true, false, false, false, false, false, false, false, false, false, false, false, false] rfl rfl (any_of HT_.out (by kernel_rfl)) (fun _ _ _ h => h) (Or.inl ⟨by rfl, ?_⟩) ?_ ?_; rotate_left; · (intro w'; go_simp; with_reducible rfl)
                          rotate_left; · (simp only [Act.put, sT, sZ, sS, i64_w, i32_w]; rfl)
                          refine pure_ (i := 4) (N := some 71) (v := ?_) (a' := ?_) #[true, true, true, true, true, false, false, false, false, false, false, false, false, false, false, false] rfl rfl (any_of HT_.out (by kernel_rfl)) (fun _ _ _ h => h) (Or.inl ⟨by rfl, ?_⟩) ?_ ?_; rotate_left; · (intro w'; go_simp; with_reducible rfl)
                          rotate_left; · (simp only [Act.put, sT, sZ, sS, i64_w, i32_w]; rfl)
                          refine pure_ (i := 5) (N := some 72) (v := ?_) (a' := ?_) #[true, true, true, true, true, true, false, false, false, false, false, false, false, false, false, false] rfl rfl (any_of HT_.out (by kernel_rfl)) (fun _ _ _ h => h) (Or.inl ⟨by rfl, ?_⟩) ?_ ?_; rotate_left; · (intro w'; go_simp; with_reducible rfl)
                          rotate_left; · (simp only [Act.put, sT, sZ, sS, i64_w, i32_w]; rfl)
                          refine pure_ (i := 8) (N := some 75) (v := ?_) (a' := ?_) #[true, true, true, true, true, true, false, false, true, false, false, false, false, false, false, false] rfl rfl (any_of HT_.out (by kernel_rfl)) (fun _ _ _ h => h) (Or.inl ⟨by rfl, ?_⟩) ?_ ?_; rotate_left; · (intro w'; go_simp; with_reducible rfl)
                          rotate_left; · (simp only [Act.put, sT, sZ, sS, i64_w, i32_w]; rfl)
                          refine pure_ (i := 9) (N := some 76) (v := ?_) (a' := ?_) #[true, true, true, true, true, true, false, false, true, true, false, false, false, false, false, false] rfl rfl (any_of HT_.out (by kernel_rfl)) (fun _ _ _ h => h) (Or.inl ⟨by rfl, ?_⟩) ?_ ?_; rotate_left; · (intro w'; go_simp; with_reducible rfl)
                          rotate_left; · (simp only [Act.put, sT, sZ, sS, i64_w, i32_w]; rfl)
                          refine pure_ (i := 10) (N := some 77) (v := ?_) (a' := ?_) #[true, true, true, true, true, true, false, false, true, true, true, false, false, false, false, false] rfl rfl (any_of HT_.out (by kernel_rfl)) (fun _ _ _ h => h) (Or.inl ⟨by rfl, ?_⟩) ?_ ?_; rotate_left; · (intro w'; go_simp; with_reducible rfl)
                          rotate_left; · (simp only [Act.put, sT, sZ, sS, i64_w, i32_w]; rfl)
                          refine take_ (i := 6) (N := some 73) (v := ?_) (a' := ?_) #[true, true, true, true, true, true, true, false, true, true, true, false, false, false, false, false] rfl rfl (take_ofW HT_.out HW_.out (by kernel_rfl)) (fun _ _ _ h => h) (Or.inl ⟨by rfl, ?_⟩) hHeld ?_ ?_; rotate_left
                          · rintro w' ⟨s0, s1⟩
                            go_simp
                            with_reducible rfl
                          rotate_left; · (simp only [Act.put, sT, sZ, sS, i64_w, i32_w]; rfl)
                          refine pure_ (i := 7) (N := some 74) (v := ?_) (a' := ?_) #[true, true, true, true, true, true, true, true, true, true, true, false, false, false, false, false] rfl rfl (any_of HT_.out (by kernel_rfl)) (fun _ _ _ h => h) (Or.inl ⟨by rfl, ?_⟩) ?_ ?_; rotate_left; · (intro w'; go_simp; with_reducible rfl)
                          rotate_left; · (simp only [Act.put, sT, sZ, sS, i64_w, i32_w]; rfl)
                          refine take_ (i := 11) (N := some 78) (v := ?_) (a' := ?_) #[true, true, true, true, true, true, true, true, true, true, true, true, false, false, false, false] rfl rfl (take_ofW HT_.out HW_.out (by kernel_rfl)) (fun _ _ _ h => h) (Or.inl ⟨by rfl, ?_⟩) hHeld ?_ ?_; rotate_left
                          · rintro w' ⟨s0, s1⟩
                            go_simp
                            with_reducible rfl
                          rotate_left; · (simp only [Act.put, sT, sZ, sS, i64_w, i32_w]; rfl)
                          refine pure_ (i := 12) (N := some 79) (v := ?_) (a' := ?_) #[true, true, true, true, true, true, true, true, true, true, true, true, true, false, false, false] rfl rfl (any_of HT_.out (by kernel_rfl)) (fun _ _ _ h => h) (Or.inl ⟨by rfl, ?_⟩) ?_ ?_; rotate_left; · (intro w'; go_simp; with_reducible rfl)
                          rotate_left; · (simp only [Act.put, sT, sZ, sS, i64_w, i32_w]; rfl)
                          refine pure_ (i := 13) (N := some 80) (v := ?_) (a' := ?_) #[true, true, true, true, true, true, true, true, true, true, true, true, true, true, false, false] rfl rfl (any_of HT_.out (by kernel_rfl)) (fun _ _ _ h => h) (Or.inl ⟨by rfl, ?_⟩) ?_ ?_; rotate_left; · (intro w'; go_simp; with_reducible rfl)
                          rotate_left; · (simp only [Act.put, sT, sZ, sS, i64_w, i32_w]; rfl)
                          refine pure_ (i := 14) (N := some 81) (v := ?_) (a' := ?_) #[true, true, true, true, true, true, true, true, true, true, true, true, true, true, true, false] rfl rfl (any_of HT_.out (by kernel_rfl)) (fun _ _ _ h => h) (Or.inl ⟨by rfl, ?_⟩) ?_ ?_; rotate_left; · (intro w'; go_simp; with_reducible rfl)
                          rotate_left; · (simp only [Act.put, sT, sZ, sS, i64_w, i32_w]; rfl)
                          refine pure_ (i := 15) (N := some 12) (v := ?_) (a' := ?_) #[true, true, true, true, true, true, true, true, true, true, true, true, true, true, true, true] rfl rfl (any_of HT_.out (by kernel_rfl)) (fun _ _ _ h => h) (Or.inl ⟨by rfl, ?_⟩) ?_ ?_; rotate_left; · (intro w'; go_simp; with_reducible rfl)
                          rotate_left; · (simp only [Act.put, sT, sZ, sS, i64_w, i32_w]; rfl)
                          refine done_ (done_of HT_.out (by kernel_rfl)) ?_
                          try go_wp2
                          go_meet
                          case rel => exact ⟨k2, ((((rdOf ByteArray.empty t302 0).size : Int) == ((rdOf ByteArray.empty l1 x10_1).size : Int))), (by first | rfl | (simp; done) | (simp [*]; done)), H', ⟨by have := HQ1.out; have := HQ2.out; omega⟩, HS, HK⟩
                        · rw [if_neg c54] at H
                          exact absurd H (by simp)
                      · rw [if_neg c53] at H
                        have c53b0 : ((t302.length : Int) == 1) = false := beq_eq_false_iff_ne.mpr c53
                        have c53b1 : ((t302.length : Int) != 1) = true := bne_iff_ne.mpr c53
                        have H' := Aside0.mk H
                        clear H
                        try go_wp2
                        refine start_ (n := 16) (S := fun w' => True) (ds := []) #[false, false, false, false, false, false, false, false, false, false, false, false, false, false, false, false] (by kernel_rfl) rfl rfl trivial (fun hHeld => ?_); refine with_tabW barrowlaw38_ChatCleans.tab18 barrowlaw38_ChatCleans.bits18 (fun HT_ HW_ => ?_)
                        replace HK := Aside0.mk (Keep.drew HK.out)
                        replace HS := Aside0.mk (SL.drew HS.out)
                        refine pure_ (i := 0) (N := some 67) (v := ?_) (a' := ?_) #[true, false, false, false, false, false, false, false, false, false, false, false, false, false, false, false] rfl rfl (any_of HT_.out (by kernel_rfl)) (fun _ _ _ h => h) (Or.inl ⟨by rfl, ?_⟩) ?_ ?_; rotate_left; · (intro w'; go_simp; with_reducible rfl)
                        rotate_left; · (simp only [Act.put, sT, sZ, sS, i64_w, i32_w]; rfl)
                        refine pure_ (i := 1) (N := some 68) (v := ?_) (a' := ?_) #[true, true, false, false, false, false, false, false, false, false, false, false, false, false, false, false] rfl rfl (any_of HT_.out (by kernel_rfl)) (fun _ _ _ h => h) (Or.inl ⟨by rfl, ?_⟩) ?_ ?_; rotate_left; · (intro w'; go_simp; with_reducible rfl)
                        rotate_left; · (simp only [Act.put, sT, sZ, sS, i64_w, i32_w]; rfl)
                        refine pure_ (i := 2) (N := some 69) (v := ?_) (a' := ?_) #[true, true, true, false, false, false, false, false, false, false, false, false, false, false, false, false] rfl rfl (any_of HT_.out (by kernel_rfl)) (fun _ _ _ h => h) (Or.inl ⟨by rfl, ?_⟩) ?_ ?_; rotate_left; · (intro w'; go_simp; with_reducible rfl)
                        rotate_left; · (simp only [Act.put, sT, sZ, sS, i64_w, i32_w]; rfl)
                        refine pure_ (i := 3) (N := some 70) (v := ?_) (a' := ?_) #[true, true, true, true, false, false, false, false, false, false, false, false, false, false, false, false] rfl rfl (any_of HT_.out (by kernel_rfl)) (fun _ _ _ h => h) (Or.inl ⟨by rfl, ?_⟩) ?_ ?_; rotate_left; · (intro w'; go_simp; with_reducible rfl)
                        rotate_left; · (simp only [Act.put, sT, sZ, sS, i64_w, i32_w]; rfl)
                        refine pure_ (i := 4) (N := some 71) (v := undef) (a' := ?_) #[true, true, true, true, true, false, false, false, false, false, false, false, false, false, false, false] rfl rfl (any_of HT_.out (by kernel_rfl)) (fun _ _ _ h => h) (Or.inr ⟨by rfl, rfl⟩) ?_ ?_; rotate_left; · (simp only [Act.put, sT, sZ, sS, i64_w, i32_w]; rfl)
                        refine pure_ (i := 5) (N := some 72) (v := undef) (a' := ?_) #[true, true, true, true, true, true, false, false, false, false, false, false, false, false, false, false] rfl rfl (any_of HT_.out (by kernel_rfl)) (fun _ _ _ h => h) (Or.inr ⟨by rfl, rfl⟩) ?_ ?_; rotate_left; · (simp only [Act.put, sT, sZ, sS, i64_w, i32_w]; rfl)
                        refine pure_ (i := 6) (N := some 73) (v := undef) (a' := ?_) #[true, true, true, true, true, true, true, false, false, false, false, false, false, false, false, false] rfl rfl (any_of HT_.out (by kernel_rfl)) (fun _ _ _ h => h) (Or.inr ⟨by rfl, rfl⟩) ?_ ?_; rotate_left; · (simp only [Act.put, sT, sZ, sS, i64_w, i32_w]; rfl)
                        refine pure_ (i := 7) (N := some 74) (v := undef) (a' := ?_) #[true, true, true, true, true, true, true, true, false, false, false, false, false, false, false, false] rfl rfl (any_of HT_.out (by kernel_rfl)) (fun _ _ _ h => h) (Or.inr ⟨by rfl, rfl⟩) ?_ ?_; rotate_left; · (simp only [Act.put, sT, sZ, sS, i64_w, i32_w]; rfl)
                        refine pure_ (i := 8) (N := some 75) (v := undef) (a' := ?_) #[true, true, true, true, true, true, true, true, true, false, false, false, false, false, false, false] rfl rfl (any_of HT_.out (by kernel_rfl)) (fun _ _ _ h => h) (Or.inr ⟨by rfl, rfl⟩) ?_ ?_; rotate_left; · (simp only [Act.put, sT, sZ, sS, i64_w, i32_w]; rfl)
                        refine pure_ (i := 9) (N := some 76) (v := undef) (a' := ?_) #[true, true, true, true, true, true, true, true, true, true, false, false, false, false, false, false] rfl rfl (any_of HT_.out (by kernel_rfl)) (fun _ _ _ h => h) (Or.inr ⟨by rfl, rfl⟩) ?_ ?_; rotate_left; · (simp only [Act.put, sT, sZ, sS, i64_w, i32_w]; rfl)
                        refine pure_ (i := 10) (N := some 77) (v := undef) (a' := ?_) #[true, true, true, true, true, true, true, true, true, true, true, false, false, false, false, false] rfl rfl (any_of HT_.out (by kernel_rfl)) (fun _ _ _ h => h) (Or.inr ⟨by rfl, rfl⟩) ?_ ?_; rotate_left; · (simp only [Act.put, sT, sZ, sS, i64_w, i32_w]; rfl)
                        refine pure_ (i := 11) (N := some 78) (v := undef) (a' := ?_) #[true, true, true, true, true, true, true, true, true, true, true, true, false, false, false, false] rfl rfl (any_of HT_.out (by kernel_rfl)) (fun _ _ _ h => h) (Or.inr ⟨by rfl, rfl⟩) ?_ ?_; rotate_left; · (simp only [Act.put, sT, sZ, sS, i64_w, i32_w]; rfl)
                        refine pure_ (i := 12) (N := some 79) (v := undef) (a' := ?_) #[true, true, true, true, true, true, true, true, true, true, true, true, true, false, false, false] rfl rfl (any_of HT_.out (by kernel_rfl)) (fun _ _ _ h => h) (Or.inr ⟨by rfl, rfl⟩) ?_ ?_; rotate_left; · (simp only [Act.put, sT, sZ, sS, i64_w, i32_w]; rfl)
                        refine pure_ (i := 13) (N := some 80) (v := undef) (a' := ?_) #[true, true, true, true, true, true, true, true, true, true, true, true, true, true, false, false] rfl rfl (any_of HT_.out (by kernel_rfl)) (fun _ _ _ h => h) (Or.inr ⟨by rfl, rfl⟩) ?_ ?_; rotate_left; · (simp only [Act.put, sT, sZ, sS, i64_w, i32_w]; rfl)
                        refine pure_ (i := 14) (N := some 81) (v := ?_) (a' := ?_) #[true, true, true, true, true, true, true, true, true, true, true, true, true, true, true, false] rfl rfl (any_of HT_.out (by kernel_rfl)) (fun _ _ _ h => h) (Or.inl ⟨by rfl, ?_⟩) ?_ ?_; rotate_left; · (intro w'; go_simp; with_reducible rfl)
                        rotate_left; · (simp only [Act.put, sT, sZ, sS, i64_w, i32_w]; rfl)
                        refine pure_ (i := 15) (N := some 12) (v := ?_) (a' := ?_) #[true, true, true, true, true, true, true, true, true, true, true, true, true, true, true, true] rfl rfl (any_of HT_.out (by kernel_rfl)) (fun _ _ _ h => h) (Or.inl ⟨by rfl, ?_⟩) ?_ ?_; rotate_left; · (intro w'; go_simp; with_reducible rfl)
                        rotate_left; · (simp only [Act.put, sT, sZ, sS, i64_w, i32_w]; rfl)
                        refine done_ (done_of HT_.out (by kernel_rfl)) ?_
                        try go_wp2
                        go_meet
                        case rel => exact ⟨k2, (false), (by first | rfl | (simp; done) | (simp [*]; done)), H', ⟨by have := HQ1.out; have := HQ2.out; omega⟩, HS, HK⟩
                    case rest =>
                      clear H' HS HK
                      obtain ⟨kq, x12_299, rfl, HA, HQ3, HS, HK⟩ := hcut
                      cases kq with
                      | zero => exact absurd HA.out (by simp [barrowlaw38_ChatCleans.l299])
                      | succ k3 =>
                        have H := HA.out
                        clear HA
                        simp only [barrowlaw38_ChatCleans.l299] at H
                        have H' := Aside0.mk H
                        clear H
                        go_wp2
                        go_loopg [9, 13] k3 (fun kq v9 v13 w' => ∃ (x9_2 : Bool) (x13_2 : Int), v9 = .bool x9_2 ∧ v13 = .int .i64 x13_2 ∧ Aside0 (barrowlaw38_ChatCleans.l2 kq a0 l1 t295 t297 x10_1 t302 x12_299 x9_2 x13_2 = some r) ∧ Aside0 (kq ≤ k3) ∧ Aside0 (SL (row Kd.string 9 (.slice Az3000039 t302.length cz3000039) t302 :: L) w' S) ∧ Aside0 (Keep S w w'))
                        case atStart => exact ⟨(x9_1), (0), (by first | rfl | (simp; done) | (simp [*]; done)), (by first | rfl | (simp; done) | (simp [*]; done)), H', ⟨Nat.le_refl _⟩, HS, HK⟩
                        case round =>
                          clear H' HS HK
                          obtain ⟨x9_2, x13_2, rfl, rfl, HA, HQ4, HS, HK⟩ := hrel
                          cases gk with
                          | zero => exact absurd HA.out (by simp [barrowlaw38_ChatCleans.l2])
                          | succ k4 =>
                            have H := HA.out
                            clear HA
                            simp only [barrowlaw38_ChatCleans.l2] at H
                            by_cases c55 : 0 ≤ x10_1
                            · rw [if_pos c55] at H
                              have c55b0 : decide (0 ≤ x10_1) = true := decide_eq_true c55
                              clear c55
                              by_cases c56 : x10_1 < (l1.length : Int)
                              · rw [if_pos c56] at H
                                have c56b0 : decide (x10_1 < (l1.length : Int)) = true := decide_eq_true c56
                                clear c56
                                by_cases c57 : x13_2 < ((rdOf ByteArray.empty l1 x10_1).size : Int)
                                · rw [if_pos c57] at H
                                  have c57b0 : decide (x13_2 < ((rdOf ByteArray.empty l1 x10_1).size : Int)) = true := decide_eq_true c57
                                  clear c57
                                  by_cases c58 : x9_2 = true
                                  · subst c58
                                    rw [if_pos rfl] at H
                                    have H' := Aside0.mk H
                                    clear H
                                    have pq305 : 0 ≤ (x10_1 : Int) := of_decide_eq_true (by first | (with_reducible assumption) | assumption)
                                    have qq305 : x10_1 < ((l1.length : Int) : Int) := of_decide_eq_true (by first | (with_reducible assumption) | assumption)
                                    obtain ⟨adq305, eq305, hxq305_0⟩ := Kd.at_string (RO.at_ HR1.out HK.out) x10_1 pq305 qq305
                                    obtain rfl : adq301 = adq305 := (by injection eq305)
                                    replace pq305 := eq_true pq305
                                    replace qq305 := eq_true qq305
                                    go_wp2
                                    go_roundg k4
                                    case measure => have := HQ1.out; have := HQ2.out; have := HQ3.out; have := HQ4.out; omega
                                    case rel => exact ⟨(true), (wrap64 (x13_2 + 1)), (by first | rfl | (simp; done) | (simp [*]; done)), (by first | rfl | (simp; done) | (simp [*]; done)), H', ⟨by have := HQ1.out; have := HQ2.out; have := HQ3.out; have := HQ4.out; omega⟩, HS, HK⟩
                                  · replace c58 := Bool.eq_false_iff.mpr c58
                                    subst c58
                                    rw [if_neg (show ¬ (false = true) by decide)] at H
                                    by_cases c59 : 0 ≤ x13_2
                                    · rw [if_pos c59] at H
                                      have c59b0 := eq_true c59
                                      have c59b1 : decide (0 ≤ x13_2) = true := decide_eq_true c59
                                      clear c59
                                      by_cases c60 : (bt (rdOf ByteArray.empty l1 x10_1) x13_2) = 42
                                      · rw [if_pos c60] at H
                                        have c60b0 : ((bt (rdOf ByteArray.empty l1 x10_1) x13_2) == 42) = true := beq_iff_eq.mpr c60
                                        have c60b1 : ((bt (rdOf ByteArray.empty l1 x10_1) x13_2) != 42) = false := bne_eq_false_iff_eq.mpr c60
                                        clear c60
                                        have H' := Aside0.mk H
                                        clear H
                                        have pq305 : 0 ≤ (x10_1 : Int) := of_decide_eq_true (by first | (with_reducible assumption) | assumption)
                                        have qq305 : x10_1 < ((l1.length : Int) : Int) := of_decide_eq_true (by first | (with_reducible assumption) | assumption)
                                        obtain ⟨adq305, eq305, hxq305_0⟩ := Kd.at_string (RO.at_ HR1.out HK.out) x10_1 pq305 qq305
                                        obtain rfl : adq301 = adq305 := (by injection eq305)
                                        replace pq305 := eq_true pq305
                                        replace qq305 := eq_true qq305
                                        have pq307 : 0 ≤ (x13_2 : Int) := of_decide_eq_true (by first | (with_reducible assumption) | assumption)
                                        have qq307 : x13_2 < ((rdOf ByteArray.empty l1 x10_1).size : Int) := of_decide_eq_true (by first | (with_reducible assumption) | assumption)
                                        have hxq307 := bt_at (rdOf ByteArray.empty l1 x10_1) x13_2
                                        replace pq307 := eq_true pq307
                                        replace qq307 := eq_true qq307
                                        go_wp2
                                        go_roundg k4
                                        case measure => have := HQ1.out; have := HQ2.out; have := HQ3.out; have := HQ4.out; omega
                                        case rel => exact ⟨(true), (wrap64 (x13_2 + 1)), (by first | rfl | (simp; done) | (simp [*]; done)), (by first | rfl | (simp; done) | (simp [*]; done)), H', ⟨by have := HQ1.out; have := HQ2.out; have := HQ3.out; have := HQ4.out; omega⟩, HS, HK⟩
                                      · rw [if_neg c60] at H
                                        have c60b0 : ((bt (rdOf ByteArray.empty l1 x10_1) x13_2) == 42) = false := beq_eq_false_iff_ne.mpr c60
                                        have c60b1 : ((bt (rdOf ByteArray.empty l1 x10_1) x13_2) != 42) = true := bne_iff_ne.mpr c60
                                        have H' := Aside0.mk H
                                        clear H
                                        have pq305 : 0 ≤ (x10_1 : Int) := of_decide_eq_true (by first | (with_reducible assumption) | assumption)
                                        have qq305 : x10_1 < ((l1.length : Int) : Int) := of_decide_eq_true (by first | (with_reducible assumption) | assumption)
                                        obtain ⟨adq305, eq305, hxq305_0⟩ := Kd.at_string (RO.at_ HR1.out HK.out) x10_1 pq305 qq305
                                        obtain rfl : adq301 = adq305 := (by injection eq305)
                                        replace pq305 := eq_true pq305
                                        replace qq305 := eq_true qq305
                                        have pq307 : 0 ≤ (x13_2 : Int) := of_decide_eq_true (by first | (with_reducible assumption) | assumption)
                                        have qq307 : x13_2 < ((rdOf ByteArray.empty l1 x10_1).size : Int) := of_decide_eq_true (by first | (with_reducible assumption) | assumption)
                                        have hxq307 := bt_at (rdOf ByteArray.empty l1 x10_1) x13_2
                                        replace pq307 := eq_true pq307
                                        replace qq307 := eq_true qq307
                                        go_wp2
                                        go_roundg k4
                                        case measure => have := HQ1.out; have := HQ2.out; have := HQ3.out; have := HQ4.out; omega
                                        case rel => exact ⟨(false), (wrap64 (x13_2 + 1)), (by first | rfl | (simp; done) | (simp [*]; done)), (by first | rfl | (simp; done) | (simp [*]; done)), H', ⟨by have := HQ1.out; have := HQ2.out; have := HQ3.out; have := HQ4.out; omega⟩, HS, HK⟩
                                    · rw [if_neg c59] at H
                                      exact absurd H (by simp)
                                · rw [if_neg c57] at H
                                  have c57b0 : decide (x13_2 < ((rdOf ByteArray.empty l1 x10_1).size : Int)) = false := decide_eq_false c57
                                  clear c57
                                  have H' := Aside0.mk H
                                  clear H
                                  have pq305 : 0 ≤ (x10_1 : Int) := of_decide_eq_true (by first | (with_reducible assumption) | assumption)
                                  have qq305 : x10_1 < ((l1.length : Int) : Int) := of_decide_eq_true (by first | (with_reducible assumption) | assumption)
                                  obtain ⟨adq305, eq305, hxq305_0⟩ := Kd.at_string (RO.at_ HR1.out HK.out) x10_1 pq305 qq305
                                  obtain rfl : adq301 = adq305 := (by injection eq305)
                                  replace pq305 := eq_true pq305
                                  replace qq305 := eq_true qq305
                                  go_wp2
                                  go_loopg [14] k4 (fun kq v14 w' => ∃ (x14_3 : Int), v14 = .int .i64 x14_3 ∧ Aside0 (barrowlaw38_ChatCleans.l3 kq a0 l1 t295 t297 x10_1 t302 x12_299 x9_2 x14_3 = some r) ∧ Aside0 (kq ≤ k4) ∧ Aside0 (SL (row Kd.string 9 (.slice Az3000039 t302.length cz3000039) t302 :: L) w' S) ∧ Aside0 (Keep S w w'))
                                  case atStart => exact ⟨(0), (by first | rfl | (simp; done) | (simp [*]; done)), H', ⟨Nat.le_refl _⟩, HS, HK⟩
                                  case round =>
                                    clear H' HS HK
                                    obtain ⟨x14_3, rfl, HA, HQ5, HS, HK⟩ := hrel
                                    cases gk with
                                    | zero => exact absurd HA.out (by simp [barrowlaw38_ChatCleans.l3])
                                    | succ k5 =>
                                      have H := HA.out
                                      clear HA
                                      simp only [barrowlaw38_ChatCleans.l3] at H
                                      by_cases c61 : 0 ≤ x10_1
                                      · rw [if_pos c61] at H
                                        have c61b0 : decide (0 ≤ x10_1) = true := decide_eq_true c61
                                        clear c61
                                        by_cases c62 : x10_1 < (l1.length : Int)
                                        · rw [if_pos c62] at H
                                          have c62b0 : decide (x10_1 < (l1.length : Int)) = true := decide_eq_true c62
                                          clear c62
                                          by_cases c63 : (wrap64 (x14_3 + ((rdOf ByteArray.empty l1 x10_1).size : Int))) ≤ (t297.size : Int)
                                          · rw [if_pos c63] at H
                                            have c63b0 : decide ((wrap64 (x14_3 + ((rdOf ByteArray.empty l1 x10_1).size : Int))) ≤ (t297.size : Int)) = true := decide_eq_true c63
                                            have c63b8 := eq_true c63
                                            clear c63
                                            by_cases c64 : x12_299 = true
                                            · subst c64
                                              rw [if_pos rfl] at H
                                              by_cases c65 : 0 ≤ x14_3
                                              · rw [if_pos c65] at H
                                                have c65b0 := eq_true c65
                                                have c65b1 : decide (0 ≤ x14_3) = true := decide_eq_true c65
                                                clear c65
                                                by_cases c66 : x14_3 ≤ (wrap64 (x14_3 + ((rdOf ByteArray.empty l1 x10_1).size : Int)))
                                                · rw [if_pos c66] at H
                                                  have c66b0 := eq_true c66
                                                  have c66b1 : decide (x14_3 ≤ (wrap64 (x14_3 + ((rdOf ByteArray.empty l1 x10_1).size : Int)))) = true := decide_eq_true c66
                                                  clear c66
                                                  replace H := Option.bind_eq_some_iff.1 H
                                                  obtain ⟨t311, Hc670, H⟩ := H
                                                  try dsimp only at H
                                                  have Hc67 := Aside0.mk Hc670
                                                  clear Hc670
                                                  have H' := Aside0.mk H
                                                  clear H
                                                  have pq309 : 0 ≤ (x10_1 : Int) := of_decide_eq_true (by first | (with_reducible assumption) | assumption)
                                                  have qq309 : x10_1 < ((l1.length : Int) : Int) := of_decide_eq_true (by first | (with_reducible assumption) | assumption)
                                                  obtain ⟨adq309, eq309, hxq309_0⟩ := Kd.at_string (RO.at_ HR1.out HK.out) x10_1 pq309 qq309
                                                  obtain rfl : adq301 = adq309 := (by injection eq309)
                                                  replace pq309 := eq_true pq309
                                                  replace qq309 := eq_true qq309
                                                  try go_upto_region 27 with (first | ((with_reducible refine gate_dst (N := 126) rfl ?_); refine goesL_ (some 126) rfl rfl Try.func19 (by kernel_rfl) rfl #[.string (t297.extract (x14_3 : Int).toNat ((wrap64 (x14_3 + ((rdOf ByteArray.empty l1 x10_1).size : Int))) : Int).toNat)] rfl (by (try simp only [List.map_toArray, List.map_cons, List.map_nil]); first | done | rfl | (simp; done)) ?_; have hs0_ := HS.out; (with_reducible refine (chat_Words.slcalls k5 _ _ _ _ _ (HF.out.keep HK.out) hs0_  Hc67.out).mono ?_); rintro e_ w68 ⟨Az3000040, cz3000040, rfl, hsr_, hkr_⟩; refine ⟨_, rfl, ?_⟩; replace HS := Aside0.mk (hsr_); replace HK := Aside0.mk (HK.out.trans hkr_)))
                                                  (try simp only [Act.put, sT, sZ, sS])
                                                  go_cut [138] (fun v138 wc => ∃ (kq : Nat) (x138_399 : Bool), v138 = .bool x138_399 ∧ Aside0 (barrowlaw38_ChatCleans.l399 kq a0 l1 t295 t297 x10_1 t302 true x9_2 x14_3 x138_399 = some r) ∧ Aside0 (kq ≤ k5) ∧ Aside0 (SL (row Kd.string 9 (.slice Az3000040 t311.length cz3000040) t311 :: row Kd.string 9 (.slice Az3000039 t302.length cz3000039) t302 :: L) wc S) ∧ Aside0 (Keep S w wc))
                                                  case first =>
                                                    have H := H'.out
                                                    clear H'
                                                    by_cases c69 : (t311.length : Int) = 1
                                                    · rw [if_pos c69] at H
                                                      have c69b0 : ((t311.length : Int) == 1) = true := beq_iff_eq.mpr c69
                                                      have c69b1 : ((t311.length : Int) != 1) = false := bne_eq_false_iff_eq.mpr c69
                                                      clear c69
                                                      by_cases c70 : 0 < (t311.length : Int)
                                                      · rw [if_pos c70] at H
                                                        have c70b0 : decide (0 < (t311.length : Int)) = true := decide_eq_true c70
                                                        have c70b1 : decide (0 < t311.length) = true := decide_eq_true (by omega)
                                                        clear c70
                                                        by_cases c71 : 0 < (t302.length : Int)
                                                        · rw [if_pos c71] at H
                                                          have c71b0 : decide (0 < (t302.length : Int)) = true := decide_eq_true c71
                                                          have c71b1 : decide (0 < t302.length) = true := decide_eq_true (by omega)
                                                          clear c71
                                                          have H' := Aside0.mk H
                                                          clear H
                                                          try go_wp2
                                                          have pq312 : 0 ≤ (0 : Int) := (by omega)
                                                          have qq312 : 0 < ((t311.length : Int) : Int) := of_decide_eq_true (by first | (with_reducible assumption) | assumption)
                                                          obtain ⟨adq312, eq312, hxq312_0⟩ := Kd.at_string (SL.row_c HS.out).2.2 0 pq312 qq312
                                                          cases eq312
                                                          (try rw [show ((0 : Int)).toNat = 0 from rfl] at hxq312_0)
                                                          (try rw [Addr.add_zero'] at hxq312_0)
                                                          have qiq312 : (0 < t311.length) = True := eq_true (by omega)
                                                          replace pq312 := eq_true pq312
                                                          replace qq312 := eq_true qq312
                                                          have pq313 : 0 ≤ (0 : Int) := (by omega)
                                                          have qq313 : 0 < ((t302.length : Int) : Int) := of_decide_eq_true (by first | (with_reducible assumption) | assumption)
                                                          obtain ⟨adq313, eq313, hxq313_0⟩ := Kd.at_string (SL.row_c (SL.get1 HS.out)).2.2 0 pq313 qq313
                                                          cases eq313
                                                          (try rw [show ((0 : Int)).toNat = 0 from rfl] at hxq313_0)
                                                          (try rw [Addr.add_zero'] at hxq313_0)
                                                          have qiq313 : (0 < t302.length) = True := eq_true (by omega)
                                                          replace pq313 := eq_true pq313
                                                          replace qq313 := eq_true qq313
                                                          refine start_ (n := 12) (S := fun w' => w'.cell? adq312 = some (.string (rdOf ByteArray.empty t311 0)) ∧ w'.cell? adq313 = some (.string (rdOf ByteArray.empty t302 0))) (ds := []) #[false, false, false, false, false, false, false, false, false, false, false, false] (by kernel_rfl) rfl rfl ⟨(by have h_ := (SL.cell_sc (enc := Value.string) (h1 := fun _ => rfl) (⟨#[]⟩ : ByteArray) HS.out 0 (of_eq_true pq312) (of_eq_true qq312)); rw [show ((0 : Int)).toNat = 0 from rfl, Addr.add_zero'] at h_; exact h_), (by have h_ := (SL.cell_sc (enc := Value.string) (h1 := fun _ => rfl) (⟨#[]⟩ : ByteArray) (SL.get1 HS.out) 0 (of_eq_true pq313) (of_eq_true qq313)); rw [show ((0 : Int)).toNat = 0 from rfl, Addr.add_zero'] at h_; exact h_)⟩ (fun hHeld => ?_); refine with_tabW barrowlaw38_ChatCleans.tab27 barrowlaw38_ChatCleans.bits27 (fun HT_ HW_ => ?_)
                                                          replace HK := Aside0.mk (Keep.drew HK.out)
                                                          replace HS := Aside0.mk (SL.drew HS.out)
                                                          refine pure_ (i := 0) (N := some 127) (v := ?_) (a' := ?_) #[true, false, false, false, false, false, false, false, false, false, false, false] rfl rfl (any_of HT_.out (by kernel_rfl)) (fun _ _ _ h => h) (Or.inl ⟨by rfl, ?_⟩) ?_ ?_; rotate_left; · (intro w'; go_simp; with_reducible rfl)
                                                          rotate_left; · (simp only [Act.put, sT, sZ, sS, i64_w, i32_w]; rfl)
                                                          refine pure_ (i := 1) (N := some 128) (v := ?_) (a' := ?_) #[true, true, false, false, false, false, false, false, false, false, false, false] rfl rfl (any_of HT_.out (by kernel_rfl)) (fun _ _ _ h => h) (Or.inl ⟨by rfl, ?_⟩) ?_ ?_; rotate_left; · (intro w'; go_simp; with_reducible rfl)
                                                          rotate_left; · (simp only [Act.put, sT, sZ, sS, i64_w, i32_w]; rfl)
                                                          refine pure_ (i := 2) (N := some 129) (v := ?_) (a' := ?_) #[true, true, true, false, false, false, false, false, false, false, false, false] rfl rfl (any_of HT_.out (by kernel_rfl)) (fun _ _ _ h => h) (Or.inl ⟨by rfl, ?_⟩) ?_ ?_; rotate_left; · (intro w'; go_simp; with_reducible rfl)
                                                          rotate_left; · (simp only [Act.put, sT, sZ, sS, i64_w, i32_w]; rfl)
                                                          refine pure_ (i := 3) (N := some 130) (v := ?_) (a' := ?_) #[true, true, true, true, false, false, false, false, false, false, false, false] rfl rfl (any_of HT_.out (by kernel_rfl)) (fun _ _ _ h => h) (Or.inl ⟨by rfl, ?_⟩) ?_ ?_; rotate_left; · (intro w'; go_simp; with_reducible rfl)
                                                          rotate_left; · (simp only [Act.put, sT, sZ, sS, i64_w, i32_w]; rfl)
                                                          refine pure_ (i := 4) (N := some 131) (v := ?_) (a' := ?_) #[true, true, true, true, true, false, false, false, false, false, false, false] rfl rfl (any_of HT_.out (by kernel_rfl)) (fun _ _ _ h => h) (Or.inl ⟨by rfl, ?_⟩) ?_ ?_; rotate_left; · (intro w'; go_simp; with_reducible rfl)
                                                          rotate_left; · (simp only [Act.put, sT, sZ, sS, i64_w, i32_w]; rfl)
                                                          refine pure_ (i := 5) (N := some 132) (v := ?_) (a' := ?_) #[true, true, true, true, true, true, false, false, false, false, false, false] rfl rfl (any_of HT_.out (by kernel_rfl)) (fun _ _ _ h => h) (Or.inl ⟨by rfl, ?_⟩) ?_ ?_; rotate_left; · (intro w'; go_simp; with_reducible rfl)
                                                          rotate_left; · (simp only [Act.put, sT, sZ, sS, i64_w, i32_w]; rfl)
                                                          refine pure_ (i := 7) (N := some 134) (v := ?_) (a' := ?_) #[true, true, true, true, true, true, false, true, false, false, false, false] rfl rfl (any_of HT_.out (by kernel_rfl)) (fun _ _ _ h => h) (Or.inl ⟨by rfl, ?_⟩) ?_ ?_; rotate_left; · (intro w'; go_simp; with_reducible rfl)
                                                          rotate_left; · (simp only [Act.put, sT, sZ, sS, i64_w, i32_w]; rfl)
                                                          refine pure_ (i := 8) (N := some 135) (v := ?_) (a' := ?_) #[true, true, true, true, true, true, false, true, true, false, false, false] rfl rfl (any_of HT_.out (by kernel_rfl)) (fun _ _ _ h => h) (Or.inl ⟨by rfl, ?_⟩) ?_ ?_; rotate_left; · (intro w'; go_simp; with_reducible rfl)
                                                          rotate_left; · (simp only [Act.put, sT, sZ, sS, i64_w, i32_w]; rfl)
                                                          refine take_ (i := 6) (N := some 133) (v := ?_) (a' := ?_) #[true, true, true, true, true, true, true, true, true, false, false, false] rfl rfl (take_ofW HT_.out HW_.out (by kernel_rfl)) (fun _ _ _ h => h) (Or.inl ⟨by rfl, ?_⟩) hHeld ?_ ?_; rotate_left
                                                          · rintro w' ⟨s0, s1⟩
                                                            go_simp
                                                            with_reducible rfl
                                                          rotate_left; · (simp only [Act.put, sT, sZ, sS, i64_w, i32_w]; rfl)
                                                          refine take_ (i := 9) (N := some 136) (v := ?_) (a' := ?_) #[true, true, true, true, true, true, true, true, true, true, false, false] rfl rfl (take_ofW HT_.out HW_.out (by kernel_rfl)) (fun _ _ _ h => h) (Or.inl ⟨by rfl, ?_⟩) hHeld ?_ ?_; rotate_left
                                                          · rintro w' ⟨s0, s1⟩
                                                            go_simp
                                                            with_reducible rfl
                                                          rotate_left; · (simp only [Act.put, sT, sZ, sS, i64_w, i32_w]; rfl)
                                                          refine pure_ (i := 10) (N := some 137) (v := ?_) (a' := ?_) #[true, true, true, true, true, true, true, true, true, true, true, false] rfl rfl (any_of HT_.out (by kernel_rfl)) (fun _ _ _ h => h) (Or.inl ⟨by rfl, ?_⟩) ?_ ?_; rotate_left; · (intro w'; go_simp; with_reducible rfl)
                                                          rotate_left; · (simp only [Act.put, sT, sZ, sS, i64_w, i32_w]; rfl)
                                                          refine pure_ (i := 11) (N := some 138) (v := ?_) (a' := ?_) #[true, true, true, true, true, true, true, true, true, true, true, true] rfl rfl (any_of HT_.out (by kernel_rfl)) (fun _ _ _ h => h) (Or.inl ⟨by rfl, ?_⟩) ?_ ?_; rotate_left; · (intro w'; go_simp; with_reducible rfl)
                                                          rotate_left; · (simp only [Act.put, sT, sZ, sS, i64_w, i32_w]; rfl)
                                                          refine done_ (done_of HT_.out (by kernel_rfl)) ?_
                                                          try go_wp2
                                                          go_meet
                                                          case rel => exact ⟨k5, (((rdOf ByteArray.empty t311 0).toList == (rdOf ByteArray.empty t302 0).toList)), (by first | rfl | (simp; done) | (simp [*]; done)), H', ⟨by have := HQ1.out; have := HQ2.out; have := HQ3.out; have := HQ4.out; have := HQ5.out; omega⟩, HS, HK⟩
                                                        · rw [if_neg c71] at H
                                                          exact absurd H (by simp)
                                                      · rw [if_neg c70] at H
                                                        exact absurd H (by simp)
                                                    · rw [if_neg c69] at H
                                                      have c69b0 : ((t311.length : Int) == 1) = false := beq_eq_false_iff_ne.mpr c69
                                                      have c69b1 : ((t311.length : Int) != 1) = true := bne_iff_ne.mpr c69
                                                      have H' := Aside0.mk H
                                                      clear H
                                                      try go_wp2
                                                      refine start_ (n := 12) (S := fun w' => True) (ds := []) #[false, false, false, false, false, false, false, false, false, false, false, false] (by kernel_rfl) rfl rfl trivial (fun hHeld => ?_); refine with_tabW barrowlaw38_ChatCleans.tab27 barrowlaw38_ChatCleans.bits27 (fun HT_ HW_ => ?_)
                                                      replace HK := Aside0.mk (Keep.drew HK.out)
                                                      replace HS := Aside0.mk (SL.drew HS.out)
                                                      refine pure_ (i := 0) (N := some 127) (v := ?_) (a' := ?_) #[true, false, false, false, false, false, false, false, false, false, false, false] rfl rfl (any_of HT_.out (by kernel_rfl)) (fun _ _ _ h => h) (Or.inl ⟨by rfl, ?_⟩) ?_ ?_; rotate_left; · (intro w'; go_simp; with_reducible rfl)
                                                      rotate_left; · (simp only [Act.put, sT, sZ, sS, i64_w, i32_w]; rfl)
                                                      refine pure_ (i := 1) (N := some 128) (v := ?_) (a' := ?_) #[true, true, false, false, false, false, false, false, false, false, false, false] rfl rfl (any_of HT_.out (by kernel_rfl)) (fun _ _ _ h => h) (Or.inl ⟨by rfl, ?_⟩) ?_ ?_; rotate_left; · (intro w'; go_simp; with_reducible rfl)
                                                      rotate_left; · (simp only [Act.put, sT, sZ, sS, i64_w, i32_w]; rfl)
                                                      refine pure_ (i := 2) (N := some 129) (v := ?_) (a' := ?_) #[true, true, true, false, false, false, false, false, false, false, false, false] rfl rfl (any_of HT_.out (by kernel_rfl)) (fun _ _ _ h => h) (Or.inl ⟨by rfl, ?_⟩) ?_ ?_; rotate_left; · (intro w'; go_simp; with_reducible rfl)
                                                      rotate_left; · (simp only [Act.put, sT, sZ, sS, i64_w, i32_w]; rfl)
                                                      refine pure_ (i := 3) (N := some 130) (v := ?_) (a' := ?_) #[true, true, true, true, false, false, false, false, false, false, false, false] rfl rfl (any_of HT_.out (by kernel_rfl)) (fun _ _ _ h => h) (Or.inl ⟨by rfl, ?_⟩) ?_ ?_; rotate_left; · (intro w'; go_simp; with_reducible rfl)
                                                      rotate_left; · (simp only [Act.put, sT, sZ, sS, i64_w, i32_w]; rfl)
                                                      refine pure_ (i := 4) (N := some 131) (v := undef) (a' := ?_) #[true, true, true, true, true, false, false, false, false, false, false, false] rfl rfl (any_of HT_.out (by kernel_rfl)) (fun _ _ _ h => h) (Or.inr ⟨by rfl, rfl⟩) ?_ ?_; rotate_left; · (simp only [Act.put, sT, sZ, sS, i64_w, i32_w]; rfl)
                                                      refine pure_ (i := 5) (N := some 132) (v := undef) (a' := ?_) #[true, true, true, true, true, true, false, false, false, false, false, false] rfl rfl (any_of HT_.out (by kernel_rfl)) (fun _ _ _ h => h) (Or.inr ⟨by rfl, rfl⟩) ?_ ?_; rotate_left; · (simp only [Act.put, sT, sZ, sS, i64_w, i32_w]; rfl)
                                                      refine pure_ (i := 6) (N := some 133) (v := undef) (a' := ?_) #[true, true, true, true, true, true, true, false, false, false, false, false] rfl rfl (any_of HT_.out (by kernel_rfl)) (fun _ _ _ h => h) (Or.inr ⟨by rfl, rfl⟩) ?_ ?_; rotate_left; · (simp only [Act.put, sT, sZ, sS, i64_w, i32_w]; rfl)
                                                      refine pure_ (i := 7) (N := some 134) (v := undef) (a' := ?_) #[true, true, true, true, true, true, true, true, false, false, false, false] rfl rfl (any_of HT_.out (by kernel_rfl)) (fun _ _ _ h => h) (Or.inr ⟨by rfl, rfl⟩) ?_ ?_; rotate_left; · (simp only [Act.put, sT, sZ, sS, i64_w, i32_w]; rfl)
                                                      refine pure_ (i := 8) (N := some 135) (v := undef) (a' := ?_) #[true, true, true, true, true, true, true, true, true, false, false, false] rfl rfl (any_of HT_.out (by kernel_rfl)) (fun _ _ _ h => h) (Or.inr ⟨by rfl, rfl⟩) ?_ ?_; rotate_left; · (simp only [Act.put, sT, sZ, sS, i64_w, i32_w]; rfl)
                                                      refine pure_ (i := 9) (N := some 136) (v := undef) (a' := ?_) #[true, true, true, true, true, true, true, true, true, true, false, false] rfl rfl (any_of HT_.out (by kernel_rfl)) (fun _ _ _ h => h) (Or.inr ⟨by rfl, rfl⟩) ?_ ?_; rotate_left; · (simp only [Act.put, sT, sZ, sS, i64_w, i32_w]; rfl)
                                                      refine pure_ (i := 10) (N := some 137) (v := undef) (a' := ?_) #[true, true, true, true, true, true, true, true, true, true, true, false] rfl rfl (any_of HT_.out (by kernel_rfl)) (fun _ _ _ h => h) (Or.inr ⟨by rfl, rfl⟩) ?_ ?_; rotate_left; · (simp only [Act.put, sT, sZ, sS, i64_w, i32_w]; rfl)
                                                      refine pure_ (i := 11) (N := some 138) (v := ?_) (a' := ?_) #[true, true, true, true, true, true, true, true, true, true, true, true] rfl rfl (any_of HT_.out (by kernel_rfl)) (fun _ _ _ h => h) (Or.inl ⟨by rfl, ?_⟩) ?_ ?_; rotate_left; · (intro w'; go_simp; with_reducible rfl)
                                                      rotate_left; · (simp only [Act.put, sT, sZ, sS, i64_w, i32_w]; rfl)
                                                      refine done_ (done_of HT_.out (by kernel_rfl)) ?_
                                                      try go_wp2
                                                      go_meet
                                                      case rel => exact ⟨k5, (false), (by first | rfl | (simp; done) | (simp [*]; done)), H', ⟨by have := HQ1.out; have := HQ2.out; have := HQ3.out; have := HQ4.out; have := HQ5.out; omega⟩, HS, HK⟩
                                                  case rest =>
                                                    clear H' HS HK
                                                    obtain ⟨kq, x138_399, rfl, HA, HQ6, HS, HK⟩ := hcut
                                                    cases kq with
                                                    | zero => exact absurd HA.out (by simp [barrowlaw38_ChatCleans.l399])
                                                    | succ k6 =>
                                                      have H := HA.out
                                                      clear HA
                                                      simp only [barrowlaw38_ChatCleans.l399] at H
                                                      by_cases c72 : x138_399 = true
                                                      · subst c72
                                                        rw [if_pos rfl] at H
                                                        exact absurd H (by simp)
                                                      · replace c72 := Bool.eq_false_iff.mpr c72
                                                        subst c72
                                                        rw [if_neg (show ¬ (false = true) by decide)] at H
                                                        have H' := Aside0.mk H
                                                        clear H
                                                        go_wp2
                                                        replace HS := Aside0.mk (SL.tail HS.out)
                                                        go_roundg k6
                                                        case measure => have := HQ1.out; have := HQ2.out; have := HQ3.out; have := HQ4.out; have := HQ5.out; have := HQ6.out; omega
                                                        case rel => exact ⟨(wrap64 (x14_3 + 1)), (by first | rfl | (simp; done) | (simp [*]; done)), H', ⟨by have := HQ1.out; have := HQ2.out; have := HQ3.out; have := HQ4.out; have := HQ5.out; have := HQ6.out; omega⟩, HS, HK⟩
                                                · rw [if_neg c66] at H
                                                  exact absurd H (by simp)
                                              · rw [if_neg c65] at H
                                                exact absurd H (by simp)
                                            · replace c64 := Bool.eq_false_iff.mpr c64
                                              subst c64
                                              rw [if_neg (show ¬ (false = true) by decide)] at H
                                              have H' := Aside0.mk H
                                              clear H
                                              have pq309 : 0 ≤ (x10_1 : Int) := of_decide_eq_true (by first | (with_reducible assumption) | assumption)
                                              have qq309 : x10_1 < ((l1.length : Int) : Int) := of_decide_eq_true (by first | (with_reducible assumption) | assumption)
                                              obtain ⟨adq309, eq309, hxq309_0⟩ := Kd.at_string (RO.at_ HR1.out HK.out) x10_1 pq309 qq309
                                              obtain rfl : adq301 = adq309 := (by injection eq309)
                                              replace pq309 := eq_true pq309
                                              replace qq309 := eq_true qq309
                                              go_wp2
                                              replace HS := Aside0.mk (SL.tail HS.out)
                                              go_roundg k5
                                              case measure => have := HQ1.out; have := HQ2.out; have := HQ3.out; have := HQ4.out; have := HQ5.out; omega
                                              case rel => exact ⟨(x9_2), (wrap64 (x10_1 + 1)), (by first | rfl | (simp; done) | (simp [*]; done)), (by first | rfl | (simp; done) | (simp [*]; done)), H', ⟨by have := HQ1.out; have := HQ2.out; have := HQ3.out; have := HQ4.out; have := HQ5.out; omega⟩, HS, HK⟩
                                          · rw [if_neg c63] at H
                                            have c63b0 : decide ((wrap64 (x14_3 + ((rdOf ByteArray.empty l1 x10_1).size : Int))) ≤ (t297.size : Int)) = false := decide_eq_false c63
                                            clear c63
                                            have H' := Aside0.mk H
                                            clear H
                                            have pq309 : 0 ≤ (x10_1 : Int) := of_decide_eq_true (by first | (with_reducible assumption) | assumption)
                                            have qq309 : x10_1 < ((l1.length : Int) : Int) := of_decide_eq_true (by first | (with_reducible assumption) | assumption)
                                            obtain ⟨adq309, eq309, hxq309_0⟩ := Kd.at_string (RO.at_ HR1.out HK.out) x10_1 pq309 qq309
                                            obtain rfl : adq301 = adq309 := (by injection eq309)
                                            replace pq309 := eq_true pq309
                                            replace qq309 := eq_true qq309
                                            go_wp2
                                            replace HS := Aside0.mk (SL.tail HS.out)
                                            go_roundg k5
                                            case measure => have := HQ1.out; have := HQ2.out; have := HQ3.out; have := HQ4.out; have := HQ5.out; omega
                                            case rel => exact ⟨(x9_2), (wrap64 (x10_1 + 1)), (by first | rfl | (simp; done) | (simp [*]; done)), (by first | rfl | (simp; done) | (simp [*]; done)), H', ⟨by have := HQ1.out; have := HQ2.out; have := HQ3.out; have := HQ4.out; have := HQ5.out; omega⟩, HS, HK⟩
                                        · rw [if_neg c62] at H
                                          exact absurd H (by simp)
                                      · rw [if_neg c61] at H
                                        exact absurd H (by simp)
                              · rw [if_neg c56] at H
                                exact absurd H (by simp)
                            · rw [if_neg c55] at H
                              exact absurd H (by simp)
                  · rw [if_neg c50] at H
                    exact absurd H (by simp)
                · rw [if_neg c49] at H
                  have c49b0 : decide (x10_1 < (l1.length : Int)) = false := decide_eq_false c49
                  clear c49
                  by_cases c73 : t295 = true
                  · subst c73
                    rw [if_pos rfl] at H
                    by_cases c74 : x9_1 = true
                    · subst c74
                      rw [if_pos rfl] at H
                      replace H := Option.bind_eq_some_iff.1 H
                      obtain ⟨t314, Hc750, H⟩ := H
                      try dsimp only at H
                      have Hc75 := Aside0.mk Hc750
                      clear Hc750
                      by_cases c76 : t314.toList = a0.toList
                      · rw [if_pos c76] at H
                        have c76b0 : (t314.toList == a0.toList) = true := beq_iff_eq.mpr c76
                        have c76b1 : (t314.toList != a0.toList) = false := bne_eq_false_iff_eq.mpr c76
                        clear c76
                        obtain rfl := Option.some.inj H
                        go_wp2_with (first | ((with_reducible refine gate_dst (N := 152) rfl ?_); (try (refine gate_guard (by rfl) ?_; dsimp only)); refine goesL_ (some 152) rfl rfl Try.func16 (by kernel_rfl) rfl #[.string a0, .slice none 0 0] rfl (by (try simp only [List.map_toArray, List.map_cons, List.map_nil]); first | done | rfl | (simp; done)) ?_; (refine (chat_Clean.calls k2 _ _ _ _ _ _ (Kd.C_nil _ _) (Nat.le_refl _) Hc75.out).mono ?_); rintro e_ w77 ⟨rfl, hb_⟩; refine ⟨_, rfl, ?_⟩; replace HS := Aside0.mk (HS.out.below hb_); replace HK := Aside0.mk (HK.out.trans (Keep.below hb_))))
                        go_ret
                        unfold barrowlaw38_ChatCleans.Post
                        exact ⟨by first | rfl | (simp; done) | (simp [*]; done) | (simp at c76b0 ⊢; first | exact c76b0 | (simp [c76b0]; done)), HS.out, HK.out⟩
                      · rw [if_neg c76] at H
                        exact absurd H (by simp)
                    · replace c74 := Bool.eq_false_iff.mpr c74
                      subst c74
                      rw [if_neg (show ¬ (false = true) by decide)] at H
                      replace H := Option.bind_eq_some_iff.1 H
                      obtain ⟨t315, Hc780, H⟩ := H
                      try dsimp only at H
                      have Hc78 := Aside0.mk Hc780
                      clear Hc780
                      by_cases c79 : t315.toList = t297.toList
                      · rw [if_pos c79] at H
                        have c79b0 : (t315.toList == t297.toList) = true := beq_iff_eq.mpr c79
                        have c79b1 : (t315.toList != t297.toList) = false := bne_eq_false_iff_eq.mpr c79
                        clear c79
                        replace H := Option.bind_eq_some_iff.1 H
                        obtain ⟨t316, Hc800, H⟩ := H
                        try dsimp only at H
                        have Hc80 := Aside0.mk Hc800
                        clear Hc800
                        by_cases c81 : t316.toList = a0.toList
                        · rw [if_pos c81] at H
                          have c81b0 : (t316.toList == a0.toList) = true := beq_iff_eq.mpr c81
                          have c81b1 : (t316.toList != a0.toList) = false := bne_eq_false_iff_eq.mpr c81
                          clear c81
                          obtain rfl := Option.some.inj H
                          go_wp2_with (first | ((with_reducible refine gate_dst (N := 145) rfl ?_); (try (refine gate_guard (by rfl) ?_; dsimp only)); refine goesL_ (some 145) rfl rfl Try.func16 (by kernel_rfl) rfl #[.string t297, .slice A1 l1.length c1] rfl (by (try simp only [List.map_toArray, List.map_cons, List.map_nil]); first | done | rfl | (simp; done)) ?_; (with_reducible refine (chat_Clean.calls k2 _ _ _ _ _ _ (RO.at_ HR1.out HK.out) HC1.out Hc78.out).mono ?_); rintro e_ w82 ⟨rfl, hb_⟩; refine ⟨_, rfl, ?_⟩; replace HS := Aside0.mk (HS.out.below hb_); replace HK := Aside0.mk (HK.out.trans (Keep.below hb_))) | ((with_reducible refine gate_dst (N := 152) rfl ?_); (try (refine gate_guard (by rfl) ?_; dsimp only)); refine goesL_ (some 152) rfl rfl Try.func16 (by kernel_rfl) rfl #[.string a0, .slice none 0 0] rfl (by (try simp only [List.map_toArray, List.map_cons, List.map_nil]); first | done | rfl | (simp; done)) ?_; (refine (chat_Clean.calls k2 _ _ _ _ _ _ (Kd.C_nil _ _) (Nat.le_refl _) Hc80.out).mono ?_); rintro e_ w83 ⟨rfl, hb_⟩; refine ⟨_, rfl, ?_⟩; replace HS := Aside0.mk (HS.out.below hb_); replace HK := Aside0.mk (HK.out.trans (Keep.below hb_))))
                          go_ret
                          unfold barrowlaw38_ChatCleans.Post
                          exact ⟨by first | rfl | (simp; done) | (simp [*]; done) | (simp at c81b0 ⊢; first | exact c81b0 | (simp [c81b0]; done)), HS.out, HK.out⟩
                        · rw [if_neg c81] at H
                          exact absurd H (by simp)
                      · rw [if_neg c79] at H
                        exact absurd H (by simp)
                  · replace c73 := Bool.eq_false_iff.mpr c73
                    subst c73
                    rw [if_neg (show ¬ (false = true) by decide)] at H
                    exact absurd H (by simp)
    · rw [if_neg c5] at H
      exact absurd H (by simp)
  · replace c3 := Bool.eq_false_iff.mpr c3
    subst c3
    rw [if_neg (show ¬ (false = true) by decide)] at H
    obtain rfl := Option.some.inj H
    go_enter Try.func5, Try.ntmps5
    go_wp2_with (first | ((with_reducible refine gate_dst (N := 16) rfl ?_); refine goesL_ (some 16) rfl rfl Try.func7 (by kernel_rfl) rfl #[] rfl (by (try simp only [List.map_toArray, List.map_cons, List.map_nil]); first | done | rfl | (simp; done)) ?_; (with_reducible refine (barrowlaw38_small.calls k _ _  Hc1.out).mono ?_); rintro e_ w84 ⟨rfl, hb_⟩; refine ⟨_, rfl, ?_⟩; replace HS := Aside0.mk (HS.out.below hb_); replace HK := Aside0.mk (HK.out.trans (Keep.below hb_))) | ((with_reducible refine gate_dst (N := 19) rfl ?_); refine goesL_ (some 19) rfl rfl Try.func13 (by kernel_rfl) rfl #[.slice A1 l1.length c1, .string a0] rfl (by (try simp only [List.map_toArray, List.map_cons, List.map_nil]); first | done | rfl | (simp; done)) ?_; (with_reducible refine (barrowlaw38_few.calls k _ _ _ _ _ _ (RO.at_ HR1.out HK.out) HC1.out Hc2.out).mono ?_); rintro e_ w85 ⟨rfl, hb_⟩; refine ⟨_, rfl, ?_⟩; replace hb_ := Drawn0.below hb_; replace HS := Aside0.mk (HS.out.below hb_); replace HK := Aside0.mk (HK.out.trans (Keep.below hb_))))
    go_ret
    unfold barrowlaw38_ChatCleans.Post
    exact ⟨by first | rfl | (simp; done) | (simp [*]; done), HS.out, HK.out⟩
theorem barrowlaw38_ChatCleans.calls (k : Nat) (a0 : ByteArray) (A1 : Option Addr) (c1 : Nat) (l1 : List ByteArray) (r : Bool) (w : World) (hr1 : Kd.C Kd.string w A1 l1.length l1) (hc1 : l1.length ≤ c1) (h : barrowlaw38_ChatCleans.f k a0 l1 = some r) :
    Calls Try.prog 5 #[.string a0, .slice A1 l1.length c1] w fun e w' => e = .returned (.bool r) ∧ Below w.heap.size w w' :=
  (barrowlaw38_ChatCleans.slcalls k a0 A1 c1 l1 r (news w) [] w (fresh_news w) trivial (RO.top hr1) hc1 h).mono fun _ _ h => ⟨h.1, h.2.2.to_below⟩

/-- THE ONE PURE STATEMENT of barrowlaw38_ChatCleans. -/
noncomputable def barrowlaw38_ChatCleans.Pure : Prop := ∀ (a0 : ByteArray) (l1 : List ByteArray), (a0.size ≤ 140737488351232) → (l1.length ≤ maxLen ∧ l1.length * 16 ≤ 140737488351232 ∧ ∀ x317_ ∈ l1, x317_.size ≤ 140737488351232) → ∃ k, barrowlaw38_ChatCleans.f k a0 l1 = some true

end Go.Proofs.Ytdpeflbdoaccbaa.XCL
