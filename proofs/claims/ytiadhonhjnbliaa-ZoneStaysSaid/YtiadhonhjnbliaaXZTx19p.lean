-- Written by xprint.py (a program of this session) for this claim
import Derived.Test.YtiadhonhjnbliaaSL5
import Derived.Test.YtiadhonhjnbliaaSL4
import Derived.Test.YtiadhonhjnbliaaXZTx0
import Derived.Test.YtiadhonhjnbliaaXZTx7
import Derived.Test.YtiadhonhjnbliaaXZTx9
import Derived.Test.YtiadhonhjnbliaaXZTx11
import Derived.Test.YtiadhonhjnbliaaXZTx12
import Derived.Test.YtiadhonhjnbliaaXZTx14
import Derived.Test.YtiadhonhjnbliaaXZTx15
import Derived.Test.YtiadhonhjnbliaaXZTx16
import Derived.Test.YtiadhonhjnbliaaXZTx18
namespace Go.Proofs.Ytiadhonhjnbliaa.XZT
open Go.Proofs.YtiadhonhjnbliaaV Go.Proofs.YtiadhonhjnbliaaS
open Go.RowKit Go.Proofs.YtiadhonhjnbliaaW.PrintWords Go.Proofs.YtiadhonhjnbliaaW.PrintLast Go.Proofs.YtiadhonhjnbliaaW.PrintMore
attribute [local go_sem] max2_int min2_int max_two min_two max_three min_three max_four min_four   -- for this text's walks alone
set_option linter.unusedVariables false
set_option linter.unusedSimpArgs false

/-! ### barrowlaw33_ZoneStays: function 6 -/
mutual
def barrowlaw33_ZoneStays.l899 : Nat → (List (S44)) → Int → Bool → (List (S37)) → Option (Bool)
  | 0, _, _, _, _ => none
  | k + 1, l2, a3, t539, t542 => (zone_Tick.f k t542 l2 a3).bind fun bt573 => (barrowlaw33_ZoneStays.l0 k l2 0 t539 t542 bt573.1 bt573.2)
def barrowlaw33_ZoneStays.l0 : Nat → (List (S44)) → Int → Bool → (List (S37)) → (List (S37)) → (List (S56)) → Option (Bool)
  | 0, _, _, _, _, _, _ => none
  | k + 1, l2, x23_0, t539, t542, t573, t574 => if x23_0 < (t574.length : Int) then (barrowlaw33_ZoneStays.l1 k l2 x23_0 false 0 t539 t542 t573 t574) else (if t539 = true then ((zone_Right.f k t573).bind fun t584 => (if t584 = true then (if (t573.length : Int) ≤ (t542.length : Int) then (some true) else (none)) else (none))) else (none))
def barrowlaw33_ZoneStays.l1 : Nat → (List (S44)) → Int → Bool → Int → Bool → (List (S37)) → (List (S37)) → (List (S56)) → Option (Bool)
  | 0, _, _, _, _, _, _, _, _ => none
  | k + 1, l2, x23_0, x24_1, x25_1, t539, t542, t573, t574 => if x25_1 < (t542.length : Int) then (barrowlaw33_ZoneStays.l2 k l2 x23_0 x25_1 x24_1 0 t539 t542 t573 t574) else (if x24_1 = true then (barrowlaw33_ZoneStays.l0 k l2 (wrap64 (x23_0 + 1)) t539 t542 t573 t574) else (none))
def barrowlaw33_ZoneStays.l2 : Nat → (List (S44)) → Int → Int → Bool → Int → Bool → (List (S37)) → (List (S37)) → (List (S56)) → Option (Bool)
  | 0, _, _, _, _, _, _, _, _, _ => none
  | k + 1, l2, x23_0, x25_1, x24_2, x26_2, t539, t542, t573, t574 => if x26_2 < (l2.length : Int) then (if x24_2 = true then (barrowlaw33_ZoneStays.l2 k l2 x23_0 x25_1 true (wrap64 (x26_2 + 1)) t539 t542 t573 t574) else (if 0 ≤ x25_1 then (if x25_1 < (t542.length : Int) then (if 0 ≤ x23_0 then (if x23_0 < (t574.length : Int) then (if ((rd_T37 t542 x25_1).f0) = ((rd_T56 t574 x23_0).f0) then (if 0 ≤ x26_2 then (if ((rd_T44 l2 x26_2).f0) = ((rd_T56 t574 x23_0).f1) then ((area_In.f k ((rd_T37 t542 x25_1).f1.f0) ((rd_T37 t542 x25_1).f1.f1.f0) ((rd_T37 t542 x25_1).f1.f1.f1) ((rd_T37 t542 x25_1).f1.f2.f0) ((rd_T37 t542 x25_1).f1.f2.f1) ((rd_T37 t542 x25_1).f1.f3) ((rd_T37 t542 x25_1).f1.f4) ((rd_T44 l2 x26_2).f7.f0) ((rd_T44 l2 x26_2).f7.f1)).bind fun t582 => (if t582 = true then (barrowlaw33_ZoneStays.l2 k l2 x23_0 x25_1 (decide (((rd_T44 l2 x26_2).f3) > 0)) (wrap64 (x26_2 + 1)) t539 t542 t573 t574) else (barrowlaw33_ZoneStays.l2 k l2 x23_0 x25_1 false (wrap64 (x26_2 + 1)) t539 t542 t573 t574))) else (barrowlaw33_ZoneStays.l2 k l2 x23_0 x25_1 false (wrap64 (x26_2 + 1)) t539 t542 t573 t574)) else (none)) else (barrowlaw33_ZoneStays.l2 k l2 x23_0 x25_1 false (wrap64 (x26_2 + 1)) t539 t542 t573 t574)) else (none)) else (none)) else (none)) else (none))) else (barrowlaw33_ZoneStays.l1 k l2 x23_0 x24_2 (wrap64 (x25_1 + 1)) t539 t542 t573 t574)
def barrowlaw33_ZoneStays.l100 : Nat → (List (S37)) → (List (S44)) → Int → Bool → (List (S37)) → (List (S56)) → Option (Bool)
  | 0, _, _, _, _, _, _ => none
  | k + 1, l0, l2, x23_100, t539, t585, t586 => if x23_100 < (t586.length : Int) then (barrowlaw33_ZoneStays.l101 k l0 l2 x23_100 false 0 t539 t585 t586) else (if t539 = true then ((zone_Right.f k t585).bind fun t596 => (if t596 = true then (if (t585.length : Int) ≤ (l0.length : Int) then (some true) else (none)) else (none))) else (none))
def barrowlaw33_ZoneStays.l101 : Nat → (List (S37)) → (List (S44)) → Int → Bool → Int → Bool → (List (S37)) → (List (S56)) → Option (Bool)
  | 0, _, _, _, _, _, _, _, _ => none
  | k + 1, l0, l2, x23_100, x24_101, x25_101, t539, t585, t586 => if x25_101 < (l0.length : Int) then (barrowlaw33_ZoneStays.l102 k l0 l2 x23_100 x25_101 t539 t585 t586 x24_101 0) else (if x24_101 = true then (barrowlaw33_ZoneStays.l100 k l0 l2 (wrap64 (x23_100 + 1)) t539 t585 t586) else (none))
def barrowlaw33_ZoneStays.l102 : Nat → (List (S37)) → (List (S44)) → Int → Int → Bool → (List (S37)) → (List (S56)) → Bool → Int → Option (Bool)
  | 0, _, _, _, _, _, _, _, _, _ => none
  | k + 1, l0, l2, x23_100, x25_101, t539, t585, t586, x24_102, x26_102 => if x26_102 < (l2.length : Int) then (if x24_102 = true then (barrowlaw33_ZoneStays.l102 k l0 l2 x23_100 x25_101 t539 t585 t586 true (wrap64 (x26_102 + 1))) else (if 0 ≤ x25_101 then (if x25_101 < (l0.length : Int) then (if 0 ≤ x23_100 then (if x23_100 < (t586.length : Int) then (if ((rd_T37 l0 x25_101).f0) = ((rd_T56 t586 x23_100).f0) then (if 0 ≤ x26_102 then (if ((rd_T44 l2 x26_102).f0) = ((rd_T56 t586 x23_100).f1) then ((area_In.f k ((rd_T37 l0 x25_101).f1.f0) ((rd_T37 l0 x25_101).f1.f1.f0) ((rd_T37 l0 x25_101).f1.f1.f1) ((rd_T37 l0 x25_101).f1.f2.f0) ((rd_T37 l0 x25_101).f1.f2.f1) ((rd_T37 l0 x25_101).f1.f3) ((rd_T37 l0 x25_101).f1.f4) ((rd_T44 l2 x26_102).f7.f0) ((rd_T44 l2 x26_102).f7.f1)).bind fun t594 => (if t594 = true then (barrowlaw33_ZoneStays.l102 k l0 l2 x23_100 x25_101 t539 t585 t586 (decide (((rd_T44 l2 x26_102).f3) > 0)) (wrap64 (x26_102 + 1))) else (barrowlaw33_ZoneStays.l102 k l0 l2 x23_100 x25_101 t539 t585 t586 false (wrap64 (x26_102 + 1))))) else (barrowlaw33_ZoneStays.l102 k l0 l2 x23_100 x25_101 t539 t585 t586 false (wrap64 (x26_102 + 1)))) else (none)) else (barrowlaw33_ZoneStays.l102 k l0 l2 x23_100 x25_101 t539 t585 t586 false (wrap64 (x26_102 + 1)))) else (none)) else (none)) else (none)) else (none))) else (barrowlaw33_ZoneStays.l101 k l0 l2 x23_100 x24_102 (wrap64 (x25_101 + 1)) t539 t585 t586)
end
def barrowlaw33_ZoneStays.f (k : Nat) (l0 : List (S37)) (a1_0 : Int) (a1_1 : Int) (a1_2 : Int) (a1_3 : Int) (a1_4 : Int) (a1_5 : Int) (a1_6 : Int) (a1_7 : Int) (a1_8 : Int) (a1_9 : Int) (a1_10 : Int) (a1_11 : Int) (a1_12 : Int) (a1_13 : Int) (a1_14 : Int) (a1_15 : Int) (l2 : List (S44)) (a3 : Int) (a4_0 : Int) (a4_1 : Int) : Option (Bool) := (barrowlaw33_small.f k).bind fun t539 => (if (l0.length : Int) > 60 then (some t539) else (if (l2.length : Int) > 60 then (some t539) else ((zone_Right.f k l0).bind fun t541 => (if t541 = true then ((zone_Add.f k l0 a1_0 a1_1 a1_2 a1_3 a1_4 a1_5 a1_6 a1_7 a1_8 a1_9 a1_10 a1_11 a1_12 a1_13 a1_14 a1_15 a3 5).bind fun bt542 => (if bt542.2.2 = 0 then ((zone_Drop.f k bt542.1 bt542.2.1).bind fun bt559 => ((zone_Right.f k bt542.1).bind fun t563 => (if t563 = true then (if bt559.2 = true then ((barrowref33_Same.f k bt559.1 l0).bind fun t564 => (if t564 = true then ((zone_Shift.f k bt542.1 bt542.2.1 a4_0 a4_1).bind fun bt565 => (if bt565.2 = 0 then ((zone_Shift.f k bt565.1 bt542.2.1 a1_2 a1_3).bind fun bt567 => ((zone_Right.f k bt565.1).bind fun t571 => (if t571 = true then (if bt567.2 = 0 then ((barrowref33_Same.f k bt567.1 bt542.1).bind fun t572 => (if t572 = true then (barrowlaw33_ZoneStays.l899 k l2 a3 t539 bt542.1) else (none))) else (none)) else (none)))) else (barrowlaw33_ZoneStays.l899 k l2 a3 t539 bt542.1))) else (none))) else (none)) else (none)))) else ((zone_Tick.f k l0 l2 a3).bind fun bt585 => (barrowlaw33_ZoneStays.l100 k l0 l2 0 t539 bt585.1 bt585.2)))) else (some t539)))))
theorem barrowlaw33_ZoneStays.mono_l : ∀ k, (∀ y0 y1 y2 y3, LeO (barrowlaw33_ZoneStays.l899 k y0 y1 y2 y3) (barrowlaw33_ZoneStays.l899 (k + 1) y0 y1 y2 y3)) ∧ (∀ y0 y1 y2 y3 y4 y5, LeO (barrowlaw33_ZoneStays.l0 k y0 y1 y2 y3 y4 y5) (barrowlaw33_ZoneStays.l0 (k + 1) y0 y1 y2 y3 y4 y5)) ∧ (∀ y0 y1 y2 y3 y4 y5 y6 y7, LeO (barrowlaw33_ZoneStays.l1 k y0 y1 y2 y3 y4 y5 y6 y7) (barrowlaw33_ZoneStays.l1 (k + 1) y0 y1 y2 y3 y4 y5 y6 y7)) ∧ (∀ y0 y1 y2 y3 y4 y5 y6 y7 y8, LeO (barrowlaw33_ZoneStays.l2 k y0 y1 y2 y3 y4 y5 y6 y7 y8) (barrowlaw33_ZoneStays.l2 (k + 1) y0 y1 y2 y3 y4 y5 y6 y7 y8)) ∧ (∀ y0 y1 y2 y3 y4 y5, LeO (barrowlaw33_ZoneStays.l100 k y0 y1 y2 y3 y4 y5) (barrowlaw33_ZoneStays.l100 (k + 1) y0 y1 y2 y3 y4 y5)) ∧ (∀ y0 y1 y2 y3 y4 y5 y6 y7, LeO (barrowlaw33_ZoneStays.l101 k y0 y1 y2 y3 y4 y5 y6 y7) (barrowlaw33_ZoneStays.l101 (k + 1) y0 y1 y2 y3 y4 y5 y6 y7)) ∧ (∀ y0 y1 y2 y3 y4 y5 y6 y7 y8, LeO (barrowlaw33_ZoneStays.l102 k y0 y1 y2 y3 y4 y5 y6 y7 y8) (barrowlaw33_ZoneStays.l102 (k + 1) y0 y1 y2 y3 y4 y5 y6 y7 y8))
  | 0 => ⟨fun _ _ _ _ r h => by simp [barrowlaw33_ZoneStays.l899] at h, fun _ _ _ _ _ _ r h => by simp [barrowlaw33_ZoneStays.l0] at h, fun _ _ _ _ _ _ _ _ r h => by simp [barrowlaw33_ZoneStays.l1] at h, fun _ _ _ _ _ _ _ _ _ r h => by simp [barrowlaw33_ZoneStays.l2] at h, fun _ _ _ _ _ _ r h => by simp [barrowlaw33_ZoneStays.l100] at h, fun _ _ _ _ _ _ _ _ r h => by simp [barrowlaw33_ZoneStays.l101] at h, fun _ _ _ _ _ _ _ _ _ r h => by simp [barrowlaw33_ZoneStays.l102] at h⟩
  | k + 1 => by
    obtain ⟨ih0, ih1, ih2, ih3, ih4, ih5, ih6⟩ := barrowlaw33_ZoneStays.mono_l k
    refine ⟨?_, ?_, ?_, ?_, ?_, ?_, ?_⟩
    · intro y0 y1 y2 y3
      unfold barrowlaw33_ZoneStays.l899
      repeat' first
      | (with_reducible exact ih0 _ _ _ _)
      | (with_reducible exact ih1 _ _ _ _ _ _)
      | (with_reducible exact ih2 _ _ _ _ _ _ _ _)
      | (with_reducible exact ih3 _ _ _ _ _ _ _ _ _)
      | (with_reducible exact ih4 _ _ _ _ _ _)
      | (with_reducible exact ih5 _ _ _ _ _ _ _ _)
      | (with_reducible exact ih6 _ _ _ _ _ _ _ _ _)
      | (with_reducible exact area_In.mono _ _ _ _ _ _ _ _ _ _)
      | (with_reducible exact barrowlaw33_small.mono _)
      | (with_reducible exact barrowref33_Same.mono _ _ _)
      | (with_reducible exact zone_Add.mono _ _ _ _ _ _ _ _ _ _ _ _ _ _ _ _ _ _ _ _)
      | (with_reducible exact zone_Drop.mono _ _ _)
      | (with_reducible exact zone_Right.mono _ _)
      | (with_reducible exact zone_Shift.mono _ _ _ _ _)
      | (with_reducible exact zone_Tick.mono _ _ _ _)
      | (with_reducible exact LeO.refl _)
      | (with_reducible exact LeO.none _)
      | (with_reducible refine LeO.ite ?_ ?_)
      | (with_reducible refine everyOf_le (fun _ => ?_))
      | (with_reducible refine LeO.bind ?_ (fun _ => ?_))
      | exact ih0 _ _ _ _
      | exact ih1 _ _ _ _ _ _
      | exact ih2 _ _ _ _ _ _ _ _
      | exact ih3 _ _ _ _ _ _ _ _ _
      | exact ih4 _ _ _ _ _ _
      | exact ih5 _ _ _ _ _ _ _ _
      | exact ih6 _ _ _ _ _ _ _ _ _
      | exact area_In.mono _ _ _ _ _ _ _ _ _ _
      | exact barrowlaw33_small.mono _
      | exact barrowref33_Same.mono _ _ _
      | exact zone_Add.mono _ _ _ _ _ _ _ _ _ _ _ _ _ _ _ _ _ _ _ _
      | exact zone_Drop.mono _ _ _
      | exact zone_Right.mono _ _
      | exact zone_Shift.mono _ _ _ _ _
      | exact zone_Tick.mono _ _ _ _
      | exact LeO.none _
      | refine LeO.ite ?_ ?_
      | refine LeO.bind ?_ (fun _ => ?_)
    · intro y0 y1 y2 y3 y4 y5
      unfold barrowlaw33_ZoneStays.l0
      repeat' first
      | (with_reducible exact ih0 _ _ _ _)
      | (with_reducible exact ih1 _ _ _ _ _ _)
      | (with_reducible exact ih2 _ _ _ _ _ _ _ _)
      | (with_reducible exact ih3 _ _ _ _ _ _ _ _ _)
      | (with_reducible exact ih4 _ _ _ _ _ _)
      | (with_reducible exact ih5 _ _ _ _ _ _ _ _)
      | (with_reducible exact ih6 _ _ _ _ _ _ _ _ _)
      | (with_reducible exact area_In.mono _ _ _ _ _ _ _ _ _ _)
      | (with_reducible exact barrowlaw33_small.mono _)
      | (with_reducible exact barrowref33_Same.mono _ _ _)
      | (with_reducible exact zone_Add.mono _ _ _ _ _ _ _ _ _ _ _ _ _ _ _ _ _ _ _ _)
      | (with_reducible exact zone_Drop.mono _ _ _)
      | (with_reducible exact zone_Right.mono _ _)
      | (with_reducible exact zone_Shift.mono _ _ _ _ _)
      | (with_reducible exact zone_Tick.mono _ _ _ _)
      | (with_reducible exact LeO.refl _)
      | (with_reducible exact LeO.none _)
      | (with_reducible refine LeO.ite ?_ ?_)
      | (with_reducible refine everyOf_le (fun _ => ?_))
      | (with_reducible refine LeO.bind ?_ (fun _ => ?_))
      | exact ih0 _ _ _ _
      | exact ih1 _ _ _ _ _ _
      | exact ih2 _ _ _ _ _ _ _ _
      | exact ih3 _ _ _ _ _ _ _ _ _
      | exact ih4 _ _ _ _ _ _
      | exact ih5 _ _ _ _ _ _ _ _
      | exact ih6 _ _ _ _ _ _ _ _ _
      | exact area_In.mono _ _ _ _ _ _ _ _ _ _
      | exact barrowlaw33_small.mono _
      | exact barrowref33_Same.mono _ _ _
      | exact zone_Add.mono _ _ _ _ _ _ _ _ _ _ _ _ _ _ _ _ _ _ _ _
      | exact zone_Drop.mono _ _ _
      | exact zone_Right.mono _ _
      | exact zone_Shift.mono _ _ _ _ _
      | exact zone_Tick.mono _ _ _ _
      | exact LeO.none _
      | refine LeO.ite ?_ ?_
      | refine LeO.bind ?_ (fun _ => ?_)
    · intro y0 y1 y2 y3 y4 y5 y6 y7
      unfold barrowlaw33_ZoneStays.l1
      repeat' first
      | (with_reducible exact ih0 _ _ _ _)
      | (with_reducible exact ih1 _ _ _ _ _ _)
      | (with_reducible exact ih2 _ _ _ _ _ _ _ _)
      | (with_reducible exact ih3 _ _ _ _ _ _ _ _ _)
      | (with_reducible exact ih4 _ _ _ _ _ _)
      | (with_reducible exact ih5 _ _ _ _ _ _ _ _)
      | (with_reducible exact ih6 _ _ _ _ _ _ _ _ _)
      | (with_reducible exact area_In.mono _ _ _ _ _ _ _ _ _ _)
      | (with_reducible exact barrowlaw33_small.mono _)
      | (with_reducible exact barrowref33_Same.mono _ _ _)
      | (with_reducible exact zone_Add.mono _ _ _ _ _ _ _ _ _ _ _ _ _ _ _ _ _ _ _ _)
      | (with_reducible exact zone_Drop.mono _ _ _)
      | (with_reducible exact zone_Right.mono _ _)
      | (with_reducible exact zone_Shift.mono _ _ _ _ _)
      | (with_reducible exact zone_Tick.mono _ _ _ _)
      | (with_reducible exact LeO.refl _)
      | (with_reducible exact LeO.none _)
      | (with_reducible refine LeO.ite ?_ ?_)
      | (with_reducible refine everyOf_le (fun _ => ?_))
      | (with_reducible refine LeO.bind ?_ (fun _ => ?_))
      | exact ih0 _ _ _ _
      | exact ih1 _ _ _ _ _ _
      | exact ih2 _ _ _ _ _ _ _ _
      | exact ih3 _ _ _ _ _ _ _ _ _
      | exact ih4 _ _ _ _ _ _
      | exact ih5 _ _ _ _ _ _ _ _
      | exact ih6 _ _ _ _ _ _ _ _ _
      | exact area_In.mono _ _ _ _ _ _ _ _ _ _
      | exact barrowlaw33_small.mono _
      | exact barrowref33_Same.mono _ _ _
      | exact zone_Add.mono _ _ _ _ _ _ _ _ _ _ _ _ _ _ _ _ _ _ _ _
      | exact zone_Drop.mono _ _ _
      | exact zone_Right.mono _ _
      | exact zone_Shift.mono _ _ _ _ _
      | exact zone_Tick.mono _ _ _ _
      | exact LeO.none _
      | refine LeO.ite ?_ ?_
      | refine LeO.bind ?_ (fun _ => ?_)
    · intro y0 y1 y2 y3 y4 y5 y6 y7 y8
      unfold barrowlaw33_ZoneStays.l2
      repeat' first
      | (with_reducible exact ih0 _ _ _ _)
      | (with_reducible exact ih1 _ _ _ _ _ _)
      | (with_reducible exact ih2 _ _ _ _ _ _ _ _)
      | (with_reducible exact ih3 _ _ _ _ _ _ _ _ _)
      | (with_reducible exact ih4 _ _ _ _ _ _)
      | (with_reducible exact ih5 _ _ _ _ _ _ _ _)
      | (with_reducible exact ih6 _ _ _ _ _ _ _ _ _)
      | (with_reducible exact area_In.mono _ _ _ _ _ _ _ _ _ _)
      | (with_reducible exact barrowlaw33_small.mono _)
      | (with_reducible exact barrowref33_Same.mono _ _ _)
      | (with_reducible exact zone_Add.mono _ _ _ _ _ _ _ _ _ _ _ _ _ _ _ _ _ _ _ _)
      | (with_reducible exact zone_Drop.mono _ _ _)
      | (with_reducible exact zone_Right.mono _ _)
      | (with_reducible exact zone_Shift.mono _ _ _ _ _)
      | (with_reducible exact zone_Tick.mono _ _ _ _)
      | (with_reducible exact LeO.refl _)
      | (with_reducible exact LeO.none _)
      | (with_reducible refine LeO.ite ?_ ?_)
      | (with_reducible refine everyOf_le (fun _ => ?_))
      | (with_reducible refine LeO.bind ?_ (fun _ => ?_))
      | exact ih0 _ _ _ _
      | exact ih1 _ _ _ _ _ _
      | exact ih2 _ _ _ _ _ _ _ _
      | exact ih3 _ _ _ _ _ _ _ _ _
      | exact ih4 _ _ _ _ _ _
      | exact ih5 _ _ _ _ _ _ _ _
      | exact ih6 _ _ _ _ _ _ _ _ _
      | exact area_In.mono _ _ _ _ _ _ _ _ _ _
      | exact barrowlaw33_small.mono _
      | exact barrowref33_Same.mono _ _ _
      | exact zone_Add.mono _ _ _ _ _ _ _ _ _ _ _ _ _ _ _ _ _ _ _ _
      | exact zone_Drop.mono _ _ _
      | exact zone_Right.mono _ _
      | exact zone_Shift.mono _ _ _ _ _
      | exact zone_Tick.mono _ _ _ _
      | exact LeO.none _
      | refine LeO.ite ?_ ?_
      | refine LeO.bind ?_ (fun _ => ?_)
    · intro y0 y1 y2 y3 y4 y5
      unfold barrowlaw33_ZoneStays.l100
      repeat' first
      | (with_reducible exact ih0 _ _ _ _)
      | (with_reducible exact ih1 _ _ _ _ _ _)
      | (with_reducible exact ih2 _ _ _ _ _ _ _ _)
      | (with_reducible exact ih3 _ _ _ _ _ _ _ _ _)
      | (with_reducible exact ih4 _ _ _ _ _ _)
      | (with_reducible exact ih5 _ _ _ _ _ _ _ _)
      | (with_reducible exact ih6 _ _ _ _ _ _ _ _ _)
      | (with_reducible exact area_In.mono _ _ _ _ _ _ _ _ _ _)
      | (with_reducible exact barrowlaw33_small.mono _)
      | (with_reducible exact barrowref33_Same.mono _ _ _)
      | (with_reducible exact zone_Add.mono _ _ _ _ _ _ _ _ _ _ _ _ _ _ _ _ _ _ _ _)
      | (with_reducible exact zone_Drop.mono _ _ _)
      | (with_reducible exact zone_Right.mono _ _)
      | (with_reducible exact zone_Shift.mono _ _ _ _ _)
      | (with_reducible exact zone_Tick.mono _ _ _ _)
      | (with_reducible exact LeO.refl _)
      | (with_reducible exact LeO.none _)
      | (with_reducible refine LeO.ite ?_ ?_)
      | (with_reducible refine everyOf_le (fun _ => ?_))
      | (with_reducible refine LeO.bind ?_ (fun _ => ?_))
      | exact ih0 _ _ _ _
      | exact ih1 _ _ _ _ _ _
      | exact ih2 _ _ _ _ _ _ _ _
      | exact ih3 _ _ _ _ _ _ _ _ _
      | exact ih4 _ _ _ _ _ _
      | exact ih5 _ _ _ _ _ _ _ _
      | exact ih6 _ _ _ _ _ _ _ _ _
      | exact area_In.mono _ _ _ _ _ _ _ _ _ _
      | exact barrowlaw33_small.mono _
      | exact barrowref33_Same.mono _ _ _
      | exact zone_Add.mono _ _ _ _ _ _ _ _ _ _ _ _ _ _ _ _ _ _ _ _
      | exact zone_Drop.mono _ _ _
      | exact zone_Right.mono _ _
      | exact zone_Shift.mono _ _ _ _ _
      | exact zone_Tick.mono _ _ _ _
      | exact LeO.none _
      | refine LeO.ite ?_ ?_
      | refine LeO.bind ?_ (fun _ => ?_)
    · intro y0 y1 y2 y3 y4 y5 y6 y7
      unfold barrowlaw33_ZoneStays.l101
      repeat' first
      | (with_reducible exact ih0 _ _ _ _)
      | (with_reducible exact ih1 _ _ _ _ _ _)
      | (with_reducible exact ih2 _ _ _ _ _ _ _ _)
      | (with_reducible exact ih3 _ _ _ _ _ _ _ _ _)
      | (with_reducible exact ih4 _ _ _ _ _ _)
      | (with_reducible exact ih5 _ _ _ _ _ _ _ _)
      | (with_reducible exact ih6 _ _ _ _ _ _ _ _ _)
      | (with_reducible exact area_In.mono _ _ _ _ _ _ _ _ _ _)
      | (with_reducible exact barrowlaw33_small.mono _)
      | (with_reducible exact barrowref33_Same.mono _ _ _)
      | (with_reducible exact zone_Add.mono _ _ _ _ _ _ _ _ _ _ _ _ _ _ _ _ _ _ _ _)
      | (with_reducible exact zone_Drop.mono _ _ _)
      | (with_reducible exact zone_Right.mono _ _)
      | (with_reducible exact zone_Shift.mono _ _ _ _ _)
      | (with_reducible exact zone_Tick.mono _ _ _ _)
      | (with_reducible exact LeO.refl _)
      | (with_reducible exact LeO.none _)
      | (with_reducible refine LeO.ite ?_ ?_)
      | (with_reducible refine everyOf_le (fun _ => ?_))
      | (with_reducible refine LeO.bind ?_ (fun _ => ?_))
      | exact ih0 _ _ _ _
      | exact ih1 _ _ _ _ _ _
      | exact ih2 _ _ _ _ _ _ _ _
      | exact ih3 _ _ _ _ _ _ _ _ _
      | exact ih4 _ _ _ _ _ _
      | exact ih5 _ _ _ _ _ _ _ _
      | exact ih6 _ _ _ _ _ _ _ _ _
      | exact area_In.mono _ _ _ _ _ _ _ _ _ _
      | exact barrowlaw33_small.mono _
      | exact barrowref33_Same.mono _ _ _
      | exact zone_Add.mono _ _ _ _ _ _ _ _ _ _ _ _ _ _ _ _ _ _ _ _
      | exact zone_Drop.mono _ _ _
      | exact zone_Right.mono _ _
      | exact zone_Shift.mono _ _ _ _ _
      | exact zone_Tick.mono _ _ _ _
      | exact LeO.none _
      | refine LeO.ite ?_ ?_
      | refine LeO.bind ?_ (fun _ => ?_)
    · intro y0 y1 y2 y3 y4 y5 y6 y7 y8
      unfold barrowlaw33_ZoneStays.l102
      repeat' first
      | (with_reducible exact ih0 _ _ _ _)
      | (with_reducible exact ih1 _ _ _ _ _ _)
      | (with_reducible exact ih2 _ _ _ _ _ _ _ _)
      | (with_reducible exact ih3 _ _ _ _ _ _ _ _ _)
      | (with_reducible exact ih4 _ _ _ _ _ _)
      | (with_reducible exact ih5 _ _ _ _ _ _ _ _)
      | (with_reducible exact ih6 _ _ _ _ _ _ _ _ _)
      | (with_reducible exact area_In.mono _ _ _ _ _ _ _ _ _ _)
      | (with_reducible exact barrowlaw33_small.mono _)
      | (with_reducible exact barrowref33_Same.mono _ _ _)
      | (with_reducible exact zone_Add.mono _ _ _ _ _ _ _ _ _ _ _ _ _ _ _ _ _ _ _ _)
      | (with_reducible exact zone_Drop.mono _ _ _)
      | (with_reducible exact zone_Right.mono _ _)
      | (with_reducible exact zone_Shift.mono _ _ _ _ _)
      | (with_reducible exact zone_Tick.mono _ _ _ _)
      | (with_reducible exact LeO.refl _)
      | (with_reducible exact LeO.none _)
      | (with_reducible refine LeO.ite ?_ ?_)
      | (with_reducible refine everyOf_le (fun _ => ?_))
      | (with_reducible refine LeO.bind ?_ (fun _ => ?_))
      | exact ih0 _ _ _ _
      | exact ih1 _ _ _ _ _ _
      | exact ih2 _ _ _ _ _ _ _ _
      | exact ih3 _ _ _ _ _ _ _ _ _
      | exact ih4 _ _ _ _ _ _
      | exact ih5 _ _ _ _ _ _ _ _
      | exact ih6 _ _ _ _ _ _ _ _ _
      | exact area_In.mono _ _ _ _ _ _ _ _ _ _
      | exact barrowlaw33_small.mono _
      | exact barrowref33_Same.mono _ _ _
      | exact zone_Add.mono _ _ _ _ _ _ _ _ _ _ _ _ _ _ _ _ _ _ _ _
      | exact zone_Drop.mono _ _ _
      | exact zone_Right.mono _ _
      | exact zone_Shift.mono _ _ _ _ _
      | exact zone_Tick.mono _ _ _ _
      | exact LeO.none _
      | refine LeO.ite ?_ ?_
      | refine LeO.bind ?_ (fun _ => ?_)
theorem barrowlaw33_ZoneStays.mono : ∀ a0 a1 a2 a3 a4 a5 a6 a7 a8 a9 a10 a11 a12 a13 a14 a15 a16 a17 a18 a19 a20 k, LeO (barrowlaw33_ZoneStays.f k a0 a1 a2 a3 a4 a5 a6 a7 a8 a9 a10 a11 a12 a13 a14 a15 a16 a17 a18 a19 a20) (barrowlaw33_ZoneStays.f (k + 1) a0 a1 a2 a3 a4 a5 a6 a7 a8 a9 a10 a11 a12 a13 a14 a15 a16 a17 a18 a19 a20) := by
  intro a0 a1 a2 a3 a4 a5 a6 a7 a8 a9 a10 a11 a12 a13 a14 a15 a16 a17 a18 a19 a20 k
  obtain ⟨ih0, ih1, ih2, ih3, ih4, ih5, ih6⟩ := barrowlaw33_ZoneStays.mono_l k
  unfold barrowlaw33_ZoneStays.f
  repeat' first
      | (with_reducible exact ih0 _ _ _ _)
      | (with_reducible exact ih1 _ _ _ _ _ _)
      | (with_reducible exact ih2 _ _ _ _ _ _ _ _)
      | (with_reducible exact ih3 _ _ _ _ _ _ _ _ _)
      | (with_reducible exact ih4 _ _ _ _ _ _)
      | (with_reducible exact ih5 _ _ _ _ _ _ _ _)
      | (with_reducible exact ih6 _ _ _ _ _ _ _ _ _)
      | (with_reducible exact area_In.mono _ _ _ _ _ _ _ _ _ _)
      | (with_reducible exact barrowlaw33_small.mono _)
      | (with_reducible exact barrowref33_Same.mono _ _ _)
      | (with_reducible exact zone_Add.mono _ _ _ _ _ _ _ _ _ _ _ _ _ _ _ _ _ _ _ _)
      | (with_reducible exact zone_Drop.mono _ _ _)
      | (with_reducible exact zone_Right.mono _ _)
      | (with_reducible exact zone_Shift.mono _ _ _ _ _)
      | (with_reducible exact zone_Tick.mono _ _ _ _)
      | (with_reducible exact LeO.refl _)
      | (with_reducible exact LeO.none _)
      | (with_reducible refine LeO.ite ?_ ?_)
      | (with_reducible refine everyOf_le (fun _ => ?_))
      | (with_reducible refine LeO.bind ?_ (fun _ => ?_))
      | exact ih0 _ _ _ _
      | exact ih1 _ _ _ _ _ _
      | exact ih2 _ _ _ _ _ _ _ _
      | exact ih3 _ _ _ _ _ _ _ _ _
      | exact ih4 _ _ _ _ _ _
      | exact ih5 _ _ _ _ _ _ _ _
      | exact ih6 _ _ _ _ _ _ _ _ _
      | exact area_In.mono _ _ _ _ _ _ _ _ _ _
      | exact barrowlaw33_small.mono _
      | exact barrowref33_Same.mono _ _ _
      | exact zone_Add.mono _ _ _ _ _ _ _ _ _ _ _ _ _ _ _ _ _ _ _ _
      | exact zone_Drop.mono _ _ _
      | exact zone_Right.mono _ _
      | exact zone_Shift.mono _ _ _ _ _
      | exact zone_Tick.mono _ _ _ _
      | exact LeO.none _
      | refine LeO.ite ?_ ?_
      | refine LeO.bind ?_ (fun _ => ?_)
def barrowlaw33_ZoneStays.T26 : Bool × List (List Nat × List Nat) := (true, [([], []), ([0], [0]), ([1], [1]), ([1], [1]), ([2, 3, 1], [1, 2, 3]), ([4, 1], [1, 4]), ([5, 1], [1, 5]), ([1], [1]), ([1], [1]), ([7, 8, 1], [1, 7, 8]), ([9, 1], [1, 9]), ([10, 1], [1, 10]), ([6, 11, 1], [1, 6, 11]), ([12, 1, 1], [1, 12]), ([13], [13]), ([13], [13]), ([14, 15, 13], [13, 14, 15]), ([16, 13], [13, 16]), ([17, 13], [13, 17]), ([13], [13]), ([13], [13]), ([19, 20, 13], [13, 19, 20]), ([21, 13], [13, 21]), ([22, 13], [13, 22]), ([18, 23, 13], [13, 18, 23]), ([13, 24, 1], [1, 13, 24]), ([25, 13, 1], [1, 25]), ([26], [26]), ([26], [26]), ([27, 28, 26], [26, 27, 28]), ([29, 26], [26, 29]), ([30, 26], [26, 30]), ([26], [26]), ([26], [26]), ([32, 33, 26], [26, 32, 33]), ([34, 26], [26, 34]), ([35, 26], [26, 35]), ([31, 36, 26, 26], [26, 31, 36]), ([26, 37, 1], [1, 26, 37]), ([38, 37, 1], [1, 38]), ([39], [39]), ([39], [39]), ([40, 41, 39], [39, 40, 41]), ([42, 39], [39, 42]), ([43, 39], [39, 43]), ([44, 39], [39, 44]), ([39, 45, 1], [1, 39, 45]), ([1, 46], [1, 46]), ([47, 39, 0, 1, 2, 3, 4, 5, 6, 7, 8, 9, 10, 11, 12, 13, 14, 15, 16, 17, 18, 19, 20, 21, 22, 23, 24, 25, 26, 27, 28, 29, 30, 31, 32, 33, 34, 35, 36, 37, 38, 39, 40, 41, 42, 43, 44, 45, 46, 47], [0, 47])])
def barrowlaw33_ZoneStays.B26 : List Nat := [0, 1, 3, 3, 15, 31, 63, 3, 3, 387, 899, 1923, 4095, 8191, 16383, 16383, 65535, 131071, 262143, 16383, 16383, 1589247, 3686399, 7880703, 16777215, 33554431, 67108863, 134217727, 134217727, 536870911, 1073741823, 2147483647, 134217727, 134217727, 13019119615, 30198988799, 64558727167, 137438953471, 274877906943, 549755813887, 1099511627775, 1099511627775, 4398046511103, 8796093022207, 17592186044415, 35184372088831, 70368744177663, 140737488355327, 281474976710655]
theorem barrowlaw33_ZoneStays.tab26 : rtab .any (opsOf Try.f6 26) = barrowlaw33_ZoneStays.T26 := by kernel_rfl
theorem barrowlaw33_ZoneStays.bits26 : waitsOk barrowlaw33_ZoneStays.T26.2 barrowlaw33_ZoneStays.B26 = true := by kernel_rfl
def barrowlaw33_ZoneStays.Post (r : Bool) (S : Nat → Prop) (L : List Asr) (w : World) (e : Ending) (w' : World) : Prop := e = .returned (.bool r) ∧ SL (L) w' S ∧ Keep S w w'

end Go.Proofs.Ytiadhonhjnbliaa.XZT
