-- Written by xprint.py (a program of this session) for this claim
import Derived.Test.YtiadhonhjnbliaaSq
import Derived.Test.YtiadhonhjnbliaaSL5
import Derived.Test.YtiadhonhjnbliaaSL4
import Derived.Test.YtiadhonhjnbliaaXZTx0
import Derived.Test.YtiadhonhjnbliaaXZTx11
import Derived.Test.YtiadhonhjnbliaaXZTx12
import Derived.Test.YtiadhonhjnbliaaXZTx13
import Derived.Test.YtiadhonhjnbliaaXZTx15
import Derived.Test.YtiadhonhjnbliaaXZTx20
import Derived.Test.YtiadhonhjnbliaaXZTx21
import Derived.Test.YtiadhonhjnbliaaXZTx23
import Derived.Test.YtiadhonhjnbliaaXZTx24
import Derived.Test.YtiadhonhjnbliaaXZTx25
import Derived.Test.YtiadhonhjnbliaaXZTx28
namespace Go.Proofs.Ytiadhonhjnbliaa.XZT
open Go.Proofs.YtiadhonhjnbliaaV Go.Proofs.YtiadhonhjnbliaaS
open Go.RowKit Go.Proofs.YtiadhonhjnbliaaW.PrintWords Go.Proofs.YtiadhonhjnbliaaW.PrintLast Go.Proofs.YtiadhonhjnbliaaW.PrintMore
attribute [local go_sem] max2_int min2_int max_two min_two max_three min_three max_four min_four   -- for this text's walks alone
set_option linter.unusedVariables false
set_option linter.unusedSimpArgs false

/-! ### barrowlaw33_ZoneTells: function 5 -/
mutual
def barrowlaw33_ZoneTells.l299 : Nat → (List (S37)) → Int → Bool → (List (S37)) → (List (S37)) → (List (S37)) → Bool → Option (Bool)
 | 0, _, _, _, _, _, _, _ => none
 | k + 1, l0, a1_14, t670, y672, t681, t685, x27_299 => barrowlaw33_ZoneTells.l0 k l0 a1_14 0 t681 t670 y672 t681 t685 x27_299
def barrowlaw33_ZoneTells.l0 : Nat → (List (S37)) → Int → Int → (List (S37)) → Bool → (List (S37)) → (List (S37)) → (List (S37)) → Bool → Option (Bool)
 | 0, _, _, _, _, _, _, _, _, _ => none
 | k + 1, l0, a1_14, x28_0, y3000082_0, t670, y672, t681, t685, x27_299 => if x28_0 < (t681.length : Int) then (if 0 ≤ x28_0 then ((some (y3000082_0.set (x28_0).toNat (⟨(-7), (⟨(rd_T37 y3000082_0 x28_0).f1.f0, (⟨(rd_T37 y3000082_0 x28_0).f1.f1.f0, (rd_T37 y3000082_0 x28_0).f1.f1.f1⟩ : S31), (⟨(rd_T37 y3000082_0 x28_0).f1.f2.f0, (rd_T37 y3000082_0 x28_0).f1.f2.f1⟩ : S31), (rd_T37 y3000082_0 x28_0).f1.f3, (rd_T37 y3000082_0 x28_0).f1.f4⟩ : S33), (rd_T37 y3000082_0 x28_0).f2, (rd_T37 y3000082_0 x28_0).f3, (rd_T37 y3000082_0 x28_0).f4, (⟨(rd_T37 y3000082_0 x28_0).f5.f0, (rd_T37 y3000082_0 x28_0).f5.f1, (rd_T37 y3000082_0 x28_0).f5.f2⟩ : S35), (rd_T37 y3000082_0 x28_0).f6, (rd_T37 y3000082_0 x28_0).f7⟩ : S37) : List (S37))).bind fun y693 => (barrowlaw33_ZoneTells.l0 k l0 a1_14 (wrap64 (x28_0 + 1)) y693 t670 y672 t681 t685 x27_299)) else (none)) else (barrowlaw33_ZoneTells.l1 k l0 a1_14 0 t685 t670 y672 t685 x27_299)
def barrowlaw33_ZoneTells.l1 : Nat → (List (S37)) → Int → Int → (List (S37)) → Bool → (List (S37)) → (List (S37)) → Bool → Option (Bool)
 | 0, _, _, _, _, _, _, _, _ => none
 | k + 1, l0, a1_14, x29_1, y3000084_1, t670, y672, t685, x27_299 => if x29_1 < (t685.length : Int) then (if 0 ≤ x29_1 then ((some (y3000084_1.set (x29_1).toNat (⟨(-7), (⟨(rd_T37 y3000084_1 x29_1).f1.f0, (⟨(rd_T37 y3000084_1 x29_1).f1.f1.f0, (rd_T37 y3000084_1 x29_1).f1.f1.f1⟩ : S31), (⟨(rd_T37 y3000084_1 x29_1).f1.f2.f0, (rd_T37 y3000084_1 x29_1).f1.f2.f1⟩ : S31), (rd_T37 y3000084_1 x29_1).f1.f3, (rd_T37 y3000084_1 x29_1).f1.f4⟩ : S33), (rd_T37 y3000084_1 x29_1).f2, (rd_T37 y3000084_1 x29_1).f3, (rd_T37 y3000084_1 x29_1).f4, (⟨(rd_T37 y3000084_1 x29_1).f5.f0, (rd_T37 y3000084_1 x29_1).f5.f1, (rd_T37 y3000084_1 x29_1).f5.f2⟩ : S35), (rd_T37 y3000084_1 x29_1).f6, (rd_T37 y3000084_1 x29_1).f7⟩ : S37) : List (S37))).bind fun y695 => (barrowlaw33_ZoneTells.l1 k l0 a1_14 (wrap64 (x29_1 + 1)) y695 t670 y672 t685 x27_299)) else (none)) else (if t670 = true then (if x27_299 = true then ((zone_Right.f k y672).bind fun t696 => ((barrowref33_Right.f k l0).bind fun t697 => (if (t696 == t697) = true then ((zone_Of.f k y672 a1_14).bind fun t698 => ((barrowref33_Of.f k l0 a1_14).bind fun t699 => ((barrowref02_Same.f k t698 t699).bind fun t700 => (if t700 = true then ((barrowref33_Same.f k y672 l0).bind fun t701 => (some t701)) else (none))))) else (none)))) else (none)) else (none))
end
def barrowlaw33_ZoneTells.f (k : Nat) (l0 : List (S37)) (a1_0 : Int) (a1_1 : Int) (a1_2 : Int) (a1_3 : Int) (a1_4 : Int) (a1_5 : Int) (a1_6 : Int) (a1_7 : Int) (a1_8 : Int) (a1_9 : Int) (a1_10 : Int) (a1_11 : Int) (a1_12 : Int) (a1_13 : Int) (a1_14 : Int) (a1_15 : Int) (a2 : Int) (a3 : Int) (a4_0 : Int) (a4_1 : Int) : Option (Bool) := (barrowlaw33_small.f k).bind fun t670 => (if (l0.length : Int) > 60 then (some t670) else ((some (([] : List (S37)) : List (S37))).bind fun y671 => (if y671.length + l0.length < 1099511627776 then ((some (y671 ++ l0 : List (S37))).bind fun y672 => ((zone_Add.f k y672 a1_0 a1_1 a1_2 a1_3 a1_4 a1_5 a1_6 a1_7 a1_8 a1_9 a1_10 a1_11 a1_12 a1_13 a1_14 a1_15 a2 a3).bind fun bt675 => ((barrowref33_Add.f k l0 a1_0 a1_1 a1_2 a1_3 a1_4 a1_5 a1_6 a1_7 a1_8 a1_9 a1_10 a1_11 a1_12 a1_13 a1_14 a1_15 a2 a3).bind fun bt678 => ((zone_Drop.f k y672 a3).bind fun bt681 => ((barrowref33_Drop.f k l0 a3).bind fun bt683 => ((zone_Shift.f k y672 a3 a4_0 a4_1).bind fun bt685 => ((barrowref33_Shift.f k l0 a3 a4_0 a4_1).bind fun bt687 => ((barrowref33_Same.f k bt675.1 bt678.1).bind fun t689 => (if t689 = true then (if bt675.2.1 = bt678.2.1 then (if bt675.2.2 = bt678.2.2 then ((barrowref33_Same.f k bt681.1 bt683.1).bind fun t690 => (if t690 = true then (if (bt681.2 == bt683.2) = true then ((barrowref33_Same.f k bt685.1 bt687.1).bind fun t691 => (if t691 = true then (if bt685.2 = bt687.2 then (barrowlaw33_ZoneTells.l299 k l0 a1_14 t670 y672 bt681.1 bt685.1 true) else (barrowlaw33_ZoneTells.l299 k l0 a1_14 t670 y672 bt681.1 bt685.1 false)) else (barrowlaw33_ZoneTells.l299 k l0 a1_14 t670 y672 bt681.1 bt685.1 false))) else (barrowlaw33_ZoneTells.l299 k l0 a1_14 t670 y672 bt681.1 bt685.1 false)) else (barrowlaw33_ZoneTells.l299 k l0 a1_14 t670 y672 bt681.1 bt685.1 false))) else (barrowlaw33_ZoneTells.l299 k l0 a1_14 t670 y672 bt681.1 bt685.1 false)) else (barrowlaw33_ZoneTells.l299 k l0 a1_14 t670 y672 bt681.1 bt685.1 false)) else (barrowlaw33_ZoneTells.l299 k l0 a1_14 t670 y672 bt681.1 bt685.1 false)))))))))) else (none))))
theorem barrowlaw33_ZoneTells.mono_l : ∀ k, (∀ y0 y1 y2 y3 y4 y5 y6, LeO (barrowlaw33_ZoneTells.l299 k y0 y1 y2 y3 y4 y5 y6) (barrowlaw33_ZoneTells.l299 (k + 1) y0 y1 y2 y3 y4 y5 y6)) ∧ (∀ y0 y1 y2 y3 y4 y5 y6 y7 y8, LeO (barrowlaw33_ZoneTells.l0 k y0 y1 y2 y3 y4 y5 y6 y7 y8) (barrowlaw33_ZoneTells.l0 (k + 1) y0 y1 y2 y3 y4 y5 y6 y7 y8)) ∧ (∀ y0 y1 y2 y3 y4 y5 y6 y7, LeO (barrowlaw33_ZoneTells.l1 k y0 y1 y2 y3 y4 y5 y6 y7) (barrowlaw33_ZoneTells.l1 (k + 1) y0 y1 y2 y3 y4 y5 y6 y7))
 | 0 => ⟨fun _ _ _ _ _ _ _ r h => by simp [barrowlaw33_ZoneTells.l299] at h, fun _ _ _ _ _ _ _ _ _ r h => by simp [barrowlaw33_ZoneTells.l0] at h, fun _ _ _ _ _ _ _ _ r h => by simp [barrowlaw33_ZoneTells.l1] at h⟩
 | k + 1 => by
  obtain ⟨ih0, ih1, ih2⟩ := barrowlaw33_ZoneTells.mono_l k
  refine ⟨?_, ?_, ?_⟩
  ·intro y0 y1 y2 y3 y4 y5 y6
   unfold barrowlaw33_ZoneTells.l299
   repeat' first
   | (with_reducible exact ih0 _ _ _ _ _ _ _)
   | (with_reducible exact ih1 _ _ _ _ _ _ _ _ _)
   | (with_reducible exact ih2 _ _ _ _ _ _ _ _)
   | (with_reducible exact barrowlaw33_small.mono _)
   | (with_reducible exact barrowref02_Same.mono _ _ _)
   | (with_reducible exact barrowref33_Add.mono _ _ _ _ _ _ _ _ _ _ _ _ _ _ _ _ _ _ _ _)
   | (with_reducible exact barrowref33_Drop.mono _ _ _)
   | (with_reducible exact barrowref33_Of.mono _ _ _)
   | (with_reducible exact barrowref33_Right.mono _ _)
   | (with_reducible exact barrowref33_Same.mono _ _ _)
   | (with_reducible exact barrowref33_Shift.mono _ _ _ _ _)
   | (with_reducible exact zone_Add.mono _ _ _ _ _ _ _ _ _ _ _ _ _ _ _ _ _ _ _ _)
   | (with_reducible exact zone_Drop.mono _ _ _)
   | (with_reducible exact zone_Of.mono _ _ _)
   | (with_reducible exact zone_Right.mono _ _)
   | (with_reducible exact zone_Shift.mono _ _ _ _ _)
   | (with_reducible exact LeO.refl _)
   | (with_reducible exact LeO.none _)
   | (with_reducible refine LeO.ite ?_ ?_)
   | (with_reducible refine everyOf_le (fun _ => ?_))
   | (with_reducible refine LeO.bind ?_ (fun _ => ?_))
   | exact ih0 _ _ _ _ _ _ _
   | exact ih1 _ _ _ _ _ _ _ _ _
   | exact ih2 _ _ _ _ _ _ _ _
   | exact barrowlaw33_small.mono _
   | exact barrowref02_Same.mono _ _ _
   | exact barrowref33_Add.mono _ _ _ _ _ _ _ _ _ _ _ _ _ _ _ _ _ _ _ _
   | exact barrowref33_Drop.mono _ _ _
   | exact barrowref33_Of.mono _ _ _
   | exact barrowref33_Right.mono _ _
   | exact barrowref33_Same.mono _ _ _
   | exact barrowref33_Shift.mono _ _ _ _ _
   | exact zone_Add.mono _ _ _ _ _ _ _ _ _ _ _ _ _ _ _ _ _ _ _ _
   | exact zone_Drop.mono _ _ _
   | exact zone_Of.mono _ _ _
   | exact zone_Right.mono _ _
   | exact zone_Shift.mono _ _ _ _ _
   | exact LeO.none _
   | refine LeO.ite ?_ ?_
   | refine LeO.bind ?_ (fun _ => ?_)
  ·intro y0 y1 y2 y3 y4 y5 y6 y7 y8
   unfold barrowlaw33_ZoneTells.l0
   repeat' first
   | (with_reducible exact ih0 _ _ _ _ _ _ _)
   | (with_reducible exact ih1 _ _ _ _ _ _ _ _ _)
   | (with_reducible exact ih2 _ _ _ _ _ _ _ _)
   | (with_reducible exact barrowlaw33_small.mono _)
   | (with_reducible exact barrowref02_Same.mono _ _ _)
   | (with_reducible exact barrowref33_Add.mono _ _ _ _ _ _ _ _ _ _ _ _ _ _ _ _ _ _ _ _)
   | (with_reducible exact barrowref33_Drop.mono _ _ _)
   | (with_reducible exact barrowref33_Of.mono _ _ _)
   | (with_reducible exact barrowref33_Right.mono _ _)
   | (with_reducible exact barrowref33_Same.mono _ _ _)
   | (with_reducible exact barrowref33_Shift.mono _ _ _ _ _)
   | (with_reducible exact zone_Add.mono _ _ _ _ _ _ _ _ _ _ _ _ _ _ _ _ _ _ _ _)
   | (with_reducible exact zone_Drop.mono _ _ _)
   | (with_reducible exact zone_Of.mono _ _ _)
   | (with_reducible exact zone_Right.mono _ _)
   | (with_reducible exact zone_Shift.mono _ _ _ _ _)
   | (with_reducible exact LeO.refl _)
   | (with_reducible exact LeO.none _)
   | (with_reducible refine LeO.ite ?_ ?_)
   | (with_reducible refine everyOf_le (fun _ => ?_))
   | (with_reducible refine LeO.bind ?_ (fun _ => ?_))
   | exact ih0 _ _ _ _ _ _ _
   | exact ih1 _ _ _ _ _ _ _ _ _
   | exact ih2 _ _ _ _ _ _ _ _
   | exact barrowlaw33_small.mono _
   | exact barrowref02_Same.mono _ _ _
   | exact barrowref33_Add.mono _ _ _ _ _ _ _ _ _ _ _ _ _ _ _ _ _ _ _ _
   | exact barrowref33_Drop.mono _ _ _
   | exact barrowref33_Of.mono _ _ _
   | exact barrowref33_Right.mono _ _
   | exact barrowref33_Same.mono _ _ _
   | exact barrowref33_Shift.mono _ _ _ _ _
   | exact zone_Add.mono _ _ _ _ _ _ _ _ _ _ _ _ _ _ _ _ _ _ _ _
   | exact zone_Drop.mono _ _ _
   | exact zone_Of.mono _ _ _
   | exact zone_Right.mono _ _
   | exact zone_Shift.mono _ _ _ _ _
   | exact LeO.none _
   | refine LeO.ite ?_ ?_
   | refine LeO.bind ?_ (fun _ => ?_)
  ·intro y0 y1 y2 y3 y4 y5 y6 y7
   unfold barrowlaw33_ZoneTells.l1
   repeat' first
   | (with_reducible exact ih0 _ _ _ _ _ _ _)
   | (with_reducible exact ih1 _ _ _ _ _ _ _ _ _)
   | (with_reducible exact ih2 _ _ _ _ _ _ _ _)
   | (with_reducible exact barrowlaw33_small.mono _)
   | (with_reducible exact barrowref02_Same.mono _ _ _)
   | (with_reducible exact barrowref33_Add.mono _ _ _ _ _ _ _ _ _ _ _ _ _ _ _ _ _ _ _ _)
   | (with_reducible exact barrowref33_Drop.mono _ _ _)
   | (with_reducible exact barrowref33_Of.mono _ _ _)
   | (with_reducible exact barrowref33_Right.mono _ _)
   | (with_reducible exact barrowref33_Same.mono _ _ _)
   | (with_reducible exact barrowref33_Shift.mono _ _ _ _ _)
   | (with_reducible exact zone_Add.mono _ _ _ _ _ _ _ _ _ _ _ _ _ _ _ _ _ _ _ _)
   | (with_reducible exact zone_Drop.mono _ _ _)
   | (with_reducible exact zone_Of.mono _ _ _)
   | (with_reducible exact zone_Right.mono _ _)
   | (with_reducible exact zone_Shift.mono _ _ _ _ _)
   | (with_reducible exact LeO.refl _)
   | (with_reducible exact LeO.none _)
   | (with_reducible refine LeO.ite ?_ ?_)
   | (with_reducible refine everyOf_le (fun _ => ?_))
   | (with_reducible refine LeO.bind ?_ (fun _ => ?_))
   | exact ih0 _ _ _ _ _ _ _
   | exact ih1 _ _ _ _ _ _ _ _ _
   | exact ih2 _ _ _ _ _ _ _ _
   | exact barrowlaw33_small.mono _
   | exact barrowref02_Same.mono _ _ _
   | exact barrowref33_Add.mono _ _ _ _ _ _ _ _ _ _ _ _ _ _ _ _ _ _ _ _
   | exact barrowref33_Drop.mono _ _ _
   | exact barrowref33_Of.mono _ _ _
   | exact barrowref33_Right.mono _ _
   | exact barrowref33_Same.mono _ _ _
   | exact barrowref33_Shift.mono _ _ _ _ _
   | exact zone_Add.mono _ _ _ _ _ _ _ _ _ _ _ _ _ _ _ _ _ _ _ _
   | exact zone_Drop.mono _ _ _
   | exact zone_Of.mono _ _ _
   | exact zone_Right.mono _ _
   | exact zone_Shift.mono _ _ _ _ _
   | exact LeO.none _
   | refine LeO.ite ?_ ?_
   | refine LeO.bind ?_ (fun _ => ?_)
theorem barrowlaw33_ZoneTells.mono : ∀ a0 a1 a2 a3 a4 a5 a6 a7 a8 a9 a10 a11 a12 a13 a14 a15 a16 a17 a18 a19 a20 k, LeO (barrowlaw33_ZoneTells.f k a0 a1 a2 a3 a4 a5 a6 a7 a8 a9 a10 a11 a12 a13 a14 a15 a16 a17 a18 a19 a20) (barrowlaw33_ZoneTells.f (k + 1) a0 a1 a2 a3 a4 a5 a6 a7 a8 a9 a10 a11 a12 a13 a14 a15 a16 a17 a18 a19 a20) := by
 intro a0 a1 a2 a3 a4 a5 a6 a7 a8 a9 a10 a11 a12 a13 a14 a15 a16 a17 a18 a19 a20 k
 obtain ⟨ih0, ih1, ih2⟩ := barrowlaw33_ZoneTells.mono_l k
 unfold barrowlaw33_ZoneTells.f
 repeat' first
   | (with_reducible exact ih0 _ _ _ _ _ _ _)
   | (with_reducible exact ih1 _ _ _ _ _ _ _ _ _)
   | (with_reducible exact ih2 _ _ _ _ _ _ _ _)
   | (with_reducible exact barrowlaw33_small.mono _)
   | (with_reducible exact barrowref02_Same.mono _ _ _)
   | (with_reducible exact barrowref33_Add.mono _ _ _ _ _ _ _ _ _ _ _ _ _ _ _ _ _ _ _ _)
   | (with_reducible exact barrowref33_Drop.mono _ _ _)
   | (with_reducible exact barrowref33_Of.mono _ _ _)
   | (with_reducible exact barrowref33_Right.mono _ _)
   | (with_reducible exact barrowref33_Same.mono _ _ _)
   | (with_reducible exact barrowref33_Shift.mono _ _ _ _ _)
   | (with_reducible exact zone_Add.mono _ _ _ _ _ _ _ _ _ _ _ _ _ _ _ _ _ _ _ _)
   | (with_reducible exact zone_Drop.mono _ _ _)
   | (with_reducible exact zone_Of.mono _ _ _)
   | (with_reducible exact zone_Right.mono _ _)
   | (with_reducible exact zone_Shift.mono _ _ _ _ _)
   | (with_reducible exact LeO.refl _)
   | (with_reducible exact LeO.none _)
   | (with_reducible refine LeO.ite ?_ ?_)
   | (with_reducible refine everyOf_le (fun _ => ?_))
   | (with_reducible refine LeO.bind ?_ (fun _ => ?_))
   | exact ih0 _ _ _ _ _ _ _
   | exact ih1 _ _ _ _ _ _ _ _ _
   | exact ih2 _ _ _ _ _ _ _ _
   | exact barrowlaw33_small.mono _
   | exact barrowref02_Same.mono _ _ _
   | exact barrowref33_Add.mono _ _ _ _ _ _ _ _ _ _ _ _ _ _ _ _ _ _ _ _
   | exact barrowref33_Drop.mono _ _ _
   | exact barrowref33_Of.mono _ _ _
   | exact barrowref33_Right.mono _ _
   | exact barrowref33_Same.mono _ _ _
   | exact barrowref33_Shift.mono _ _ _ _ _
   | exact zone_Add.mono _ _ _ _ _ _ _ _ _ _ _ _ _ _ _ _ _ _ _ _
   | exact zone_Drop.mono _ _ _
   | exact zone_Of.mono _ _ _
   | exact zone_Right.mono _ _
   | exact zone_Shift.mono _ _ _ _ _
   | exact LeO.none _
   | refine LeO.ite ?_ ?_
   | refine LeO.bind ?_ (fun _ => ?_)
def barrowlaw33_ZoneTells.T20 : Bool × List (List Nat × List Nat) := (true, [([], []), ([0], [0]), ([1], [1]), ([1, 2], [1, 2]), ([3, 1], [3]), ([4], [4]), ([5, 4, 4], [4, 5]), ([4], [4]), ([7, 6, 4], [4, 7]), ([6, 8, 4], [4, 6, 8]), ([4, 9], [4, 9]), ([10, 8], [10]), ([11], [11]), ([11], [11]), ([13, 11], [11, 13]), ([12, 14, 11, 11], [11, 12, 14]), ([11], [11]), ([11], [11]), ([17, 11], [11, 17]), ([16, 18, 15, 11], [11, 16, 18]), ([15, 19, 19, 11], [11, 15, 19]), ([11, 20], [11, 20]), ([21, 20], [21]), ([22], [22]), ([22], [22]), ([23, 24, 22, 22], [22, 23, 24]), ([22, 25], [22, 25]), ([26, 25, 0, 1, 2, 3, 4, 5, 6, 7, 8, 9, 10, 11, 12, 13, 14, 15, 16, 17, 18, 19, 20, 21, 22, 23, 24, 25, 26], [26])])
def barrowlaw33_ZoneTells.B20 : List Nat := [0, 1, 3, 7, 15, 31, 63, 31, 255, 511, 1023, 2047, 4095, 4095, 12287, 32767, 4095, 4095, 135167, 524287, 1048575, 2097151, 4194303, 8388607, 8388607, 33554431, 67108863, 134217727]
theorem barrowlaw33_ZoneTells.tab20 : rtab .any (opsOf Try.f5 20) = barrowlaw33_ZoneTells.T20 := by kernel_rfl
theorem barrowlaw33_ZoneTells.bits20 : waitsOk barrowlaw33_ZoneTells.T20.2 barrowlaw33_ZoneTells.B20 = true := by kernel_rfl
def barrowlaw33_ZoneTells.Post (r : Bool) (S : Nat → Prop) (L : List Asr) (w : World) (e : Ending) (w' : World) : Prop := e = .returned (.bool r) ∧ SL (L) w' S ∧ Keep S w w'
set_option maxHeartbeats 8000000 in
set_option maxRecDepth 100000 in
theorem barrowlaw33_ZoneTells.slcalls (k : Nat) (A0 : Option Addr) (c0 : Nat) (l0 : List (S37)) (a1_0 : Int) (a1_1 : Int) (a1_2 : Int) (a1_3 : Int) (a1_4 : Int) (a1_5 : Int) (a1_6 : Int) (a1_7 : Int) (a1_8 : Int) (a1_9 : Int) (a1_10 : Int) (a1_11 : Int) (a1_12 : Int) (a1_13 : Int) (a1_14 : Int) (a1_15 : Int) (a2 : Int) (a3 : Int) (a4_0 : Int) (a4_1 : Int) (r : Bool) (S : Nat → Prop) (L : List Asr) (w : World) (hf : Fresh S w) (hs : SL (L) w S) (hr0 : RO S w (fun w_ => Kd.C k37 w_ A0 l0.length l0)) (hc0 : l0.length ≤ c0) (h : barrowlaw33_ZoneTells.f k l0 a1_0 a1_1 a1_2 a1_3 a1_4 a1_5 a1_6 a1_7 a1_8 a1_9 a1_10 a1_11 a1_12 a1_13 a1_14 a1_15 a2 a3 a4_0 a4_1 = some r) :
  Calls Try.prog 5 #[.slice A0 l0.length c0, .agg #[.int .i64 a1_0, .int .i64 a1_1, .int .i64 a1_2, .int .i64 a1_3, .int .i64 a1_4, .int .i64 a1_5, .int .i64 a1_6, .int .i64 a1_7, .int .i64 a1_8, .int .i64 a1_9, .int .i64 a1_10, .int .i64 a1_11, .int .i64 a1_12, .int .i64 a1_13, .int .i64 a1_14, .int .i64 a1_15], .int .i64 a2, .int .i64 a3, .agg #[.int .i64 a4_0, .int .i64 a4_1]] w (barrowlaw33_ZoneTells.Post r S L w) := by
 have HR0 := Aside0.mk hr0
 have HC0 := Aside0.mk hc0
 clear hr0 hc0
 have HF := Aside0.mk hf
 have HS := Aside0.mk hs
 have HK := Aside0.mk (Keep.refl S w)
 clear hf hs
 have hu31 := Try.underlying31
 have hu37 := Try.underlying37
 have H : ((barrowlaw33_small.f k).bind fun t670 => (if (l0.length : Int) > 60 then (some t670) else ((some (([] : List (S37)) : List (S37))).bind fun y671 => (if y671.length + l0.length < 1099511627776 then ((some (y671 ++ l0 : List (S37))).bind fun y672 => ((zone_Add.f k y672 a1_0 a1_1 a1_2 a1_3 a1_4 a1_5 a1_6 a1_7 a1_8 a1_9 a1_10 a1_11 a1_12 a1_13 a1_14 a1_15 a2 a3).bind fun bt675 => ((barrowref33_Add.f k l0 a1_0 a1_1 a1_2 a1_3 a1_4 a1_5 a1_6 a1_7 a1_8 a1_9 a1_10 a1_11 a1_12 a1_13 a1_14 a1_15 a2 a3).bind fun bt678 => ((zone_Drop.f k y672 a3).bind fun bt681 => ((barrowref33_Drop.f k l0 a3).bind fun bt683 => ((zone_Shift.f k y672 a3 a4_0 a4_1).bind fun bt685 => ((barrowref33_Shift.f k l0 a3 a4_0 a4_1).bind fun bt687 => ((barrowref33_Same.f k bt675.1 bt678.1).bind fun t689 => (if t689 = true then (if bt675.2.1 = bt678.2.1 then (if bt675.2.2 = bt678.2.2 then ((barrowref33_Same.f k bt681.1 bt683.1).bind fun t690 => (if t690 = true then (if (bt681.2 == bt683.2) = true then ((barrowref33_Same.f k bt685.1 bt687.1).bind fun t691 => (if t691 = true then (if bt685.2 = bt687.2 then (barrowlaw33_ZoneTells.l299 k l0 a1_14 t670 y672 bt681.1 bt685.1 true) else (barrowlaw33_ZoneTells.l299 k l0 a1_14 t670 y672 bt681.1 bt685.1 false)) else (barrowlaw33_ZoneTells.l299 k l0 a1_14 t670 y672 bt681.1 bt685.1 false))) else (barrowlaw33_ZoneTells.l299 k l0 a1_14 t670 y672 bt681.1 bt685.1 false)) else (barrowlaw33_ZoneTells.l299 k l0 a1_14 t670 y672 bt681.1 bt685.1 false))) else (barrowlaw33_ZoneTells.l299 k l0 a1_14 t670 y672 bt681.1 bt685.1 false)) else (barrowlaw33_ZoneTells.l299 k l0 a1_14 t670 y672 bt681.1 bt685.1 false)) else (barrowlaw33_ZoneTells.l299 k l0 a1_14 t670 y672 bt681.1 bt685.1 false)))))))))) else (none))))) = some r := h
 clear h
 replace H := Option.bind_eq_some_iff.1 H
 obtain ⟨t670, Hc10, H⟩ := H
 try dsimp only at H
 have Hc1 := Aside0.mk Hc10
 clear Hc10
 have H' := Aside0.mk H
 clear H
 go_enter Try.func5, Try.ntmps5
 go_wp2_with (first | ((with_reducible refine gate_dst (N := 6) rfl ?_); refine wpList_plain rfl (fun K_ hK_ => ?_); refine op_box (S := S) (cs := #[.int .i64 a1_0, .int .i64 a1_1, .int .i64 a1_2, .int .i64 a1_3, .int .i64 a1_4, .int .i64 a1_5, .int .i64 a1_6, .int .i64 a1_7, .int .i64 a1_8, .int .i64 a1_9, .int .i64 a1_10, .int .i64 a1_11, .int .i64 a1_12, .int .i64 a1_13, .int .i64 a1_14, .int .i64 a1_15]) (t := 37) (HF.out.keep HK.out) HS.out (by first | (go_simp; done) | (go_simp; rfl)) ?_; intro g3000077 w2 hs_ hk_; refine hK_ _ _ ?_; clear hK_ K_; replace HS := Aside0.mk (hs_); replace HK := Aside0.mk (HK.out.trans hk_)) | ((with_reducible refine gate_dst (N := 9) rfl ?_); refine wpList_plain rfl (fun K_ hK_ => ?_); refine op_box (S := S) (cs := #[.int .i64 a4_0, .int .i64 a4_1]) (t := 31) (HF.out.keep HK.out) HS.out (by first | (go_simp; done) | (go_simp; rfl)) ?_; intro g3000078 w3 hs_ hk_; refine hK_ _ _ ?_; clear hK_ K_; replace HS := Aside0.mk (hs_); replace HK := Aside0.mk (HK.out.trans hk_)) | ((with_reducible refine gate_dst (N := 30) rfl ?_); refine goesL_ (some 30) rfl rfl Try.func7 (by kernel_rfl) rfl #[] rfl (by (try simp only [List.map_toArray, List.map_cons, List.map_nil]); first | done | rfl | (simp; done)) ?_; (with_reducible refine (barrowlaw33_small.calls k _ _  Hc1.out).mono ?_); rintro e_ w4 ⟨rfl, hb_⟩; refine ⟨_, rfl, ?_⟩; replace HS := Aside0.mk (HS.out.below hb_); replace HK := Aside0.mk (HK.out.trans (Keep.below hb_)); refine stop_ ?_; intro G_ hG_))
 have H := H'.out
 clear H'
 by_cases c5 : (l0.length : Int) > 60
 ·rw [if_pos c5] at H
  have c5b0 : decide (60 < (l0.length : Int)) = true := decide_eq_true c5
  have c5b1 : decide (60 < l0.length) = true := decide_eq_true (by omega)
  clear c5
  obtain rfl := Option.some.inj H
  refine hG_.out ?_
  try simp only [c5b0, c5b1]
  go_wp2
  go_ret
  replace HS := Aside0.mk (SL.tail (SL.tail HS.out))
  unfold barrowlaw33_ZoneTells.Post
  exact ⟨by first | rfl | (simp; done) | (simp [*]; done) | (simp at c5b0 ⊢; first | exact c5b0 | (simp [c5b0]; done)), HS.out, HK.out⟩
 ·rw [if_neg c5] at H
  have c5b0 : decide (60 < (l0.length : Int)) = false := decide_eq_false c5
  have c5b1 : decide (60 < l0.length) = false := decide_eq_false (by omega)
  clear c5
  replace H := Option.bind_eq_some_iff.1 H
  obtain ⟨y671, hy6710, H⟩ := H
  try dsimp only at H
  have hy671 := Option.some.inj hy6710
  clear hy6710
  have Ny671 := Aside0.mk hy671
  clear hy671
  by_cases c6 : y671.length + l0.length < 1099511627776
  ·rw [if_pos c6] at H
   have LMc6 := Aside0.mk c6
   clear c6
   replace H := Option.bind_eq_some_iff.1 H
   obtain ⟨y672, hy6720, H⟩ := H
   try dsimp only at H
   have hy672 := Option.some.inj hy6720
   clear hy6720
   have Ny672 := Aside0.mk hy672
   clear hy672
   replace H := Option.bind_eq_some_iff.1 H
   obtain ⟨⟨t675, t676, t677⟩, Hc70, H⟩ := H
   try dsimp only at H
   have Hc7 := Aside0.mk Hc70
   clear Hc70
   replace H := Option.bind_eq_some_iff.1 H
   obtain ⟨⟨t678, t679, t680⟩, Hc80, H⟩ := H
   try dsimp only at H
   have Hc8 := Aside0.mk Hc80
   clear Hc80
   replace H := Option.bind_eq_some_iff.1 H
   obtain ⟨⟨t681, t682⟩, Hc90, H⟩ := H
   try dsimp only at H
   have Hc9 := Aside0.mk Hc90
   clear Hc90
   replace H := Option.bind_eq_some_iff.1 H
   obtain ⟨⟨t683, t684⟩, Hc100, H⟩ := H
   try dsimp only at H
   have Hc10 := Aside0.mk Hc100
   clear Hc100
   replace H := Option.bind_eq_some_iff.1 H
   obtain ⟨⟨t685, t686⟩, Hc110, H⟩ := H
   try dsimp only at H
   have Hc11 := Aside0.mk Hc110
   clear Hc110
   replace H := Option.bind_eq_some_iff.1 H
   obtain ⟨⟨t687, t688⟩, Hc120, H⟩ := H
   try dsimp only at H
   have Hc12 := Aside0.mk Hc120
   clear Hc120
   have H' := Aside0.mk H
   clear H
   refine hG_.out ?_
   try simp only [c5b0, c5b1]
   try go_upto_region 11 with (first | ((with_reducible refine gate_dst (N := 35) rfl ?_); refine wpList_plain rfl (fun K_ hK_ => ?_); refine op_rowF (S := S) (d := k37) ⟨fun h_ => h_⟩ 37 y671 #[] 0 (by rw [← Ny671.out]; exact Reps.none _ _) (by rw [← Ny671.out]; rfl) (by decide) (HF.out.keep HK.out) HS.out (by first | (go_simp; done) | (go_simp; rfl)) ?_; intro Az3000079 cz3000079 w13 hs_ hk_; refine hK_ _ _ ?_; clear hK_ K_; replace HS := Aside0.mk ((show SL (row k37 37 (.slice Az3000079 0 cz3000079) y671 :: _) _ _ from hs_)); replace HK := Aside0.mk (HK.out.trans hk_)) | ((with_reducible refine gate_dst (N := 37) rfl ?_); refine wpList_plain rfl (fun K_ hK_ => ?_); refine op_appendF (S := S) (d := k37) ⟨fun h_ => h_⟩ (.tmp 35) (.tmp 36) 22 37 (.agg #[(.int .i64 0), (.int .i64 0), (.int .i64 0), (.int .i64 0), (.int .i64 0), (.int .i64 0), (.int .i64 0), (.int .i64 0), (.int .i64 0), (.int .i64 0), (.int .i64 0), (.int .i64 0), (.int .i64 0), (.int .i64 0), (.int .i64 0), (.int .i64 0)]) 128 rfl Try.underlying22 info37 rfl (by decide) (by decide) (.slice Az3000079 0 cz3000079) rfl rfl (HF.out.keep HK.out) HS.out (RO.at_ HR0.out HK.out) (by have := LMc6.out; omega) y672 Ny672.out ?_; intro A673 c674 w14 hs_ hk_; refine hK_ _ _ ?_; clear hK_ K_; replace HS := Aside0.mk ((show SL (row k37 37 (.slice A673 y672.length c674) y672 :: _) _ _ from hs_)); replace HK := Aside0.mk (HK.out.trans hk_); have hb_ := SL.at_ (SL.get2 HS.out); have hz3000077_0_2 := ((blk_cell hb_ 0).trans rfl : _ = some (.int .i64 a1_0)); have hz3000077_1_2 := ((blk_cell hb_ 1).trans rfl : _ = some (.int .i64 a1_1)); have hz3000077_2_2 := ((blk_cell hb_ 2).trans rfl : _ = some (.int .i64 a1_2)); have hz3000077_3_2 := ((blk_cell hb_ 3).trans rfl : _ = some (.int .i64 a1_3)); have hz3000077_4_2 := ((blk_cell hb_ 4).trans rfl : _ = some (.int .i64 a1_4)); have hz3000077_5_2 := ((blk_cell hb_ 5).trans rfl : _ = some (.int .i64 a1_5)); have hz3000077_6_2 := ((blk_cell hb_ 6).trans rfl : _ = some (.int .i64 a1_6)); have hz3000077_7_2 := ((blk_cell hb_ 7).trans rfl : _ = some (.int .i64 a1_7)); have hz3000077_8_2 := ((blk_cell hb_ 8).trans rfl : _ = some (.int .i64 a1_8)); have hz3000077_9_2 := ((blk_cell hb_ 9).trans rfl : _ = some (.int .i64 a1_9)); have hz3000077_10_2 := ((blk_cell hb_ 10).trans rfl : _ = some (.int .i64 a1_10)); have hz3000077_11_2 := ((blk_cell hb_ 11).trans rfl : _ = some (.int .i64 a1_11)); have hz3000077_12_2 := ((blk_cell hb_ 12).trans rfl : _ = some (.int .i64 a1_12)); have hz3000077_13_2 := ((blk_cell hb_ 13).trans rfl : _ = some (.int .i64 a1_13)); have hz3000077_14_2 := ((blk_cell hb_ 14).trans rfl : _ = some (.int .i64 a1_14)); have hz3000077_15_2 := ((blk_cell hb_ 15).trans rfl : _ = some (.int .i64 a1_15)); clear hb_) | ((with_reducible refine gate_dst (N := 40) rfl ?_); refine wpList_loadA rfl 37 (.tmp 6) rfl _ rfl [.int .i64 a1_0, .int .i64 a1_1, .int .i64 a1_2, .int .i64 a1_3, .int .i64 a1_4, .int .i64 a1_5, .int .i64 a1_6, .int .i64 a1_7, .int .i64 a1_8, .int .i64 a1_9, .int .i64 a1_10, .int .i64 a1_11, .int .i64 a1_12, .int .i64 a1_13, .int .i64 a1_14, .int .i64 a1_15] _ (cells_at (SL.at_ (SL.get2 HS.out)) 0 _ rfl) Try.underlying37 rfl (by kernel_rfl) ?_) | ((with_reducible refine gate_dst (N := 43) rfl ?_); refine goesL_ (some 43) rfl rfl Try.func12 (by kernel_rfl) rfl #[.slice A673 y672.length c674, .agg #[.int .i64 a1_0, .int .i64 a1_1, .int .i64 a1_2, .int .i64 a1_3, .int .i64 a1_4, .int .i64 a1_5, .int .i64 a1_6, .int .i64 a1_7, .int .i64 a1_8, .int .i64 a1_9, .int .i64 a1_10, .int .i64 a1_11, .int .i64 a1_12, .int .i64 a1_13, .int .i64 a1_14, .int .i64 a1_15], .int .i64 a2, .int .i64 a3] rfl (by (try simp only [List.map_toArray, List.map_cons, List.map_nil]); first | done | rfl | (simp; done)) ?_; have hs0_ := HS.out; obtain ⟨U1_, hfU1_, hsub1_, hs1_, hro1_, hback1_⟩ := SL.lend (HF.out.keep HK.out) hs0_ (p := fun w_ => Kd.C k37 w_ A673 y672.length y672) (fun w_ T_ h_ => (Qs_c h_).2.2); (with_reducible refine (zone_Add.slcalls k _ _ _ _ _ _ _ _ _ _ _ _ _ _ _ _ _ _ _ _ _ _ _ _ _ _ _ hfU1_ hs1_ hro1_ (SL.row_c HS.out).2.1 Hc7.out).mono ?_); rintro e_ w15 ⟨Az3000080, cz3000080, rfl, hsr_, hkr_⟩; refine ⟨_, rfl, ?_⟩; replace HS := Aside0.mk ((hback1_ _ _ hkr_ hsr_)); replace HK := Aside0.mk (HK.out.trans (Keep.sub hkr_ (fun k_ h_ => hsub1_ k_ h_))); (try clear hz3000077_0_2 hz3000077_1_2 hz3000077_2_2 hz3000077_3_2 hz3000077_4_2 hz3000077_5_2 hz3000077_6_2 hz3000077_7_2 hz3000077_8_2 hz3000077_9_2 hz3000077_10_2 hz3000077_11_2 hz3000077_12_2 hz3000077_13_2 hz3000077_14_2 hz3000077_15_2); have hb_ := SL.at_ (SL.get3 HS.out); have hz3000077_0_3 := ((blk_cell hb_ 0).trans rfl : _ = some (.int .i64 a1_0)); have hz3000077_1_3 := ((blk_cell hb_ 1).trans rfl : _ = some (.int .i64 a1_1)); have hz3000077_2_3 := ((blk_cell hb_ 2).trans rfl : _ = some (.int .i64 a1_2)); have hz3000077_3_3 := ((blk_cell hb_ 3).trans rfl : _ = some (.int .i64 a1_3)); have hz3000077_4_3 := ((blk_cell hb_ 4).trans rfl : _ = some (.int .i64 a1_4)); have hz3000077_5_3 := ((blk_cell hb_ 5).trans rfl : _ = some (.int .i64 a1_5)); have hz3000077_6_3 := ((blk_cell hb_ 6).trans rfl : _ = some (.int .i64 a1_6)); have hz3000077_7_3 := ((blk_cell hb_ 7).trans rfl : _ = some (.int .i64 a1_7)); have hz3000077_8_3 := ((blk_cell hb_ 8).trans rfl : _ = some (.int .i64 a1_8)); have hz3000077_9_3 := ((blk_cell hb_ 9).trans rfl : _ = some (.int .i64 a1_9)); have hz3000077_10_3 := ((blk_cell hb_ 10).trans rfl : _ = some (.int .i64 a1_10)); have hz3000077_11_3 := ((blk_cell hb_ 11).trans rfl : _ = some (.int .i64 a1_11)); have hz3000077_12_3 := ((blk_cell hb_ 12).trans rfl : _ = some (.int .i64 a1_12)); have hz3000077_13_3 := ((blk_cell hb_ 13).trans rfl : _ = some (.int .i64 a1_13)); have hz3000077_14_3 := ((blk_cell hb_ 14).trans rfl : _ = some (.int .i64 a1_14)); have hz3000077_15_3 := ((blk_cell hb_ 15).trans rfl : _ = some (.int .i64 a1_15)); clear hb_) | ((with_reducible refine gate_dst (N := 49) rfl ?_); refine wpList_loadA rfl 37 (.tmp 6) rfl _ rfl [.int .i64 a1_0, .int .i64 a1_1, .int .i64 a1_2, .int .i64 a1_3, .int .i64 a1_4, .int .i64 a1_5, .int .i64 a1_6, .int .i64 a1_7, .int .i64 a1_8, .int .i64 a1_9, .int .i64 a1_10, .int .i64 a1_11, .int .i64 a1_12, .int .i64 a1_13, .int .i64 a1_14, .int .i64 a1_15] _ (cells_at (SL.at_ (SL.get3 HS.out)) 0 _ rfl) Try.underlying37 rfl (by kernel_rfl) ?_) | ((with_reducible refine gate_dst (N := 52) rfl ?_); refine goesL_ (some 52) rfl rfl Try.func15 (by kernel_rfl) rfl #[.slice A0 l0.length c0, .agg #[.int .i64 a1_0, .int .i64 a1_1, .int .i64 a1_2, .int .i64 a1_3, .int .i64 a1_4, .int .i64 a1_5, .int .i64 a1_6, .int .i64 a1_7, .int .i64 a1_8, .int .i64 a1_9, .int .i64 a1_10, .int .i64 a1_11, .int .i64 a1_12, .int .i64 a1_13, .int .i64 a1_14, .int .i64 a1_15], .int .i64 a2, .int .i64 a3] rfl (by (try simp only [List.map_toArray, List.map_cons, List.map_nil]); first | done | rfl | (simp; done)) ?_; have hs0_ := HS.out; (with_reducible refine (barrowref33_Add.slcalls k _ _ _ _ _ _ _ _ _ _ _ _ _ _ _ _ _ _ _ _ _ _ _ _ _ _ _ (HF.out.keep HK.out) hs0_ (HR0.out.keep HK.out) HC0.out Hc8.out).mono ?_); rintro e_ w16 ⟨Az3000081, cz3000081, rfl, hsr_, hkr_⟩; refine ⟨_, rfl, ?_⟩; replace HS := Aside0.mk (hsr_); replace HK := Aside0.mk (HK.out.trans hkr_); (try clear hz3000077_0_3 hz3000077_1_3 hz3000077_2_3 hz3000077_3_3 hz3000077_4_3 hz3000077_5_3 hz3000077_6_3 hz3000077_7_3 hz3000077_8_3 hz3000077_9_3 hz3000077_10_3 hz3000077_11_3 hz3000077_12_3 hz3000077_13_3 hz3000077_14_3 hz3000077_15_3)) | ((with_reducible refine gate_dst (N := 59) rfl ?_); refine goesL_ (some 59) rfl rfl Try.func16 (by kernel_rfl) rfl #[.slice A673 y672.length c674, .int .i64 a3] rfl (by (try simp only [List.map_toArray, List.map_cons, List.map_nil]); first | done | rfl | (simp; done)) ?_; have hs0_ := (SL.get1 HS.out); obtain ⟨U1_, hfU1_, hsub1_, hs1_, hro1_, hback1_⟩ := SL.lend (HF.out.keep HK.out) hs0_ (p := fun w_ => Kd.C k37 w_ A673 y672.length y672) (fun w_ T_ h_ => (Qs_c h_).2.2); (with_reducible refine (zone_Drop.slcalls k _ _ _ _ _ _ _ _ _ hfU1_ hs1_ hro1_ (SL.row_c (SL.get1 HS.out)).2.1 Hc9.out).mono ?_); rintro e_ w17 ⟨Az3000082, cz3000082, rfl, hsr_, hkr_⟩; refine ⟨_, rfl, ?_⟩; replace HS := Aside0.mk ((hback1_ _ _ hkr_ hsr_)); replace HK := Aside0.mk (HK.out.trans (Keep.sub hkr_ (fun k_ h_ => hsub1_ k_ h_)))) | ((with_reducible refine gate_dst (N := 65) rfl ?_); refine goesL_ (some 65) rfl rfl Try.func17 (by kernel_rfl) rfl #[.slice A0 l0.length c0, .int .i64 a3] rfl (by (try simp only [List.map_toArray, List.map_cons, List.map_nil]); first | done | rfl | (simp; done)) ?_; have hs0_ := HS.out; (with_reducible refine (barrowref33_Drop.slcalls k _ _ _ _ _ _ _ _ _ (HF.out.keep HK.out) hs0_ (HR0.out.keep HK.out) HC0.out Hc10.out).mono ?_); rintro e_ w18 ⟨Az3000083, cz3000083, rfl, hsr_, hkr_⟩; refine ⟨_, rfl, ?_⟩; replace HS := Aside0.mk (hsr_); replace HK := Aside0.mk (HK.out.trans hkr_); have hb_ := SL.at_ (SL.get5 HS.out); have hz3000078_0_6 := ((blk_cell hb_ 0).trans rfl : _ = some (.int .i64 a4_0)); have hz3000078_1_6 := ((blk_cell hb_ 1).trans rfl : _ = some (.int .i64 a4_1)); clear hb_) | ((with_reducible refine gate_dst (N := 72) rfl ?_); refine goesL_ (some 72) rfl rfl Try.func18 (by kernel_rfl) rfl #[.slice A673 y672.length c674, .int .i64 a3, .agg #[.int .i64 a4_0, .int .i64 a4_1]] rfl (by (try simp only [List.map_toArray, List.map_cons, List.map_nil]); first | done | rfl | (simp; done)) ?_; have hs0_ := (SL.get1 HS.out); obtain ⟨U1_, hfU1_, hsub1_, hs1_, hro1_, hback1_⟩ := SL.lend (HF.out.keep HK.out) hs0_ (p := fun w_ => Kd.C k37 w_ A673 y672.length y672) (fun w_ T_ h_ => (Qs_c h_).2.2); (with_reducible refine (zone_Shift.slcalls k _ _ _ _ _ _ _ _ _ _ _ hfU1_ hs1_ hro1_ (SL.row_c (SL.get1 HS.out)).2.1 Hc11.out).mono ?_); rintro e_ w19 ⟨Az3000084, cz3000084, rfl, hsr_, hkr_⟩; refine ⟨_, rfl, ?_⟩; replace HS := Aside0.mk ((hback1_ _ _ hkr_ hsr_)); replace HK := Aside0.mk (HK.out.trans (Keep.sub hkr_ (fun k_ h_ => hsub1_ k_ h_))); (try clear hz3000078_0_6 hz3000078_1_6); have hb_ := SL.at_ (SL.get6 HS.out); have hz3000078_0_7 := ((blk_cell hb_ 0).trans rfl : _ = some (.int .i64 a4_0)); have hz3000078_1_7 := ((blk_cell hb_ 1).trans rfl : _ = some (.int .i64 a4_1)); clear hb_) | ((with_reducible refine gate_dst (N := 79) rfl ?_); refine goesL_ (some 79) rfl rfl Try.func19 (by kernel_rfl) rfl #[.slice A0 l0.length c0, .int .i64 a3, .agg #[.int .i64 a4_0, .int .i64 a4_1]] rfl (by (try simp only [List.map_toArray, List.map_cons, List.map_nil]); first | done | rfl | (simp; done)) ?_; have hs0_ := HS.out; (with_reducible refine (barrowref33_Shift.slcalls k _ _ _ _ _ _ _ _ _ _ _ (HF.out.keep HK.out) hs0_ (HR0.out.keep HK.out) HC0.out Hc12.out).mono ?_); rintro e_ w20 ⟨Az3000085, cz3000085, rfl, hsr_, hkr_⟩; refine ⟨_, rfl, ?_⟩; replace HS := Aside0.mk (hsr_); replace HK := Aside0.mk (HK.out.trans hkr_); (try clear hz3000078_0_7 hz3000078_1_7)))
   (try simp only [Act.put, sT, sZ, sS])
   go_cut [27] (fun v27 wc => ∃ (kq : Nat) (x27_299 : Bool), v27 = .bool x27_299 ∧ Aside0 (barrowlaw33_ZoneTells.l299 kq l0 a1_14 t670 y672 t681 t685 x27_299 = some r) ∧ Aside0 (kq ≤ k) ∧ Aside0 (SL (row k37 37 (.slice Az3000085 t687.length cz3000085) t687 :: row k37 37 (.slice A673 y672.length c674) y672 :: row k37 37 (.slice Az3000084 t685.length cz3000084) t685 :: row k37 37 (.slice Az3000083 t683.length cz3000083) t683 :: row k37 37 (.slice Az3000082 t681.length cz3000082) t681 :: row k37 37 (.slice Az3000081 t678.length cz3000081) t678 :: row k37 37 (.slice Az3000080 t675.length cz3000080) t675 :: cells g3000078 31 [.int .i64 a4_0, .int .i64 a4_1].toArray :: cells g3000077 37 [.int .i64 a1_0, .int .i64 a1_1, .int .i64 a1_2, .int .i64 a1_3, .int .i64 a1_4, .int .i64 a1_5, .int .i64 a1_6, .int .i64 a1_7, .int .i64 a1_8, .int .i64 a1_9, .int .i64 a1_10, .int .i64 a1_11, .int .i64 a1_12, .int .i64 a1_13, .int .i64 a1_14, .int .i64 a1_15].toArray :: L) wc S) ∧ Aside0 (Keep S w wc))
   case first =>
    have H := H'.out
    clear H'
    replace H := Option.bind_eq_some_iff.1 H
    obtain ⟨t689, Hc210, H⟩ := H
    try dsimp only at H
    have Hc21 := Aside0.mk Hc210
    clear Hc210
    by_cases c22 : t689 = true
    ·subst c22
     rw [if_pos rfl] at H
     by_cases c23 : t676 = t679
     ·rw [if_pos c23] at H
      have c23b0 : (t676 == t679) = true := beq_iff_eq.mpr c23
      have c23b1 : (t676 != t679) = false := bne_eq_false_iff_eq.mpr c23
      clear c23
      by_cases c24 : t677 = t680
      ·rw [if_pos c24] at H
       have c24b0 : (t677 == t680) = true := beq_iff_eq.mpr c24
       have c24b1 : (t677 != t680) = false := bne_eq_false_iff_eq.mpr c24
       clear c24
       replace H := Option.bind_eq_some_iff.1 H
       obtain ⟨t690, Hc250, H⟩ := H
       try dsimp only at H
       have Hc25 := Aside0.mk Hc250
       clear Hc250
       by_cases c26 : t690 = true
       ·subst c26
        rw [if_pos rfl] at H
        by_cases c27 : (t682 == t684) = true
        ·rw [if_pos c27] at H
         have c27b0 : (t682 == t684) = true := c27
         (try (have c27b1 : decide (t682 = t684) = true := by simpa using c27))
         (try (have c27b2 : (t682 == t684) = true := by simpa using c27))
         clear c27
         replace H := Option.bind_eq_some_iff.1 H
         obtain ⟨t691, Hc280, H⟩ := H
         try dsimp only at H
         have Hc28 := Aside0.mk Hc280
         clear Hc280
         have H' := Aside0.mk H
         clear H
         go_wp2_with (first | ((with_reducible refine gate_dst (N := 84) rfl ?_); refine goesL_ (some 84) rfl rfl Try.func10 (by kernel_rfl) rfl #[.slice Az3000080 t675.length cz3000080, .slice Az3000081 t678.length cz3000081] rfl (by (try simp only [List.map_toArray, List.map_cons, List.map_nil]); first | done | rfl | (simp; done)) ?_; (with_reducible refine (barrowref33_Same.calls k _ _ _ _ _ _ _ _ (SL.row_c (SL.get6 HS.out)).2.2 (SL.row_c (SL.get6 HS.out)).2.1 (SL.row_c (SL.get5 HS.out)).2.2 (SL.row_c (SL.get5 HS.out)).2.1 Hc21.out).mono ?_); rintro e_ w29 ⟨rfl, hb_⟩; refine ⟨_, rfl, ?_⟩; replace hb_ := Drawn0.below hb_; replace HS := Aside0.mk (HS.out.below hb_); replace HK := Aside0.mk (HK.out.trans (Keep.below hb_))) | ((with_reducible refine gate_dst (N := 98) rfl ?_); (try (refine gate_guard (by rfl) ?_; dsimp only)); refine goesL_ (some 98) rfl rfl Try.func10 (by kernel_rfl) rfl #[.slice Az3000082 t681.length cz3000082, .slice Az3000083 t683.length cz3000083] rfl (by (try simp only [List.map_toArray, List.map_cons, List.map_nil]); first | done | rfl | (simp; done)) ?_; (with_reducible refine (barrowref33_Same.calls k _ _ _ _ _ _ _ _ (SL.row_c (SL.get4 HS.out)).2.2 (SL.row_c (SL.get4 HS.out)).2.1 (SL.row_c (SL.get3 HS.out)).2.2 (SL.row_c (SL.get3 HS.out)).2.1 Hc25.out).mono ?_); rintro e_ w30 ⟨rfl, hb_⟩; refine ⟨_, rfl, ?_⟩; replace hb_ := Drawn0.below hb_; replace HS := Aside0.mk (HS.out.below hb_); replace HK := Aside0.mk (HK.out.trans (Keep.below hb_))) | ((with_reducible refine gate_dst (N := 108) rfl ?_); (try (refine gate_guard (by rfl) ?_; dsimp only)); refine goesL_ (some 108) rfl rfl Try.func10 (by kernel_rfl) rfl #[.slice Az3000084 t685.length cz3000084, .slice Az3000085 t687.length cz3000085] rfl (by (try simp only [List.map_toArray, List.map_cons, List.map_nil]); first | done | rfl | (simp; done)) ?_; (with_reducible refine (barrowref33_Same.calls k _ _ _ _ _ _ _ _ (SL.row_c (SL.get2 HS.out)).2.2 (SL.row_c (SL.get2 HS.out)).2.1 (SL.row_c HS.out).2.2 (SL.row_c HS.out).2.1 Hc28.out).mono ?_); rintro e_ w31 ⟨rfl, hb_⟩; refine ⟨_, rfl, ?_⟩; replace hb_ := Drawn0.below hb_; replace HS := Aside0.mk (HS.out.below hb_); replace HK := Aside0.mk (HK.out.trans (Keep.below hb_)); refine stop_ ?_; intro G_ hG_))
         have H := H'.out
         clear H'
         by_cases c32 : t691 = true
         ·subst c32
          rw [if_pos rfl] at H
          by_cases c33 : t686 = t688
          ·rw [if_pos c33] at H
           have c33b0 : (t686 == t688) = true := beq_iff_eq.mpr c33
           have c33b1 : (t686 != t688) = false := bne_eq_false_iff_eq.mpr c33
           clear c33
           have H' := Aside0.mk H
           clear H
           refine hG_.out ?_
           try simp only [c33b0, c33b1]
           go_wp2
           go_meet
           case rel => exact ⟨k, (true), (by first | rfl | (simp; done) | (simp [*]; done)), H', ⟨by omega⟩, HS, HK⟩
          ·rw [if_neg c33] at H
           have c33b0 : (t686 == t688) = false := beq_eq_false_iff_ne.mpr c33
           have c33b1 : (t686 != t688) = true := bne_iff_ne.mpr c33
           have H' := Aside0.mk H
           clear H
           refine hG_.out ?_
           try simp only [c33b0, c33b1]
           go_wp2
           go_meet
           case rel => exact ⟨k, (false), (by first | rfl | (simp; done) | (simp [*]; done)), H', ⟨by omega⟩, HS, HK⟩
         ·replace c32 := Bool.eq_false_iff.mpr c32
          subst c32
          rw [if_neg (show ¬ (false = true) by decide)] at H
          have H' := Aside0.mk H
          clear H
          refine hG_.out ?_
          go_wp2
          go_meet
          case rel => exact ⟨k, (false), (by first | rfl | (simp; done) | (simp [*]; done)), H', ⟨by omega⟩, HS, HK⟩
        ·rw [if_neg c27] at H
         have c27b0 : (t682 == t684) = false := by simpa using c27
         (try (have c27b1 : decide (t682 = t684) = false := by simpa using c27))
         (try (have c27b2 : (t682 == t684) = false := by simpa using c27))
         (try (have c27b3 : ¬ (t682 = t684) := by simpa using c27))
         clear c27
         have H' := Aside0.mk H
         clear H
         go_wp2_with (first | ((with_reducible refine gate_dst (N := 84) rfl ?_); refine goesL_ (some 84) rfl rfl Try.func10 (by kernel_rfl) rfl #[.slice Az3000080 t675.length cz3000080, .slice Az3000081 t678.length cz3000081] rfl (by (try simp only [List.map_toArray, List.map_cons, List.map_nil]); first | done | rfl | (simp; done)) ?_; (with_reducible refine (barrowref33_Same.calls k _ _ _ _ _ _ _ _ (SL.row_c (SL.get6 HS.out)).2.2 (SL.row_c (SL.get6 HS.out)).2.1 (SL.row_c (SL.get5 HS.out)).2.2 (SL.row_c (SL.get5 HS.out)).2.1 Hc21.out).mono ?_); rintro e_ w34 ⟨rfl, hb_⟩; refine ⟨_, rfl, ?_⟩; replace hb_ := Drawn0.below hb_; replace HS := Aside0.mk (HS.out.below hb_); replace HK := Aside0.mk (HK.out.trans (Keep.below hb_))) | ((with_reducible refine gate_dst (N := 98) rfl ?_); (try (refine gate_guard (by rfl) ?_; dsimp only)); refine goesL_ (some 98) rfl rfl Try.func10 (by kernel_rfl) rfl #[.slice Az3000082 t681.length cz3000082, .slice Az3000083 t683.length cz3000083] rfl (by (try simp only [List.map_toArray, List.map_cons, List.map_nil]); first | done | rfl | (simp; done)) ?_; (with_reducible refine (barrowref33_Same.calls k _ _ _ _ _ _ _ _ (SL.row_c (SL.get4 HS.out)).2.2 (SL.row_c (SL.get4 HS.out)).2.1 (SL.row_c (SL.get3 HS.out)).2.2 (SL.row_c (SL.get3 HS.out)).2.1 Hc25.out).mono ?_); rintro e_ w35 ⟨rfl, hb_⟩; refine ⟨_, rfl, ?_⟩; replace hb_ := Drawn0.below hb_; replace HS := Aside0.mk (HS.out.below hb_); replace HK := Aside0.mk (HK.out.trans (Keep.below hb_))))
         go_meet
         case rel => exact ⟨k, (false), (by first | rfl | (simp; done) | (simp [*]; done)), H', ⟨by omega⟩, HS, HK⟩
       ·replace c26 := Bool.eq_false_iff.mpr c26
        subst c26
        rw [if_neg (show ¬ (false = true) by decide)] at H
        have H' := Aside0.mk H
        clear H
        go_wp2_with (first | ((with_reducible refine gate_dst (N := 84) rfl ?_); refine goesL_ (some 84) rfl rfl Try.func10 (by kernel_rfl) rfl #[.slice Az3000080 t675.length cz3000080, .slice Az3000081 t678.length cz3000081] rfl (by (try simp only [List.map_toArray, List.map_cons, List.map_nil]); first | done | rfl | (simp; done)) ?_; (with_reducible refine (barrowref33_Same.calls k _ _ _ _ _ _ _ _ (SL.row_c (SL.get6 HS.out)).2.2 (SL.row_c (SL.get6 HS.out)).2.1 (SL.row_c (SL.get5 HS.out)).2.2 (SL.row_c (SL.get5 HS.out)).2.1 Hc21.out).mono ?_); rintro e_ w36 ⟨rfl, hb_⟩; refine ⟨_, rfl, ?_⟩; replace hb_ := Drawn0.below hb_; replace HS := Aside0.mk (HS.out.below hb_); replace HK := Aside0.mk (HK.out.trans (Keep.below hb_))) | ((with_reducible refine gate_dst (N := 98) rfl ?_); (try (refine gate_guard (by rfl) ?_; dsimp only)); refine goesL_ (some 98) rfl rfl Try.func10 (by kernel_rfl) rfl #[.slice Az3000082 t681.length cz3000082, .slice Az3000083 t683.length cz3000083] rfl (by (try simp only [List.map_toArray, List.map_cons, List.map_nil]); first | done | rfl | (simp; done)) ?_; (with_reducible refine (barrowref33_Same.calls k _ _ _ _ _ _ _ _ (SL.row_c (SL.get4 HS.out)).2.2 (SL.row_c (SL.get4 HS.out)).2.1 (SL.row_c (SL.get3 HS.out)).2.2 (SL.row_c (SL.get3 HS.out)).2.1 Hc25.out).mono ?_); rintro e_ w37 ⟨rfl, hb_⟩; refine ⟨_, rfl, ?_⟩; replace hb_ := Drawn0.below hb_; replace HS := Aside0.mk (HS.out.below hb_); replace HK := Aside0.mk (HK.out.trans (Keep.below hb_))))
        go_meet
        case rel => exact ⟨k, (false), (by first | rfl | (simp; done) | (simp [*]; done)), H', ⟨by omega⟩, HS, HK⟩
      ·rw [if_neg c24] at H
       have c24b0 : (t677 == t680) = false := beq_eq_false_iff_ne.mpr c24
       have c24b1 : (t677 != t680) = true := bne_iff_ne.mpr c24
       have H' := Aside0.mk H
       clear H
       go_wp2_with (first | ((with_reducible refine gate_dst (N := 84) rfl ?_); refine goesL_ (some 84) rfl rfl Try.func10 (by kernel_rfl) rfl #[.slice Az3000080 t675.length cz3000080, .slice Az3000081 t678.length cz3000081] rfl (by (try simp only [List.map_toArray, List.map_cons, List.map_nil]); first | done | rfl | (simp; done)) ?_; (with_reducible refine (barrowref33_Same.calls k _ _ _ _ _ _ _ _ (SL.row_c (SL.get6 HS.out)).2.2 (SL.row_c (SL.get6 HS.out)).2.1 (SL.row_c (SL.get5 HS.out)).2.2 (SL.row_c (SL.get5 HS.out)).2.1 Hc21.out).mono ?_); rintro e_ w38 ⟨rfl, hb_⟩; refine ⟨_, rfl, ?_⟩; replace hb_ := Drawn0.below hb_; replace HS := Aside0.mk (HS.out.below hb_); replace HK := Aside0.mk (HK.out.trans (Keep.below hb_))))
       go_meet
       case rel => exact ⟨k, (false), (by first | rfl | (simp; done) | (simp [*]; done)), H', ⟨by omega⟩, HS, HK⟩
     ·rw [if_neg c23] at H
      have c23b0 : (t676 == t679) = false := beq_eq_false_iff_ne.mpr c23
      have c23b1 : (t676 != t679) = true := bne_iff_ne.mpr c23
      have H' := Aside0.mk H
      clear H
      go_wp2_with (first | ((with_reducible refine gate_dst (N := 84) rfl ?_); refine goesL_ (some 84) rfl rfl Try.func10 (by kernel_rfl) rfl #[.slice Az3000080 t675.length cz3000080, .slice Az3000081 t678.length cz3000081] rfl (by (try simp only [List.map_toArray, List.map_cons, List.map_nil]); first | done | rfl | (simp; done)) ?_; (with_reducible refine (barrowref33_Same.calls k _ _ _ _ _ _ _ _ (SL.row_c (SL.get6 HS.out)).2.2 (SL.row_c (SL.get6 HS.out)).2.1 (SL.row_c (SL.get5 HS.out)).2.2 (SL.row_c (SL.get5 HS.out)).2.1 Hc21.out).mono ?_); rintro e_ w39 ⟨rfl, hb_⟩; refine ⟨_, rfl, ?_⟩; replace hb_ := Drawn0.below hb_; replace HS := Aside0.mk (HS.out.below hb_); replace HK := Aside0.mk (HK.out.trans (Keep.below hb_))))
      go_meet
      case rel => exact ⟨k, (false), (by first | rfl | (simp; done) | (simp [*]; done)), H', ⟨by omega⟩, HS, HK⟩
    ·replace c22 := Bool.eq_false_iff.mpr c22
     subst c22
     rw [if_neg (show ¬ (false = true) by decide)] at H
     have H' := Aside0.mk H
     clear H
     go_wp2_with (first | ((with_reducible refine gate_dst (N := 84) rfl ?_); refine goesL_ (some 84) rfl rfl Try.func10 (by kernel_rfl) rfl #[.slice Az3000080 t675.length cz3000080, .slice Az3000081 t678.length cz3000081] rfl (by (try simp only [List.map_toArray, List.map_cons, List.map_nil]); first | done | rfl | (simp; done)) ?_; (with_reducible refine (barrowref33_Same.calls k _ _ _ _ _ _ _ _ (SL.row_c (SL.get6 HS.out)).2.2 (SL.row_c (SL.get6 HS.out)).2.1 (SL.row_c (SL.get5 HS.out)).2.2 (SL.row_c (SL.get5 HS.out)).2.1 Hc21.out).mono ?_); rintro e_ w40 ⟨rfl, hb_⟩; refine ⟨_, rfl, ?_⟩; replace hb_ := Drawn0.below hb_; replace HS := Aside0.mk (HS.out.below hb_); replace HK := Aside0.mk (HK.out.trans (Keep.below hb_))))
     go_meet
     case rel => exact ⟨k, (false), (by first | rfl | (simp; done) | (simp [*]; done)), H', ⟨by omega⟩, HS, HK⟩
   case rest =>
    clear H' HS HK
    try clear hz3000077_0_0 hz3000077_1_0 hz3000077_2_0 hz3000077_3_0 hz3000077_4_0 hz3000077_5_0 hz3000077_6_0 hz3000077_7_0 hz3000077_8_0 hz3000077_9_0 hz3000077_10_0 hz3000077_11_0 hz3000077_12_0 hz3000077_13_0 hz3000077_14_0 hz3000077_15_0
    try clear hz3000077_0_0 hz3000077_1_0 hz3000077_2_0 hz3000077_3_0 hz3000077_4_0 hz3000077_5_0 hz3000077_6_0 hz3000077_7_0 hz3000077_8_0 hz3000077_9_0 hz3000077_10_0 hz3000077_11_0 hz3000077_12_0 hz3000077_13_0 hz3000077_14_0 hz3000077_15_0
    try clear hz3000078_0_0 hz3000078_1_0
    try clear hz3000078_0_0 hz3000078_1_0
    obtain ⟨kq, x27_299, rfl, HA, HQ1, HS, HK⟩ := hcut
    cases kq with
    | zero => exact absurd HA.out (by simp [barrowlaw33_ZoneTells.l299])
    | succ k1 =>
     have H := HA.out
     clear HA
     simp only [barrowlaw33_ZoneTells.l299] at H
     have H' := Aside0.mk H
     clear H
     go_wp2
     go_loopg [28] k1 (fun kq v28 w' => ∃ (y3000082_0 : List (S37)) (x28_0 : Int), v28 = .int .i64 x28_0 ∧ Aside0 (barrowlaw33_ZoneTells.l0 kq l0 a1_14 x28_0 y3000082_0 t670 y672 t681 t685 x27_299 = some r) ∧ Aside0 (kq ≤ k1) ∧ Aside0 (SL (row k37 37 (.slice Az3000085 t687.length cz3000085) t687 :: row k37 37 (.slice A673 y672.length c674) y672 :: row k37 37 (.slice Az3000084 t685.length cz3000084) t685 :: row k37 37 (.slice Az3000083 t683.length cz3000083) t683 :: row k37 37 (.slice Az3000082 t681.length cz3000082) y3000082_0 :: row k37 37 (.slice Az3000081 t678.length cz3000081) t678 :: row k37 37 (.slice Az3000080 t675.length cz3000080) t675 :: cells g3000078 31 [.int .i64 a4_0, .int .i64 a4_1].toArray :: cells g3000077 37 [.int .i64 a1_0, .int .i64 a1_1, .int .i64 a1_2, .int .i64 a1_3, .int .i64 a1_4, .int .i64 a1_5, .int .i64 a1_6, .int .i64 a1_7, .int .i64 a1_8, .int .i64 a1_9, .int .i64 a1_10, .int .i64 a1_11, .int .i64 a1_12, .int .i64 a1_13, .int .i64 a1_14, .int .i64 a1_15].toArray :: L) w' S) ∧ Aside0 (Keep S w w'))
     case atStart => exact ⟨(t681), (0), (by first | rfl | (simp; done) | (simp [*]; done)), H', ⟨Nat.le_refl _⟩, HS, HK⟩
     case round =>
      clear H' HS HK
      obtain ⟨y3000082_0, x28_0, rfl, HA, HQ2, HS, HK⟩ := hrel
      cases gk with
      | zero => exact absurd HA.out (by simp [barrowlaw33_ZoneTells.l0])
      | succ k2 =>
       have H := HA.out
       clear HA
       simp only [barrowlaw33_ZoneTells.l0] at H
       by_cases c41 : x28_0 < (t681.length : Int)
       ·rw [if_pos c41] at H
        have c41b0 : decide (x28_0 < (t681.length : Int)) = true := decide_eq_true c41
        clear c41
        by_cases c42 : 0 ≤ x28_0
        ·rw [if_pos c42] at H
         have c42b0 : decide (0 ≤ x28_0) = true := decide_eq_true c42
         clear c42
         replace H := Option.bind_eq_some_iff.1 H
         obtain ⟨y693, hy6930, H⟩ := H
         try dsimp only at H
         have hy693 := Option.some.inj hy6930
         clear hy6930
         have Ny693 := Aside0.mk hy693
         clear hy693
         have H' := Aside0.mk H
         clear H
         have pq692 : 0 ≤ (x28_0 : Int) := of_decide_eq_true (by first | (with_reducible assumption) | assumption)
         have qq692 : x28_0 < ((t681.length : Int) : Int) := of_decide_eq_true (by first | (with_reducible assumption) | assumption)
         obtain ⟨adq692, eq692, hxq692_0, hxq692_1, hxq692_2, hxq692_3, hxq692_4, hxq692_5, hxq692_6, hxq692_7, hxq692_8, hxq692_9, hxq692_10, hxq692_11, hxq692_12, hxq692_13, hxq692_14, hxq692_15⟩ := at_T37 (SL.row_c (SL.get4 HS.out)).2.2 x28_0 pq692 qq692
         cases eq692
         replace pq692 := eq_true pq692
         replace qq692 := eq_true qq692
         go_wp2_with (first | ((with_reducible refine gate_store (t := 3) (p := 124) (v := (.const (.int .i64 (-7)))) rfl ?_); refine wpList_plain rfl (fun K_ hK_ => ?_); refine op_setF (S := S) (d := k37) ⟨fun h_ => h_⟩ 3 (.tmp 124) (.const (.int .i64 (-7))) rfl adq692 (x28_0) z37 0 [.int .i64 (-7)] (.int .i64 (-7)) (SL.get4 HS.out) _ (by intro g_ o_ h_; subst h_; first | rfl | (simp [Go.Addr.add]; done) | (simp [Go.Addr.add]; rfl) | (simp [Go.Addr.add]; constructor <;> split <;> simp_all [show k37.sz = 16 from rfl]) | (simp [Go.Addr.add]; split <;> simp_all [show k37.sz = 16 from rfl])) rfl (by rfl) rfl (by kernel_rfl) (by simp [Value.oneCell']) (of_decide_eq_true (by first | (with_reducible assumption) | assumption)) (of_decide_eq_true (by first | (with_reducible assumption) | assumption)) (Nat.le_of_ble_eq_true rfl) (⟨(-7), (⟨(rd_T37 y3000082_0 x28_0).f1.f0, (⟨(rd_T37 y3000082_0 x28_0).f1.f1.f0, (rd_T37 y3000082_0 x28_0).f1.f1.f1⟩ : S31), (⟨(rd_T37 y3000082_0 x28_0).f1.f2.f0, (rd_T37 y3000082_0 x28_0).f1.f2.f1⟩ : S31), (rd_T37 y3000082_0 x28_0).f1.f3, (rd_T37 y3000082_0 x28_0).f1.f4⟩ : S33), (rd_T37 y3000082_0 x28_0).f2, (rd_T37 y3000082_0 x28_0).f3, (rd_T37 y3000082_0 x28_0).f4, (⟨(rd_T37 y3000082_0 x28_0).f5.f0, (rd_T37 y3000082_0 x28_0).f5.f1, (rd_T37 y3000082_0 x28_0).f5.f2⟩ : S35), (rd_T37 y3000082_0 x28_0).f6, (rd_T37 y3000082_0 x28_0).f7⟩ : S37) (fun c_ h_ => by obtain rfl := k37_open h_; exact k37_mk _ _) y693 Ny693.out ?_; intro w43 hs_ hk_; refine hK_ _ _ ?_; clear hK_ K_; replace HS := Aside0.mk ((SL.back4 (show SL (row k37 37 (.slice (some adq692) t681.length cz3000082) y693 :: _) _ _ from hs_))); replace HK := Aside0.mk (HK.out.trans hk_)))
         go_roundg k2
         case measure => have := HQ1.out; have := HQ2.out; omega
         case rel => exact ⟨(y693), (wrap64 (x28_0 + 1)), (by first | rfl | (simp; done) | (simp [*]; done)), H', ⟨by have := HQ1.out; have := HQ2.out; omega⟩, HS, HK⟩
        ·rw [if_neg c42] at H
         exact absurd H (by simp)
       ·rw [if_neg c41] at H
        have c41b0 : decide (x28_0 < (t681.length : Int)) = false := decide_eq_false c41
        clear c41
        have H' := Aside0.mk H
        clear H
        go_wp2
        go_loopg [29] k2 (fun kq v29 w' => ∃ (y3000084_1 : List (S37)) (y3000082_1 : List (S37)) (x29_1 : Int), v29 = .int .i64 x29_1 ∧ Aside0 (barrowlaw33_ZoneTells.l1 kq l0 a1_14 x29_1 y3000084_1 t670 y672 t685 x27_299 = some r) ∧ Aside0 (kq ≤ k2) ∧ Aside0 (SL (row k37 37 (.slice Az3000085 t687.length cz3000085) t687 :: row k37 37 (.slice A673 y672.length c674) y672 :: row k37 37 (.slice Az3000084 t685.length cz3000084) y3000084_1 :: row k37 37 (.slice Az3000083 t683.length cz3000083) t683 :: row k37 37 (.slice Az3000082 t681.length cz3000082) y3000082_1 :: row k37 37 (.slice Az3000081 t678.length cz3000081) t678 :: row k37 37 (.slice Az3000080 t675.length cz3000080) t675 :: cells g3000078 31 [.int .i64 a4_0, .int .i64 a4_1].toArray :: cells g3000077 37 [.int .i64 a1_0, .int .i64 a1_1, .int .i64 a1_2, .int .i64 a1_3, .int .i64 a1_4, .int .i64 a1_5, .int .i64 a1_6, .int .i64 a1_7, .int .i64 a1_8, .int .i64 a1_9, .int .i64 a1_10, .int .i64 a1_11, .int .i64 a1_12, .int .i64 a1_13, .int .i64 a1_14, .int .i64 a1_15].toArray :: L) w' S) ∧ Aside0 (Keep S w w'))
        case atStart => exact ⟨(t685), (y3000082_0), (0), (by first | rfl | (simp; done) | (simp [*]; done)), H', ⟨Nat.le_refl _⟩, HS, HK⟩
        case round =>
         clear H' HS HK
         obtain ⟨y3000084_1, y3000082_1, x29_1, rfl, HA, HQ3, HS, HK⟩ := hrel
         cases gk with
         | zero => exact absurd HA.out (by simp [barrowlaw33_ZoneTells.l1])
         | succ k3 =>
          have H := HA.out
          clear HA
          simp only [barrowlaw33_ZoneTells.l1] at H
          by_cases c44 : x29_1 < (t685.length : Int)
          ·rw [if_pos c44] at H
           have c44b0 : decide (x29_1 < (t685.length : Int)) = true := decide_eq_true c44
           clear c44
           by_cases c45 : 0 ≤ x29_1
           ·rw [if_pos c45] at H
            have c45b0 : decide (0 ≤ x29_1) = true := decide_eq_true c45
            clear c45
            replace H := Option.bind_eq_some_iff.1 H
            obtain ⟨y695, hy6950, H⟩ := H
            try dsimp only at H
            have hy695 := Option.some.inj hy6950
            clear hy6950
            have Ny695 := Aside0.mk hy695
            clear hy695
            have H' := Aside0.mk H
            clear H
            have pq694 : 0 ≤ (x29_1 : Int) := of_decide_eq_true (by first | (with_reducible assumption) | assumption)
            have qq694 : x29_1 < ((t685.length : Int) : Int) := of_decide_eq_true (by first | (with_reducible assumption) | assumption)
            obtain ⟨adq694, eq694, hxq694_0, hxq694_1, hxq694_2, hxq694_3, hxq694_4, hxq694_5, hxq694_6, hxq694_7, hxq694_8, hxq694_9, hxq694_10, hxq694_11, hxq694_12, hxq694_13, hxq694_14, hxq694_15⟩ := at_T37 (SL.row_c (SL.get2 HS.out)).2.2 x29_1 pq694 qq694
            cases eq694
            replace pq694 := eq_true pq694
            replace qq694 := eq_true qq694
            go_wp2_with (first | ((with_reducible refine gate_store (t := 3) (p := 134) (v := (.const (.int .i64 (-7)))) rfl ?_); refine wpList_plain rfl (fun K_ hK_ => ?_); refine op_setF (S := S) (d := k37) ⟨fun h_ => h_⟩ 3 (.tmp 134) (.const (.int .i64 (-7))) rfl adq694 (x29_1) z37 0 [.int .i64 (-7)] (.int .i64 (-7)) (SL.get2 HS.out) _ (by intro g_ o_ h_; subst h_; first | rfl | (simp [Go.Addr.add]; done) | (simp [Go.Addr.add]; rfl) | (simp [Go.Addr.add]; constructor <;> split <;> simp_all [show k37.sz = 16 from rfl]) | (simp [Go.Addr.add]; split <;> simp_all [show k37.sz = 16 from rfl])) rfl (by rfl) rfl (by kernel_rfl) (by simp [Value.oneCell']) (of_decide_eq_true (by first | (with_reducible assumption) | assumption)) (of_decide_eq_true (by first | (with_reducible assumption) | assumption)) (Nat.le_of_ble_eq_true rfl) (⟨(-7), (⟨(rd_T37 y3000084_1 x29_1).f1.f0, (⟨(rd_T37 y3000084_1 x29_1).f1.f1.f0, (rd_T37 y3000084_1 x29_1).f1.f1.f1⟩ : S31), (⟨(rd_T37 y3000084_1 x29_1).f1.f2.f0, (rd_T37 y3000084_1 x29_1).f1.f2.f1⟩ : S31), (rd_T37 y3000084_1 x29_1).f1.f3, (rd_T37 y3000084_1 x29_1).f1.f4⟩ : S33), (rd_T37 y3000084_1 x29_1).f2, (rd_T37 y3000084_1 x29_1).f3, (rd_T37 y3000084_1 x29_1).f4, (⟨(rd_T37 y3000084_1 x29_1).f5.f0, (rd_T37 y3000084_1 x29_1).f5.f1, (rd_T37 y3000084_1 x29_1).f5.f2⟩ : S35), (rd_T37 y3000084_1 x29_1).f6, (rd_T37 y3000084_1 x29_1).f7⟩ : S37) (fun c_ h_ => by obtain rfl := k37_open h_; exact k37_mk _ _) y695 Ny695.out ?_; intro w46 hs_ hk_; refine hK_ _ _ ?_; clear hK_ K_; replace HS := Aside0.mk ((SL.back2 (show SL (row k37 37 (.slice (some adq694) t685.length cz3000084) y695 :: _) _ _ from hs_))); replace HK := Aside0.mk (HK.out.trans hk_)))
            go_roundg k3
            case measure => have := HQ1.out; have := HQ2.out; have := HQ3.out; omega
            case rel => exact ⟨(y695), (y3000082_1), (wrap64 (x29_1 + 1)), (by first | rfl | (simp; done) | (simp [*]; done)), H', ⟨by have := HQ1.out; have := HQ2.out; have := HQ3.out; omega⟩, HS, HK⟩
           ·rw [if_neg c45] at H
            exact absurd H (by simp)
          ·rw [if_neg c44] at H
           have c44b0 : decide (x29_1 < (t685.length : Int)) = false := decide_eq_false c44
           clear c44
           by_cases c47 : t670 = true
           ·subst c47
            rw [if_pos rfl] at H
            by_cases c48 : x27_299 = true
            ·subst c48
             rw [if_pos rfl] at H
             replace H := Option.bind_eq_some_iff.1 H
             obtain ⟨t696, Hc490, H⟩ := H
             try dsimp only at H
             have Hc49 := Aside0.mk Hc490
             clear Hc490
             replace H := Option.bind_eq_some_iff.1 H
             obtain ⟨t697, Hc500, H⟩ := H
             try dsimp only at H
             have Hc50 := Aside0.mk Hc500
             clear Hc500
             by_cases c51 : (t696 == t697) = true
             ·rw [if_pos c51] at H
              have c51b0 : (t696 == t697) = true := c51
              (try (have c51b1 : decide (t696 = t697) = true := by simpa using c51))
              (try (have c51b2 : (t696 == t697) = true := by simpa using c51))
              clear c51
              replace H := Option.bind_eq_some_iff.1 H
              obtain ⟨t698, Hc520, H⟩ := H
              try dsimp only at H
              have Hc52 := Aside0.mk Hc520
              clear Hc520
              replace H := Option.bind_eq_some_iff.1 H
              obtain ⟨t699, Hc530, H⟩ := H
              try dsimp only at H
              have Hc53 := Aside0.mk Hc530
              clear Hc530
              replace H := Option.bind_eq_some_iff.1 H
              obtain ⟨t700, Hc540, H⟩ := H
              try dsimp only at H
              have Hc54 := Aside0.mk Hc540
              clear Hc540
              by_cases c55 : t700 = true
              ·subst c55
               rw [if_pos rfl] at H
               replace H := Option.bind_eq_some_iff.1 H
               obtain ⟨t701, Hc560, H⟩ := H
               try dsimp only at H
               have Hc56 := Aside0.mk Hc560
               clear Hc560
               obtain rfl := Option.some.inj H
               try go_wp2
               refine start_ (n := 28) (S := fun w' => w'.cell? ⟨g3000077, 14, none⟩ = some (.int .i64 a1_14)) (ds := []) #[O,O,O,O,O,O,O,O,O,O,O,O,O,O,O,O,O,O,O,O,O,O,O,O,O,O,O,O] (by kernel_rfl) rfl rfl (bc (SL.get8 HS.out) 14 rfl) (fun hHeld => ?_); refine with_tabW barrowlaw33_ZoneTells.tab20 barrowlaw33_ZoneTells.bits20 (fun HT_ HW_ => ?_)
               replace HK := Aside0.mk (Keep.drew HK.out)
               replace HS := Aside0.mk (SL.drew HS.out)
               refine pure_ (i := 0) (N := some 135) (v := ?_) (a' := ?_) #[I,O,O,O,O,O,O,O,O,O,O,O,O,O,O,O,O,O,O,O,O,O,O,O,O,O,O,O] rfl rfl (any_of HT_.out (by kernel_rfl)) (fun _ _ _ h => h) (Or.inl ⟨by rfl, ?_⟩) ?_ ?_; rotate_left; · (intro w'; go_simp; with_reducible rfl)
               rotate_left; · (simp only [Act.put, sT, sZ, sS, i64_w, i32_w]; rfl)
               refine pure_ (i := 1) (N := some 136) (v := ?_) (a' := ?_) #[I,I,O,O,O,O,O,O,O,O,O,O,O,O,O,O,O,O,O,O,O,O,O,O,O,O,O,O] rfl rfl (any_of HT_.out (by kernel_rfl)) (fun _ _ _ h => h) (Or.inl ⟨by rfl, ?_⟩) ?_ ?_; rotate_left; · (intro w'; go_simp; with_reducible rfl)
               rotate_left; · (simp only [Act.put, sT, sZ, sS, i64_w, i32_w]; rfl)
               refine pure_ (i := 2) (N := some 137) (v := ?_) (a' := ?_) #[I,I,I,O,O,O,O,O,O,O,O,O,O,O,O,O,O,O,O,O,O,O,O,O,O,O,O,O] rfl rfl (any_of HT_.out (by kernel_rfl)) (fun _ _ _ h => h) (Or.inl ⟨by rfl, ?_⟩) ?_ ?_; rotate_left; · (intro w'; go_simp; with_reducible rfl)
               rotate_left; · (simp only [Act.put, sT, sZ, sS, i64_w, i32_w]; rfl)
               refine pure_ (i := 3) (N := some 138) (v := ?_) (a' := ?_) #[I,I,I,I,O,O,O,O,O,O,O,O,O,O,O,O,O,O,O,O,O,O,O,O,O,O,O,O] rfl rfl (any_of HT_.out (by kernel_rfl)) (fun _ _ _ h => h) (Or.inl ⟨by rfl, ?_⟩) ?_ ?_; rotate_left; · (intro w'; go_simp; with_reducible rfl)
               rotate_left; · (simp only [Act.put, sT, sZ, sS, i64_w, i32_w]; rfl)
               refine pure_ (i := 4) (N := some 139) (v := ?_) (a' := ?_) #[I,I,I,I,I,O,O,O,O,O,O,O,O,O,O,O,O,O,O,O,O,O,O,O,O,O,O,O] rfl rfl (any_of HT_.out (by kernel_rfl)) (fun _ _ _ h => h) (Or.inl ⟨by rfl, ?_⟩) ?_ ?_; rotate_left; · (intro w'; go_simp; with_reducible rfl)
               rotate_left; · (simp only [Act.put, sT, sZ, sS, i64_w, i32_w]; rfl)
               refine pure_ (i := 5) (N := some 140) (v := ?_) (a' := ?_) #[I,I,I,I,I,I,O,O,O,O,O,O,O,O,O,O,O,O,O,O,O,O,O,O,O,O,O,O] rfl rfl (any_of HT_.out (by kernel_rfl)) (fun _ _ _ h => h) (Or.inl ⟨by rfl, ?_⟩) ?_ ?_; rotate_left; · (intro w'; go_simp; with_reducible rfl)
               rotate_left; · (simp only [Act.put, sT, sZ, sS, i64_w, i32_w]; rfl)
               refine pure_ (i := 7) (N := some 142) (v := ?_) (a' := ?_) #[I,I,I,I,I,I,O,I,O,O,O,O,O,O,O,O,O,O,O,O,O,O,O,O,O,O,O,O] rfl rfl (any_of HT_.out (by kernel_rfl)) (fun _ _ _ h => h) (Or.inl ⟨by rfl, ?_⟩) ?_ ?_; rotate_left; · (intro w'; go_simp; with_reducible rfl)
               rotate_left; · (simp only [Act.put, sT, sZ, sS, i64_w, i32_w]; rfl)
               refine one_ (i := 6) (N := some 141) #[I,I,I,I,I,I,I,I,O,O,O,O,O,O,O,O,O,O,O,O,O,O,O,O,O,O,O,O] rfl rfl (one_of HT_.out (by kernel_rfl)) (by decide) (fun K hK => ?_)
               refine goes_ Try.func14 (by kernel_rfl) rfl #[.slice A673 y672.length c674] (by rfl) rfl rfl (by (try simp only [List.map_toArray, List.map_cons, List.map_nil]); first | done | rfl | (simp; done)) ?_
               (with_reducible refine (zone_Right.calls k3 _ _ _ _ _ (SL.row_c (SL.get1 HS.out)).2.2 (SL.row_c (SL.get1 HS.out)).2.1 Hc49.out).mono ?_)
               rintro e_ w57 ⟨rfl, hb_⟩
               refine ⟨_, rfl, ?_⟩
               replace HS := Aside0.mk (HS.out.below hb_)
               replace HK := Aside0.mk (HK.out.trans (Keep.below hb_))
               refine hK.out _ _ (bc (SL.get8 HS.out) 14 rfl) (fun hHeld => ?_)
               clear hK K
               refine norm_ (a' := ?_) ?_ ?_; rotate_left
               ·show Act.put _ (some 141) _ = _
                simp only [Act.put, sT, sZ, sS, i64_w, i32_w]
                rfl
               refine one_ (i := 8) (N := some 143) #[I,I,I,I,I,I,I,I,I,O,O,O,O,O,O,O,O,O,O,O,O,O,O,O,O,O,O,O] rfl rfl (one_of HT_.out (by kernel_rfl)) (by decide) (fun K hK => ?_)
               refine goes_ Try.func20 (by kernel_rfl) rfl #[.slice A0 l0.length c0] (by rfl) rfl rfl (by (try simp only [List.map_toArray, List.map_cons, List.map_nil]); first | done | rfl | (simp; done)) ?_
               (with_reducible refine (barrowref33_Right.calls k3 _ _ _ _ _ (RO.at_ HR0.out HK.out) HC0.out Hc50.out).mono ?_)
               rintro e_ w58 ⟨rfl, hb_⟩
               refine ⟨_, rfl, ?_⟩
               replace HS := Aside0.mk (HS.out.below hb_)
               replace HK := Aside0.mk (HK.out.trans (Keep.below hb_))
               refine hK.out _ _ (bc (SL.get8 HS.out) 14 rfl) (fun hHeld => ?_)
               clear hK K
               refine norm_ (a' := ?_) ?_ ?_; rotate_left
               ·show Act.put _ (some 143) _ = _
                simp only [Act.put, sT, sZ, sS, i64_w, i32_w]
                rfl
               refine pure_ (i := 9) (N := some 144) (v := ?_) (a' := ?_) #[I,I,I,I,I,I,I,I,I,I,O,O,O,O,O,O,O,O,O,O,O,O,O,O,O,O,O,O] rfl rfl (any_of HT_.out (by kernel_rfl)) (fun _ _ _ h => h) (Or.inl ⟨by rfl, ?_⟩) ?_ ?_; rotate_left; · (intro w'; go_simp; with_reducible rfl)
               rotate_left; · (simp only [Act.put, sT, sZ, sS, i64_w, i32_w]; rfl)
               refine pure_ (i := 10) (N := some 145) (v := ?_) (a' := ?_) #[I,I,I,I,I,I,I,I,I,I,I,O,O,O,O,O,O,O,O,O,O,O,O,O,O,O,O,O] rfl rfl (any_of HT_.out (by kernel_rfl)) (fun _ _ _ h => h) (Or.inl ⟨by rfl, ?_⟩) ?_ ?_; rotate_left; · (intro w'; go_simp; with_reducible rfl)
               rotate_left; · (simp only [Act.put, sT, sZ, sS, i64_w, i32_w]; rfl)
               refine pure_ (i := 11) (N := some 146) (v := ?_) (a' := ?_) #[I,I,I,I,I,I,I,I,I,I,I,I,O,O,O,O,O,O,O,O,O,O,O,O,O,O,O,O] rfl rfl (any_of HT_.out (by kernel_rfl)) (fun _ _ _ h => h) (Or.inl ⟨by rfl, ?_⟩) ?_ ?_; rotate_left; · (intro w'; go_simp; with_reducible rfl)
               rotate_left; · (simp only [Act.put, sT, sZ, sS, i64_w, i32_w]; rfl)
               refine pure_ (i := 12) (N := some 147) (v := ?_) (a' := ?_) #[I,I,I,I,I,I,I,I,I,I,I,I,I,O,O,O,O,O,O,O,O,O,O,O,O,O,O,O] rfl rfl (any_of HT_.out (by kernel_rfl)) (fun _ _ _ h => h) (Or.inl ⟨by rfl, ?_⟩) ?_ ?_; rotate_left; · (intro w'; go_simp; with_reducible rfl)
               rotate_left; · (simp only [Act.put, sT, sZ, sS, i64_w, i32_w]; rfl)
               refine pure_ (i := 13) (N := some 148) (v := ?_) (a' := ?_) #[I,I,I,I,I,I,I,I,I,I,I,I,I,I,O,O,O,O,O,O,O,O,O,O,O,O,O,O] rfl rfl (any_of HT_.out (by kernel_rfl)) (fun _ _ _ h => h) (Or.inl ⟨by rfl, ?_⟩) ?_ ?_; rotate_left; · (intro w'; go_simp; with_reducible rfl)
               rotate_left; · (simp only [Act.put, sT, sZ, sS, i64_w, i32_w]; rfl)
               refine pure_ (i := 16) (N := some 151) (v := ?_) (a' := ?_) #[I,I,I,I,I,I,I,I,I,I,I,I,I,I,O,O,I,O,O,O,O,O,O,O,O,O,O,O] rfl rfl (any_of HT_.out (by kernel_rfl)) (fun _ _ _ h => h) (Or.inl ⟨by rfl, ?_⟩) ?_ ?_; rotate_left; · (intro w'; go_simp; with_reducible rfl)
               rotate_left; · (simp only [Act.put, sT, sZ, sS, i64_w, i32_w]; rfl)
               refine pure_ (i := 17) (N := some 152) (v := ?_) (a' := ?_) #[I,I,I,I,I,I,I,I,I,I,I,I,I,I,O,O,I,I,O,O,O,O,O,O,O,O,O,O] rfl rfl (any_of HT_.out (by kernel_rfl)) (fun _ _ _ h => h) (Or.inl ⟨by rfl, ?_⟩) ?_ ?_; rotate_left; · (intro w'; go_simp; with_reducible rfl)
               rotate_left; · (simp only [Act.put, sT, sZ, sS, i64_w, i32_w]; rfl)
               refine take_ (i := 14) (N := some 149) (v := ?_) (a' := ?_) #[I,I,I,I,I,I,I,I,I,I,I,I,I,I,I,O,I,I,O,O,O,O,O,O,O,O,O,O] rfl rfl (take_ofW HT_.out HW_.out (by kernel_rfl)) (fun _ _ _ h => h) (Or.inl ⟨by rfl, ?_⟩) hHeld ?_ ?_; rotate_left
               ·intro w' s0
                go_simp
                with_reducible rfl
               rotate_left; · (simp only [Act.put, sT, sZ, sS, i64_w, i32_w]; rfl)
               refine take_ (i := 18) (N := some 153) (v := ?_) (a' := ?_) #[I,I,I,I,I,I,I,I,I,I,I,I,I,I,I,O,I,I,I,O,O,O,O,O,O,O,O,O] rfl rfl (take_ofW HT_.out HW_.out (by kernel_rfl)) (fun _ _ _ h => h) (Or.inl ⟨by rfl, ?_⟩) hHeld ?_ ?_; rotate_left
               ·intro w' s0
                go_simp
                with_reducible rfl
               rotate_left; · (simp only [Act.put, sT, sZ, sS, i64_w, i32_w]; rfl)
               refine one_ (i := 15) (N := some 150) #[I,I,I,I,I,I,I,I,I,I,I,I,I,I,I,I,I,I,I,O,O,O,O,O,O,O,O,O] rfl rfl (one_of HT_.out (by kernel_rfl)) (by decide) (fun K hK => ?_)
               refine goes_ Try.func22 (by kernel_rfl) rfl #[.slice A673 y672.length c674, .int .i64 a1_14] (by rfl) rfl rfl (by (try simp only [List.map_toArray, List.map_cons, List.map_nil]); first | done | rfl | (simp; done)) ?_
               (with_reducible refine (zone_Of.calls k3 _ _ _ _ _ _ (SL.row_c (SL.get1 HS.out)).2.2 (SL.row_c (SL.get1 HS.out)).2.1 Hc52.out).mono ?_)
               rintro e_ w59 ⟨v3000086_, rfl, ho3000086_, hb_⟩
               refine ⟨_, rfl, ?_⟩
               have hs_ := (SL.new (HF.out.keep HK.out) HS.out hb_ (row_of_R ho3000086_)).1
               obtain ⟨Az3000086, cz3000086, e2_, _, _⟩ := SL.row_reads hs_
               subst e2_
               replace HS := Aside0.mk (hs_)
               replace HK := Aside0.mk (HK.out.trans (Keep.below hb_))
               refine hK.out _ _ (bc (SL.get9 HS.out) 14 rfl) (fun hHeld => ?_)
               clear hK K
               refine norm_ (a' := ?_) ?_ ?_; rotate_left
               ·show Act.put _ (some 150) _ = _
                simp only [Act.put, sT, sZ, sS, i64_w, i32_w]
                rfl
               refine one_ (i := 19) (N := some 154) #[I,I,I,I,I,I,I,I,I,I,I,I,I,I,I,I,I,I,I,I,O,O,O,O,O,O,O,O] rfl rfl (one_of HT_.out (by kernel_rfl)) (by decide) (fun K hK => ?_)
               refine goes_ Try.func23 (by kernel_rfl) rfl #[.slice A0 l0.length c0, .int .i64 a1_14] (by rfl) rfl rfl (by (try simp only [List.map_toArray, List.map_cons, List.map_nil]); first | done | rfl | (simp; done)) ?_
               (with_reducible refine (barrowref33_Of.calls k3 _ _ _ _ _ _ (RO.at_ HR0.out HK.out) HC0.out Hc53.out).mono ?_)
               rintro e_ w60 ⟨v3000087_, rfl, ho3000087_, hb_⟩
               refine ⟨_, rfl, ?_⟩
               have hs_ := (SL.new (HF.out.keep HK.out) HS.out hb_ (row_of_R ho3000087_)).1
               obtain ⟨Az3000087, cz3000087, e2_, _, _⟩ := SL.row_reads hs_
               subst e2_
               replace HS := Aside0.mk (hs_)
               replace HK := Aside0.mk (HK.out.trans (Keep.below hb_))
               refine hK.out _ _ (bc (SL.get10 HS.out) 14 rfl) (fun hHeld => ?_)
               clear hK K
               refine norm_ (a' := ?_) ?_ ?_; rotate_left
               ·show Act.put _ (some 154) _ = _
                simp only [Act.put, sT, sZ, sS, i64_w, i32_w]
                rfl
               refine one_ (i := 20) (N := some 155) #[I,I,I,I,I,I,I,I,I,I,I,I,I,I,I,I,I,I,I,I,I,O,O,O,O,O,O,O] rfl rfl (one_of HT_.out (by kernel_rfl)) (by decide) (fun K hK => ?_)
               refine goes_ Try.func21 (by kernel_rfl) rfl #[.slice Az3000086 t698.length cz3000086, .slice Az3000087 t699.length cz3000087] (by rfl) rfl rfl (by (try simp only [List.map_toArray, List.map_cons, List.map_nil]); first | done | rfl | (simp; done)) ?_
               (with_reducible refine (barrowref02_Same.calls k3 _ _ _ _ _ _ _ _ (SL.row_c (SL.get1 HS.out)).2.2 (SL.row_c (SL.get1 HS.out)).2.1 (SL.row_c HS.out).2.2 (SL.row_c HS.out).2.1 Hc54.out).mono ?_)
               rintro e_ w61 ⟨rfl, hb_⟩
               refine ⟨_, rfl, ?_⟩
               replace hb_ := Drawn0.below hb_
               replace HS := Aside0.mk (HS.out.below hb_)
               replace HK := Aside0.mk (HK.out.trans (Keep.below hb_))
               refine hK.out _ _ (bc (SL.get10 HS.out) 14 rfl) (fun hHeld => ?_)
               clear hK K
               refine norm_ (a' := ?_) ?_ ?_; rotate_left
               ·show Act.put _ (some 155) _ = _
                simp only [Act.put, sT, sZ, sS, i64_w, i32_w]
                rfl
               refine pure_ (i := 21) (N := some 156) (v := ?_) (a' := ?_) #[I,I,I,I,I,I,I,I,I,I,I,I,I,I,I,I,I,I,I,I,I,I,O,O,O,O,O,O] rfl rfl (any_of HT_.out (by kernel_rfl)) (fun _ _ _ h => h) (Or.inl ⟨by rfl, ?_⟩) ?_ ?_; rotate_left; · (intro w'; go_simp; with_reducible rfl)
               rotate_left; · (simp only [Act.put, sT, sZ, sS, i64_w, i32_w]; rfl)
               refine pure_ (i := 22) (N := some 157) (v := ?_) (a' := ?_) #[I,I,I,I,I,I,I,I,I,I,I,I,I,I,I,I,I,I,I,I,I,I,I,O,O,O,O,O] rfl rfl (any_of HT_.out (by kernel_rfl)) (fun _ _ _ h => h) (Or.inl ⟨by rfl, ?_⟩) ?_ ?_; rotate_left; · (intro w'; go_simp; with_reducible rfl)
               rotate_left; · (simp only [Act.put, sT, sZ, sS, i64_w, i32_w]; rfl)
               refine pure_ (i := 23) (N := some 158) (v := ?_) (a' := ?_) #[I,I,I,I,I,I,I,I,I,I,I,I,I,I,I,I,I,I,I,I,I,I,I,I,O,O,O,O] rfl rfl (any_of HT_.out (by kernel_rfl)) (fun _ _ _ h => h) (Or.inl ⟨by rfl, ?_⟩) ?_ ?_; rotate_left; · (intro w'; go_simp; with_reducible rfl)
               rotate_left; · (simp only [Act.put, sT, sZ, sS, i64_w, i32_w]; rfl)
               refine pure_ (i := 24) (N := some 159) (v := ?_) (a' := ?_) #[I,I,I,I,I,I,I,I,I,I,I,I,I,I,I,I,I,I,I,I,I,I,I,I,I,O,O,O] rfl rfl (any_of HT_.out (by kernel_rfl)) (fun _ _ _ h => h) (Or.inl ⟨by rfl, ?_⟩) ?_ ?_; rotate_left; · (intro w'; go_simp; with_reducible rfl)
               rotate_left; · (simp only [Act.put, sT, sZ, sS, i64_w, i32_w]; rfl)
               refine one_ (i := 25) (N := some 160) #[I,I,I,I,I,I,I,I,I,I,I,I,I,I,I,I,I,I,I,I,I,I,I,I,I,I,O,O] rfl rfl (one_of HT_.out (by kernel_rfl)) (by decide) (fun K hK => ?_)
               refine goes_ Try.func10 (by kernel_rfl) rfl #[.slice A673 y672.length c674, .slice A0 l0.length c0] (by rfl) rfl rfl (by (try simp only [List.map_toArray, List.map_cons, List.map_nil]); first | done | rfl | (simp; done)) ?_
               (with_reducible refine (barrowref33_Same.calls k3 _ _ _ _ _ _ _ _ (SL.row_c (SL.get3 HS.out)).2.2 (SL.row_c (SL.get3 HS.out)).2.1 (RO.at_ HR0.out HK.out) HC0.out Hc56.out).mono ?_)
               rintro e_ w62 ⟨rfl, hb_⟩
               refine ⟨_, rfl, ?_⟩
               replace hb_ := Drawn0.below hb_
               replace HS := Aside0.mk (HS.out.below hb_)
               replace HK := Aside0.mk (HK.out.trans (Keep.below hb_))
               refine hK.out _ _ (bc (SL.get10 HS.out) 14 rfl) (fun hHeld => ?_)
               clear hK K
               refine norm_ (a' := ?_) ?_ ?_; rotate_left
               ·show Act.put _ (some 160) _ = _
                simp only [Act.put, sT, sZ, sS, i64_w, i32_w]
                rfl
               refine pure_ (i := 26) (N := some 161) (v := ?_) (a' := ?_) #[I,I,I,I,I,I,I,I,I,I,I,I,I,I,I,I,I,I,I,I,I,I,I,I,I,I,I,O] rfl rfl (any_of HT_.out (by kernel_rfl)) (fun _ _ _ h => h) (Or.inl ⟨by rfl, ?_⟩) ?_ ?_; rotate_left; · (intro w'; go_simp; with_reducible rfl)
               rotate_left; · (simp only [Act.put, sT, sZ, sS, i64_w, i32_w]; rfl)
               refine pure_ (i := 27) (N := some 10) (v := ?_) (a' := ?_) #[I,I,I,I,I,I,I,I,I,I,I,I,I,I,I,I,I,I,I,I,I,I,I,I,I,I,I,I] rfl rfl (any_of HT_.out (by kernel_rfl)) (fun _ _ _ h => h) (Or.inl ⟨by rfl, ?_⟩) ?_ ?_; rotate_left; · (intro w'; go_simp; with_reducible rfl)
               rotate_left; · (simp only [Act.put, sT, sZ, sS, i64_w, i32_w]; rfl)
               refine done_ (done_of HT_.out (by kernel_rfl)) ?_
               try go_wp2
               go_ret
               replace HS := Aside0.mk (SL.tail (SL.tail (SL.tail (SL.tail (SL.tail (SL.tail (SL.tail (SL.tail (SL.tail (SL.tail (SL.tail HS.out)))))))))))
               unfold barrowlaw33_ZoneTells.Post
               exact ⟨by first | rfl | (simp; done) | (simp [*]; done) | (simp at c51b0 ⊢; first | exact c51b0 | (simp [c51b0]; done)), HS.out, HK.out⟩
              ·replace c55 := Bool.eq_false_iff.mpr c55
               subst c55
               rw [if_neg (show ¬ (false = true) by decide)] at H
               exact absurd H (by simp)
             ·rw [if_neg c51] at H
              have c51b0 : (t696 == t697) = false := by simpa using c51
              (try (have c51b1 : decide (t696 = t697) = false := by simpa using c51))
              (try (have c51b2 : (t696 == t697) = false := by simpa using c51))
              (try (have c51b3 : ¬ (t696 = t697) := by simpa using c51))
              clear c51
              exact absurd H (by simp)
            ·replace c48 := Bool.eq_false_iff.mpr c48
             subst c48
             rw [if_neg (show ¬ (false = true) by decide)] at H
             exact absurd H (by simp)
           ·replace c47 := Bool.eq_false_iff.mpr c47
            subst c47
            rw [if_neg (show ¬ (false = true) by decide)] at H
            exact absurd H (by simp)
  ·rw [if_neg c6] at H
   exact absurd H (by simp)
theorem barrowlaw33_ZoneTells.calls (k : Nat) (A0 : Option Addr) (c0 : Nat) (l0 : List (S37)) (a1_0 : Int) (a1_1 : Int) (a1_2 : Int) (a1_3 : Int) (a1_4 : Int) (a1_5 : Int) (a1_6 : Int) (a1_7 : Int) (a1_8 : Int) (a1_9 : Int) (a1_10 : Int) (a1_11 : Int) (a1_12 : Int) (a1_13 : Int) (a1_14 : Int) (a1_15 : Int) (a2 : Int) (a3 : Int) (a4_0 : Int) (a4_1 : Int) (r : Bool) (w : World) (hr0 : Kd.C k37 w A0 l0.length l0) (hc0 : l0.length ≤ c0) (h : barrowlaw33_ZoneTells.f k l0 a1_0 a1_1 a1_2 a1_3 a1_4 a1_5 a1_6 a1_7 a1_8 a1_9 a1_10 a1_11 a1_12 a1_13 a1_14 a1_15 a2 a3 a4_0 a4_1 = some r) :
  Calls Try.prog 5 #[.slice A0 l0.length c0, .agg #[.int .i64 a1_0, .int .i64 a1_1, .int .i64 a1_2, .int .i64 a1_3, .int .i64 a1_4, .int .i64 a1_5, .int .i64 a1_6, .int .i64 a1_7, .int .i64 a1_8, .int .i64 a1_9, .int .i64 a1_10, .int .i64 a1_11, .int .i64 a1_12, .int .i64 a1_13, .int .i64 a1_14, .int .i64 a1_15], .int .i64 a2, .int .i64 a3, .agg #[.int .i64 a4_0, .int .i64 a4_1]] w fun e w' => e = .returned (.bool r) ∧ Below w.heap.size w w' :=
 (barrowlaw33_ZoneTells.slcalls k A0 c0 l0 a1_0 a1_1 a1_2 a1_3 a1_4 a1_5 a1_6 a1_7 a1_8 a1_9 a1_10 a1_11 a1_12 a1_13 a1_14 a1_15 a2 a3 a4_0 a4_1 r (news w) [] w (fresh_news w) trivial (RO.top hr0) hc0 h).mono fun _ _ h => ⟨h.1, h.2.2.to_below⟩

/-- THE ONE PURE STATEMENT of barrowlaw33_ZoneTells. -/
def barrowlaw33_ZoneTells.Pure : Prop := ∀ (l0 : List (S37)) (a1_0 : Int) (a1_1 : Int) (a1_2 : Int) (a1_3 : Int) (a1_4 : Int) (a1_5 : Int) (a1_6 : Int) (a1_7 : Int) (a1_8 : Int) (a1_9 : Int) (a1_10 : Int) (a1_11 : Int) (a1_12 : Int) (a1_13 : Int) (a1_14 : Int) (a1_15 : Int) (a2 : Int) (a3 : Int) (a4_0 : Int) (a4_1 : Int), (l0.length ≤ maxLen ∧ l0.length * 128 ≤ 140737488351232 ∧ ∀ x702_ ∈ l0, ((Lit.int .i64 x702_.f0).wf = true) ∧ (((Lit.int .i64 x702_.f1.f0).wf = true) ∧ (((Lit.int .i64 x702_.f1.f1.f0).wf = true) ∧ ((Lit.int .i64 x702_.f1.f1.f1).wf = true)) ∧ (((Lit.int .i64 x702_.f1.f2.f0).wf = true) ∧ ((Lit.int .i64 x702_.f1.f2.f1).wf = true)) ∧ ((Lit.int .i64 x702_.f1.f3).wf = true) ∧ ((Lit.int .i64 x702_.f1.f4).wf = true)) ∧ ((Lit.int .i64 x702_.f2).wf = true) ∧ ((Lit.int .i64 x702_.f3).wf = true) ∧ ((Lit.int .i64 x702_.f4).wf = true) ∧ (((Lit.int .i64 x702_.f5.f0).wf = true) ∧ ((Lit.int .i64 x702_.f5.f1).wf = true) ∧ ((Lit.int .i64 x702_.f5.f2).wf = true)) ∧ ((Lit.int .i64 x702_.f6).wf = true) ∧ ((Lit.int .i64 x702_.f7).wf = true)) → ((Lit.int .i64 a1_0).wf = true) → ((Lit.int .i64 a1_1).wf = true) → ((Lit.int .i64 a1_2).wf = true) → ((Lit.int .i64 a1_3).wf = true) → ((Lit.int .i64 a1_4).wf = true) → ((Lit.int .i64 a1_5).wf = true) → ((Lit.int .i64 a1_6).wf = true) → ((Lit.int .i64 a1_7).wf = true) → ((Lit.int .i64 a1_8).wf = true) → ((Lit.int .i64 a1_9).wf = true) → ((Lit.int .i64 a1_10).wf = true) → ((Lit.int .i64 a1_11).wf = true) → ((Lit.int .i64 a1_12).wf = true) → ((Lit.int .i64 a1_13).wf = true) → ((Lit.int .i64 a1_14).wf = true) → ((Lit.int .i64 a1_15).wf = true) → ((Lit.int .i64 a2).wf = true) → ((Lit.int .i64 a3).wf = true) → ((Lit.int .i64 a4_0).wf = true) → ((Lit.int .i64 a4_1).wf = true) → ∃ k, barrowlaw33_ZoneTells.f k l0 a1_0 a1_1 a1_2 a1_3 a1_4 a1_5 a1_6 a1_7 a1_8 a1_9 a1_10 a1_11 a1_12 a1_13 a1_14 a1_15 a2 a3 a4_0 a4_1 = some true

end Go.Proofs.Ytiadhonhjnbliaa.XZT
