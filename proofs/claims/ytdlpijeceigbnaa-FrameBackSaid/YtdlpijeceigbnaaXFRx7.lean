-- Written by xprint.py (a program of this session) for this claim
import Derived.Test.YtdlpijeceigbnaaXFRx0
import Derived.Test.YtdlpijeceigbnaaXFRx1
import Derived.Test.YtdlpijeceigbnaaXFRx2
import Derived.Test.YtdlpijeceigbnaaXFRx4
import Derived.Test.YtdlpijeceigbnaaXFRx5
import Derived.Test.YtdlpijeceigbnaaXFRx6
namespace Go.Proofs.Ytdlpijeceigbnaa.XFR
open Go.Proofs.YtdlpijeceigbnaaV Go.Proofs.YtdlpijeceigbnaaS
open Go.RowKit Go.Proofs.YtdlpijeceigbnaaW.PrintWords Go.Proofs.YtdlpijeceigbnaaW.PrintLast Go.Proofs.YtdlpijeceigbnaaW.PrintMore
attribute [local go_sem] max2_int min2_int max_two min_two max_three min_three max_four min_four   -- for this text's walks alone
set_option linter.unusedVariables false
set_option linter.unusedSimpArgs false

/-! ### barrowlaw04_FramePlays: function 3 -/
mutual
def barrowlaw04_FramePlays.l0 : Nat → (List (List Int)) → (List Int) → Int → Bool → (List Int) → (List Int) → Bool → Bool → Option (Bool)
  | 0, _, _, _, _, _, _, _, _ => none
  | k + 1, l0, l1, x9_0, t404, y3000028_0, z3000036_0, x3000029_1_0, x3000027_1_0 => if x9_0 < (l0.length : Int) then ((some (([] : List Int) : List Int)).bind fun y450 => (if 0 ≤ x9_0 then ((some (rd_L1 l0 x9_0 : List Int)).bind fun y452 => (if y450.length + y452.length < 140737488355328 then ((some (y450 ++ y452 : List Int)).bind fun y453 => ((frame_Feed_Push.f k y3000028_0 x3000027_1_0 y453).bind fun bt456 => ((some (rd_L1 l0 x9_0 : List Int)).bind fun y463 => ((barrowref04_Feed_Push.f k z3000036_0 x3000029_1_0 y463).bind fun bt464 => ((barrowref04_Same.f k bt456.1 bt464.1).bind fun t470 => (barrowlaw04_FramePlays.l1 k l0 l1 x9_0 0 y453 t404 y453 bt456.1 bt456.2.1 bt456.2.2.1 bt456.2.2.2 bt464.2.1 bt464.2.2.1 bt464.2.2.2 t470)))))) else (none))) else (none))) else ((frame_Wrap.f k l1).bind fun bt488 => ((barrowref04_Wrap.f k l1).bind fun bt490 => (if t404 = true then (if (strOfNums bt488.1).toList = (strOfNums bt490.1).toList then (if bt488.2 = bt490.2 then (some true) else (none)) else (none)) else (none))))
def barrowlaw04_FramePlays.l1 : Nat → (List (List Int)) → (List Int) → Int → Int → (List Int) → Bool → (List Int) → (List (List Int)) → Int → (List Int) → Bool → Int → (List Int) → Bool → Bool → Option (Bool)
  | 0, _, _, _, _, _, _, _, _, _, _, _, _, _, _, _ => none
  | k + 1, l0, l1, x9_0, x16_1, y3000030_1, t404, y453, t456, t457, t458, t461, t465, t466, t469, t470 => if x16_1 < (y453.length : Int) then (if 0 ≤ x16_1 then ((some (y3000030_1.set (x16_1).toNat 99 : List Int)).bind fun y472 => (barrowlaw04_FramePlays.l1 k l0 l1 x9_0 (wrap64 (x16_1 + 1)) y472 t404 y453 t456 t457 t458 t461 t465 t466 t469 t470)) else (none)) else (barrowlaw04_FramePlays.l2 k l0 l1 x9_0 0 t456 t404 t456 t457 t458 t461 t465 t466 t469 t470)
def barrowlaw04_FramePlays.l2 : Nat → (List (List Int)) → (List Int) → Int → Int → (List (List Int)) → Bool → (List (List Int)) → Int → (List Int) → Bool → Int → (List Int) → Bool → Bool → Option (Bool)
  | 0, _, _, _, _, _, _, _, _, _, _, _, _, _, _ => none
  | k + 1, l0, l1, x9_0, x17_2, y3000031_2, t404, t456, t457, t458, t461, t465, t466, t469, t470 => if x17_2 < (t456.length : Int) then (barrowlaw04_FramePlays.l3 k l0 l1 x9_0 x17_2 0 y3000031_2 t404 t456 t457 t458 t461 t465 t466 t469 t470) else (if t470 = true then (if t457 = t465 then ((frame_Feed_Waits.f t458 t461).bind fun bt478 => (if bt478.1 = (t466.length : Int) then ((frame_Feed_Dead.f bt478.2.1 bt478.2.2).bind fun bt483 => (if (bt483.1 != t469) = true then (none) else (barrowlaw04_FramePlays.l0 k l0 l1 (wrap64 (x9_0 + 1)) t404 bt483.2.1 t466 t469 bt483.2.2))) else (none))) else (none)) else (none))
def barrowlaw04_FramePlays.l3 : Nat → (List (List Int)) → (List Int) → Int → Int → Int → (List (List Int)) → Bool → (List (List Int)) → Int → (List Int) → Bool → Int → (List Int) → Bool → Bool → Option (Bool)
  | 0, _, _, _, _, _, _, _, _, _, _, _, _, _, _, _ => none
  | k + 1, l0, l1, x9_0, x17_2, x18_3, y3000031_3, t404, t456, t457, t458, t461, t465, t466, t469, t470 => if 0 ≤ x17_2 then (if x17_2 < (t456.length : Int) then ((some (rd_L1 y3000031_3 x17_2 : List Int)).bind fun y474 => (if x18_3 < (y474.length : Int) then (if 0 ≤ x18_3 then ((some (y3000031_3.set (x17_2).toNat ((y474).set (x18_3).toNat 98) : List (List Int))).bind fun y477 => (barrowlaw04_FramePlays.l3 k l0 l1 x9_0 x17_2 (wrap64 (x18_3 + 1)) y477 t404 t456 t457 t458 t461 t465 t466 t469 t470)) else (none)) else (barrowlaw04_FramePlays.l2 k l0 l1 x9_0 (wrap64 (x17_2 + 1)) y3000031_3 t404 t456 t457 t458 t461 t465 t466 t469 t470))) else (none)) else (none)
end
def barrowlaw04_FramePlays.f (k : Nat) (l0 : List (List Int)) (l1 : List Int) : Option (Bool) := (barrowlaw04_small.f k).bind fun t404 => ((barrowlaw04_few.f k l0).bind fun t405 => ((frame_New.f).bind fun bt406 => (if t405 = true then (if (l1.length : Int) > 8192 then (if t404 = true then (some true) else (none)) else (barrowlaw04_FramePlays.l0 k l0 l1 0 t404 bt406.1 ([] : List Int) false bt406.2)) else (if t404 = true then (some true) else (none)))))
theorem barrowlaw04_FramePlays.mono_l : ∀ k, (∀ y0 y1 y2 y3 y4 y5 y6 y7, LeO (barrowlaw04_FramePlays.l0 k y0 y1 y2 y3 y4 y5 y6 y7) (barrowlaw04_FramePlays.l0 (k + 1) y0 y1 y2 y3 y4 y5 y6 y7)) ∧ (∀ y0 y1 y2 y3 y4 y5 y6 y7 y8 y9 y10 y11 y12 y13 y14, LeO (barrowlaw04_FramePlays.l1 k y0 y1 y2 y3 y4 y5 y6 y7 y8 y9 y10 y11 y12 y13 y14) (barrowlaw04_FramePlays.l1 (k + 1) y0 y1 y2 y3 y4 y5 y6 y7 y8 y9 y10 y11 y12 y13 y14)) ∧ (∀ y0 y1 y2 y3 y4 y5 y6 y7 y8 y9 y10 y11 y12 y13, LeO (barrowlaw04_FramePlays.l2 k y0 y1 y2 y3 y4 y5 y6 y7 y8 y9 y10 y11 y12 y13) (barrowlaw04_FramePlays.l2 (k + 1) y0 y1 y2 y3 y4 y5 y6 y7 y8 y9 y10 y11 y12 y13)) ∧ (∀ y0 y1 y2 y3 y4 y5 y6 y7 y8 y9 y10 y11 y12 y13 y14, LeO (barrowlaw04_FramePlays.l3 k y0 y1 y2 y3 y4 y5 y6 y7 y8 y9 y10 y11 y12 y13 y14) (barrowlaw04_FramePlays.l3 (k + 1) y0 y1 y2 y3 y4 y5 y6 y7 y8 y9 y10 y11 y12 y13 y14))
  | 0 => ⟨fun _ _ _ _ _ _ _ _ r h => by simp [barrowlaw04_FramePlays.l0] at h, fun _ _ _ _ _ _ _ _ _ _ _ _ _ _ _ r h => by simp [barrowlaw04_FramePlays.l1] at h, fun _ _ _ _ _ _ _ _ _ _ _ _ _ _ r h => by simp [barrowlaw04_FramePlays.l2] at h, fun _ _ _ _ _ _ _ _ _ _ _ _ _ _ _ r h => by simp [barrowlaw04_FramePlays.l3] at h⟩
  | k + 1 => by
    obtain ⟨ih0, ih1, ih2, ih3⟩ := barrowlaw04_FramePlays.mono_l k
    refine ⟨?_, ?_, ?_, ?_⟩
    · intro y0 y1 y2 y3 y4 y5 y6 y7
      unfold barrowlaw04_FramePlays.l0
      repeat' first
      | (with_reducible exact ih0 _ _ _ _ _ _ _ _)
      | (with_reducible exact ih1 _ _ _ _ _ _ _ _ _ _ _ _ _ _ _)
      | (with_reducible exact ih2 _ _ _ _ _ _ _ _ _ _ _ _ _ _)
      | (with_reducible exact ih3 _ _ _ _ _ _ _ _ _ _ _ _ _ _ _)
      | (with_reducible exact barrowlaw04_few.mono _ _)
      | (with_reducible exact barrowlaw04_small.mono _)
      | (with_reducible exact barrowref04_Feed_Push.mono _ _ _ _)
      | (with_reducible exact barrowref04_Same.mono _ _ _)
      | (with_reducible exact barrowref04_Wrap.mono _ _)
      | (with_reducible exact frame_Feed_Push.mono _ _ _ _)
      | (with_reducible exact frame_Wrap.mono _ _)
      | (with_reducible exact LeO.refl _)
      | (with_reducible exact LeO.none _)
      | (with_reducible refine LeO.ite ?_ ?_)
      | (with_reducible refine LeO.bind ?_ (fun _ => ?_))
      | exact ih0 _ _ _ _ _ _ _ _
      | exact ih1 _ _ _ _ _ _ _ _ _ _ _ _ _ _ _
      | exact ih2 _ _ _ _ _ _ _ _ _ _ _ _ _ _
      | exact ih3 _ _ _ _ _ _ _ _ _ _ _ _ _ _ _
      | exact barrowlaw04_few.mono _ _
      | exact barrowlaw04_small.mono _
      | exact barrowref04_Feed_Push.mono _ _ _ _
      | exact barrowref04_Same.mono _ _ _
      | exact barrowref04_Wrap.mono _ _
      | exact frame_Feed_Push.mono _ _ _ _
      | exact frame_Wrap.mono _ _
      | exact LeO.none _
      | refine LeO.ite ?_ ?_
      | refine LeO.bind ?_ (fun _ => ?_)
    · intro y0 y1 y2 y3 y4 y5 y6 y7 y8 y9 y10 y11 y12 y13 y14
      unfold barrowlaw04_FramePlays.l1
      repeat' first
      | (with_reducible exact ih0 _ _ _ _ _ _ _ _)
      | (with_reducible exact ih1 _ _ _ _ _ _ _ _ _ _ _ _ _ _ _)
      | (with_reducible exact ih2 _ _ _ _ _ _ _ _ _ _ _ _ _ _)
      | (with_reducible exact ih3 _ _ _ _ _ _ _ _ _ _ _ _ _ _ _)
      | (with_reducible exact barrowlaw04_few.mono _ _)
      | (with_reducible exact barrowlaw04_small.mono _)
      | (with_reducible exact barrowref04_Feed_Push.mono _ _ _ _)
      | (with_reducible exact barrowref04_Same.mono _ _ _)
      | (with_reducible exact barrowref04_Wrap.mono _ _)
      | (with_reducible exact frame_Feed_Push.mono _ _ _ _)
      | (with_reducible exact frame_Wrap.mono _ _)
      | (with_reducible exact LeO.refl _)
      | (with_reducible exact LeO.none _)
      | (with_reducible refine LeO.ite ?_ ?_)
      | (with_reducible refine LeO.bind ?_ (fun _ => ?_))
      | exact ih0 _ _ _ _ _ _ _ _
      | exact ih1 _ _ _ _ _ _ _ _ _ _ _ _ _ _ _
      | exact ih2 _ _ _ _ _ _ _ _ _ _ _ _ _ _
      | exact ih3 _ _ _ _ _ _ _ _ _ _ _ _ _ _ _
      | exact barrowlaw04_few.mono _ _
      | exact barrowlaw04_small.mono _
      | exact barrowref04_Feed_Push.mono _ _ _ _
      | exact barrowref04_Same.mono _ _ _
      | exact barrowref04_Wrap.mono _ _
      | exact frame_Feed_Push.mono _ _ _ _
      | exact frame_Wrap.mono _ _
      | exact LeO.none _
      | refine LeO.ite ?_ ?_
      | refine LeO.bind ?_ (fun _ => ?_)
    · intro y0 y1 y2 y3 y4 y5 y6 y7 y8 y9 y10 y11 y12 y13
      unfold barrowlaw04_FramePlays.l2
      repeat' first
      | (with_reducible exact ih0 _ _ _ _ _ _ _ _)
      | (with_reducible exact ih1 _ _ _ _ _ _ _ _ _ _ _ _ _ _ _)
      | (with_reducible exact ih2 _ _ _ _ _ _ _ _ _ _ _ _ _ _)
      | (with_reducible exact ih3 _ _ _ _ _ _ _ _ _ _ _ _ _ _ _)
      | (with_reducible exact barrowlaw04_few.mono _ _)
      | (with_reducible exact barrowlaw04_small.mono _)
      | (with_reducible exact barrowref04_Feed_Push.mono _ _ _ _)
      | (with_reducible exact barrowref04_Same.mono _ _ _)
      | (with_reducible exact barrowref04_Wrap.mono _ _)
      | (with_reducible exact frame_Feed_Push.mono _ _ _ _)
      | (with_reducible exact frame_Wrap.mono _ _)
      | (with_reducible exact LeO.refl _)
      | (with_reducible exact LeO.none _)
      | (with_reducible refine LeO.ite ?_ ?_)
      | (with_reducible refine LeO.bind ?_ (fun _ => ?_))
      | exact ih0 _ _ _ _ _ _ _ _
      | exact ih1 _ _ _ _ _ _ _ _ _ _ _ _ _ _ _
      | exact ih2 _ _ _ _ _ _ _ _ _ _ _ _ _ _
      | exact ih3 _ _ _ _ _ _ _ _ _ _ _ _ _ _ _
      | exact barrowlaw04_few.mono _ _
      | exact barrowlaw04_small.mono _
      | exact barrowref04_Feed_Push.mono _ _ _ _
      | exact barrowref04_Same.mono _ _ _
      | exact barrowref04_Wrap.mono _ _
      | exact frame_Feed_Push.mono _ _ _ _
      | exact frame_Wrap.mono _ _
      | exact LeO.none _
      | refine LeO.ite ?_ ?_
      | refine LeO.bind ?_ (fun _ => ?_)
    · intro y0 y1 y2 y3 y4 y5 y6 y7 y8 y9 y10 y11 y12 y13 y14
      unfold barrowlaw04_FramePlays.l3
      repeat' first
      | (with_reducible exact ih0 _ _ _ _ _ _ _ _)
      | (with_reducible exact ih1 _ _ _ _ _ _ _ _ _ _ _ _ _ _ _)
      | (with_reducible exact ih2 _ _ _ _ _ _ _ _ _ _ _ _ _ _)
      | (with_reducible exact ih3 _ _ _ _ _ _ _ _ _ _ _ _ _ _ _)
      | (with_reducible exact barrowlaw04_few.mono _ _)
      | (with_reducible exact barrowlaw04_small.mono _)
      | (with_reducible exact barrowref04_Feed_Push.mono _ _ _ _)
      | (with_reducible exact barrowref04_Same.mono _ _ _)
      | (with_reducible exact barrowref04_Wrap.mono _ _)
      | (with_reducible exact frame_Feed_Push.mono _ _ _ _)
      | (with_reducible exact frame_Wrap.mono _ _)
      | (with_reducible exact LeO.refl _)
      | (with_reducible exact LeO.none _)
      | (with_reducible refine LeO.ite ?_ ?_)
      | (with_reducible refine LeO.bind ?_ (fun _ => ?_))
      | exact ih0 _ _ _ _ _ _ _ _
      | exact ih1 _ _ _ _ _ _ _ _ _ _ _ _ _ _ _
      | exact ih2 _ _ _ _ _ _ _ _ _ _ _ _ _ _
      | exact ih3 _ _ _ _ _ _ _ _ _ _ _ _ _ _ _
      | exact barrowlaw04_few.mono _ _
      | exact barrowlaw04_small.mono _
      | exact barrowref04_Feed_Push.mono _ _ _ _
      | exact barrowref04_Same.mono _ _ _
      | exact barrowref04_Wrap.mono _ _
      | exact frame_Feed_Push.mono _ _ _ _
      | exact frame_Wrap.mono _ _
      | exact LeO.none _
      | refine LeO.ite ?_ ?_
      | refine LeO.bind ?_ (fun _ => ?_)
theorem barrowlaw04_FramePlays.mono : ∀ a0 a1 k, LeO (barrowlaw04_FramePlays.f k a0 a1) (barrowlaw04_FramePlays.f (k + 1) a0 a1) := by
  intro a0 a1 k
  obtain ⟨ih0, ih1, ih2, ih3⟩ := barrowlaw04_FramePlays.mono_l k
  unfold barrowlaw04_FramePlays.f
  repeat' first
      | (with_reducible exact ih0 _ _ _ _ _ _ _ _)
      | (with_reducible exact ih1 _ _ _ _ _ _ _ _ _ _ _ _ _ _ _)
      | (with_reducible exact ih2 _ _ _ _ _ _ _ _ _ _ _ _ _ _)
      | (with_reducible exact ih3 _ _ _ _ _ _ _ _ _ _ _ _ _ _ _)
      | (with_reducible exact barrowlaw04_few.mono _ _)
      | (with_reducible exact barrowlaw04_small.mono _)
      | (with_reducible exact barrowref04_Feed_Push.mono _ _ _ _)
      | (with_reducible exact barrowref04_Same.mono _ _ _)
      | (with_reducible exact barrowref04_Wrap.mono _ _)
      | (with_reducible exact frame_Feed_Push.mono _ _ _ _)
      | (with_reducible exact frame_Wrap.mono _ _)
      | (with_reducible exact LeO.refl _)
      | (with_reducible exact LeO.none _)
      | (with_reducible refine LeO.ite ?_ ?_)
      | (with_reducible refine LeO.bind ?_ (fun _ => ?_))
      | exact ih0 _ _ _ _ _ _ _ _
      | exact ih1 _ _ _ _ _ _ _ _ _ _ _ _ _ _ _
      | exact ih2 _ _ _ _ _ _ _ _ _ _ _ _ _ _
      | exact ih3 _ _ _ _ _ _ _ _ _ _ _ _ _ _ _
      | exact barrowlaw04_few.mono _ _
      | exact barrowlaw04_small.mono _
      | exact barrowref04_Feed_Push.mono _ _ _ _
      | exact barrowref04_Same.mono _ _ _
      | exact barrowref04_Wrap.mono _ _
      | exact frame_Feed_Push.mono _ _ _ _
      | exact frame_Wrap.mono _ _
      | exact LeO.none _
      | refine LeO.ite ?_ ?_
      | refine LeO.bind ?_ (fun _ => ?_)
def barrowlaw04_FramePlays.T25 : Bool × List (List Nat × List Nat) := (true, [([], []), ([0], [0]), ([1], [1]), ([2], [2]), ([2], [2]), ([3, 4, 2], [2, 3, 4]), ([2, 5], [2, 5]), ([6, 2], [6]), ([7], [7]), ([8, 7, 7], [7, 8]), ([7], [7]), ([10, 7], [7, 10]), ([11, 7], [7, 11]), ([12, 7], [7, 12]), ([13, 7], [7, 13]), ([9, 14, 7], [7, 9, 14]), ([7, 15], [7, 15]), ([16, 9], [16]), ([17], [17]), ([18, 17, 17], [17, 18]), ([17], [17]), ([20, 17], [17, 20]), ([21, 17], [17, 21]), ([22, 17], [17, 22]), ([19, 23, 17], [17, 19, 23]), ([17, 24], [17, 24])])
def barrowlaw04_FramePlays.B25 : List Nat := [0, 1, 3, 7, 7, 31, 63, 127, 255, 511, 255, 1279, 3327, 7423, 15615, 32767, 65535, 131071, 262143, 524287, 262143, 1310719, 3407871, 7602175, 16777215, 33554431]
theorem barrowlaw04_FramePlays.tab25 : rtab .any (opsOf Try.f3 25) = barrowlaw04_FramePlays.T25 := by kernel_rfl
theorem barrowlaw04_FramePlays.bits25 : waitsOk barrowlaw04_FramePlays.T25.2 barrowlaw04_FramePlays.B25 = true := by kernel_rfl
def barrowlaw04_FramePlays.Post (r : Bool) (S : Nat → Prop) (L : List Asr) (w : World) (e : Ending) (w' : World) : Prop := e = .returned (.bool r) ∧ SL (L) w' S ∧ Keep S w w'
set_option maxHeartbeats 8000000 in
set_option maxRecDepth 100000 in
theorem barrowlaw04_FramePlays.slcalls (k : Nat) (A0 : Option Addr) (c0 : Nat) (l0 : List (List Int)) (A1 : Option Addr) (c1 : Nat) (l1 : List Int) (r : Bool) (S : Nat → Prop) (L : List Asr) (w : World) (hf : Fresh S w) (hs : SL (L) w S) (hr0 : RO S w (fun w_ => Kd.C (Kd.slice 5 (Kd.int .u8)) w_ A0 l0.length l0)) (hc0 : l0.length ≤ c0) (hr1 : RO S w (fun w_ => Kd.C (Kd.int .u8) w_ A1 l1.length l1)) (hc1 : l1.length ≤ c1) (h : barrowlaw04_FramePlays.f k l0 l1 = some r) :
    Calls Try.prog 3 #[.slice A0 l0.length c0, .slice A1 l1.length c1] w (barrowlaw04_FramePlays.Post r S L w) := by
  have HR0 := Aside0.mk hr0
  have HC0 := Aside0.mk hc0
  clear hr0 hc0
  have HR1 := Aside0.mk hr1
  have HC1 := Aside0.mk hc1
  clear hr1 hc1
  have HF := Aside0.mk hf
  have HS := Aside0.mk hs
  have HK := Aside0.mk (Keep.refl S w)
  clear hf hs
  have hu30 := Try.underlying30
  have H : ((barrowlaw04_small.f k).bind fun t404 => ((barrowlaw04_few.f k l0).bind fun t405 => ((frame_New.f).bind fun bt406 => (if t405 = true then (if (l1.length : Int) > 8192 then (if t404 = true then (some true) else (none)) else (barrowlaw04_FramePlays.l0 k l0 l1 0 t404 bt406.1 ([] : List Int) false bt406.2)) else (if t404 = true then (some true) else (none)))))) = some r := h
  clear h
  replace H := Option.bind_eq_some_iff.1 H
  obtain ⟨t404, Hc10, H⟩ := H
  try dsimp only at H
  have Hc1 := Aside0.mk Hc10
  clear Hc10
  replace H := Option.bind_eq_some_iff.1 H
  obtain ⟨t405, Hc20, H⟩ := H
  try dsimp only at H
  have Hc2 := Aside0.mk Hc20
  clear Hc20
  replace H := Option.bind_eq_some_iff.1 H
  obtain ⟨⟨t406, t407⟩, Hc30, H⟩ := H
  try dsimp only at H
  have Hc3 := Aside0.mk Hc30
  clear Hc30
  by_cases c4 : t405 = true
  · subst c4
    rw [if_pos rfl] at H
    by_cases c5 : (l1.length : Int) > 8192
    · rw [if_pos c5] at H
      have c5b0 : decide (8192 < (l1.length : Int)) = true := decide_eq_true c5
      have c5b1 : decide (8192 < l1.length) = true := decide_eq_true (by omega)
      clear c5
      by_cases c6 : t404 = true
      · subst c6
        rw [if_pos rfl] at H
        obtain rfl := Option.some.inj H
        go_enter Try.func3, Try.ntmps3
        go_wp2_with (first | ((with_reducible refine gate_dst (N := 23) rfl ?_); refine goesL_ (some 23) rfl rfl Try.func7 (by kernel_rfl) rfl #[] rfl (by (try simp only [List.map_toArray, List.map_cons, List.map_nil]); first | done | rfl | (simp; done)) ?_; have hs0_ := HS.out; (with_reducible refine (barrowlaw04_small.slcalls k _ _ _ _ (HF.out.keep HK.out) hs0_  Hc1.out).mono ?_); rintro e_ w7 ⟨rfl, hsr_, hkr_⟩; refine ⟨_, rfl, ?_⟩; have n1_ := Aside0.mk (HK.out.trans hkr_); have n2_ := Aside0.mk (hsr_); clear HK HS; have HK := n1_; have HS := n2_; clear n1_ n2_) | ((with_reducible refine gate_dst (N := 25) rfl ?_); refine goesL_ (some 25) rfl rfl Try.func8 (by kernel_rfl) rfl #[.slice A0 l0.length c0] rfl (by (try simp only [List.map_toArray, List.map_cons, List.map_nil]); first | done | rfl | (simp; done)) ?_; (with_reducible refine (barrowlaw04_few.calls k _ _ _ _ _ (RO.at_ HR0.out HK.out) HC0.out Hc2.out).mono ?_); rintro e_ w8 ⟨rfl, hb_⟩; refine ⟨_, rfl, ?_⟩; replace hb_ := Drawn0.below hb_; have n1_ := Aside0.mk (HK.out.trans (Keep.below hb_)); have n2_ := Aside0.mk (HS.out.below hb_); clear HK HS; have HK := n1_; have HS := n2_; clear n1_ n2_) | ((with_reducible refine gate_dst (N := 26) rfl ?_); refine goesL_ (some 26) rfl rfl Try.func9 (by kernel_rfl) rfl #[] rfl (by (try simp only [List.map_toArray, List.map_cons, List.map_nil]); first | done | rfl | (simp; done)) ?_; have hs0_ := HS.out; (with_reducible refine (frame_New.slcalls _ _ _ _ _ (HF.out.keep HK.out) hs0_  Hc3.out).mono ?_); rintro e_ w9 ⟨Az3000028, cz3000028, g3000027, rfl, hsr_, hkr_⟩; refine ⟨_, rfl, ?_⟩; have n1_ := Aside0.mk (HK.out.trans hkr_); have n2_ := Aside0.mk (hsr_); clear HK HS; have HK := n1_; have HS := n2_; clear n1_ n2_))
        go_ret
        have n2_ := Aside0.mk (SL.tail (SL.tail HS.out))
        clear HS
        have HS := n2_
        clear n2_
        unfold barrowlaw04_FramePlays.Post
        exact ⟨by first | rfl | (simp; done) | (simp [*]; done), HS.out, HK.out⟩
      · replace c6 := Bool.eq_false_iff.mpr c6
        subst c6
        rw [if_neg (show ¬ (false = true) by decide)] at H
        exact absurd H (by simp)
    · rw [if_neg c5] at H
      have c5b0 : decide (8192 < (l1.length : Int)) = false := decide_eq_false c5
      have c5b1 : decide (8192 < l1.length) = false := decide_eq_false (by omega)
      clear c5
      have H' := Aside0.mk H
      clear H
      go_enter Try.func3, Try.ntmps3
      go_wp2_with (first | ((with_reducible refine gate_dst (N := 23) rfl ?_); refine goesL_ (some 23) rfl rfl Try.func7 (by kernel_rfl) rfl #[] rfl (by (try simp only [List.map_toArray, List.map_cons, List.map_nil]); first | done | rfl | (simp; done)) ?_; have hs0_ := HS.out; (with_reducible refine (barrowlaw04_small.slcalls k _ _ _ _ (HF.out.keep HK.out) hs0_  Hc1.out).mono ?_); rintro e_ w10 ⟨rfl, hsr_, hkr_⟩; refine ⟨_, rfl, ?_⟩; have n1_ := Aside0.mk (HK.out.trans hkr_); have n2_ := Aside0.mk (hsr_); clear HK HS; have HK := n1_; have HS := n2_; clear n1_ n2_) | ((with_reducible refine gate_dst (N := 25) rfl ?_); refine goesL_ (some 25) rfl rfl Try.func8 (by kernel_rfl) rfl #[.slice A0 l0.length c0] rfl (by (try simp only [List.map_toArray, List.map_cons, List.map_nil]); first | done | rfl | (simp; done)) ?_; (with_reducible refine (barrowlaw04_few.calls k _ _ _ _ _ (RO.at_ HR0.out HK.out) HC0.out Hc2.out).mono ?_); rintro e_ w11 ⟨rfl, hb_⟩; refine ⟨_, rfl, ?_⟩; replace hb_ := Drawn0.below hb_; have n1_ := Aside0.mk (HK.out.trans (Keep.below hb_)); have n2_ := Aside0.mk (HS.out.below hb_); clear HK HS; have HK := n1_; have HS := n2_; clear n1_ n2_) | ((with_reducible refine gate_dst (N := 26) rfl ?_); refine goesL_ (some 26) rfl rfl Try.func9 (by kernel_rfl) rfl #[] rfl (by (try simp only [List.map_toArray, List.map_cons, List.map_nil]); first | done | rfl | (simp; done)) ?_; have hs0_ := HS.out; (with_reducible refine (frame_New.slcalls _ _ _ _ _ (HF.out.keep HK.out) hs0_  Hc3.out).mono ?_); rintro e_ w12 ⟨Az3000028, cz3000028, g3000027, rfl, hsr_, hkr_⟩; refine ⟨_, rfl, ?_⟩; have n1_ := Aside0.mk (HK.out.trans hkr_); have n2_ := Aside0.mk (hsr_); clear HK HS; have HK := n1_; have HS := n2_; clear n1_ n2_) | ((with_reducible refine gate_dst (N := 44) rfl ?_); refine wpList_plain rfl (fun K_ hK_ => ?_); refine op_box (S := S) (cs := #[.slice none 0 0, .bool false]) (t := 30) (HF.out.keep HK.out) HS.out (by first | (go_simp; done) | (go_simp; rfl)) ?_; intro g3000029 w13 hs_ hk_; refine hK_ _ _ ?_; clear hK_ K_; have n1_ := Aside0.mk (HK.out.trans hk_); have n2_ := Aside0.mk (hs_); clear HK HS; have HK := n1_; have HS := n2_; clear n1_ n2_; have n2_ := Aside0.mk (SL.nil_row (Kd.int .u8) 5 HS.out); clear HS; have HS := n2_; clear n2_))
      have n2_ := Aside0.mk (SL.get3 (SL.get3 (SL.get3 (SL.get3 HS.out))))
      clear HS
      have HS := n2_
      clear n2_
      go_loopg [9] k (fun kq v9 w' => ∃ (z3000036_0 : List Int) (Az3000036_0 : Option Addr) (cz3000036_0 : Nat) (x3000029_1_0 : Bool) (y3000028_0 : List Int) (x3000027_1_0 : Bool) (A3000028_0 : Option Addr) (c3000028_0 : Nat) (x9_0 : Int), v9 = .int .i64 x9_0 ∧ Aside0 (barrowlaw04_FramePlays.l0 kq l0 l1 x9_0 t404 y3000028_0 z3000036_0 x3000029_1_0 x3000027_1_0 = some r) ∧ Aside0 (kq ≤ k) ∧ Aside0 (SL (row (Kd.int .u8) 5 (.slice Az3000036_0 z3000036_0.length cz3000036_0) z3000036_0 :: cells g3000029 30 [.slice Az3000036_0 z3000036_0.length cz3000036_0, .bool x3000029_1_0].toArray :: cells g3000027 41 [.slice A3000028_0 y3000028_0.length c3000028_0, .bool x3000027_1_0].toArray :: row (Kd.int .u8) 5 (.slice A3000028_0 y3000028_0.length c3000028_0) y3000028_0 :: L) w' S) ∧ Aside0 (Keep S w w'))
      case atStart => exact ⟨(([] : List Int)), (none), (0), (false), (t406), (t407), (Az3000028), (cz3000028), (0), (by first | rfl | (simp; done) | (simp [*]; done)), H', ⟨Nat.le_refl _⟩, HS, HK⟩
      case round =>
        clear H' HS HK
        obtain ⟨z3000036_0, Az3000036_0, cz3000036_0, x3000029_1_0, y3000028_0, x3000027_1_0, A3000028_0, c3000028_0, x9_0, rfl, HA, HQ1, HS, HK⟩ := hrel
        cases gk with
        | zero => exact absurd HA.out (by simp [barrowlaw04_FramePlays.l0])
        | succ k1 =>
          have H := HA.out
          clear HA
          simp only [barrowlaw04_FramePlays.l0] at H
          by_cases c14 : x9_0 < (l0.length : Int)
          · rw [if_pos c14] at H
            have c14b0 : decide (x9_0 < (l0.length : Int)) = true := decide_eq_true c14
            clear c14
            replace H := Option.bind_eq_some_iff.1 H
            obtain ⟨y450, hy4500, H⟩ := H
            try dsimp only at H
            have hy450 := Option.some.inj hy4500
            clear hy4500
            have Ny450 := Aside0.mk hy450
            clear hy450
            by_cases c15 : 0 ≤ x9_0
            · rw [if_pos c15] at H
              have c15b0 : decide (0 ≤ x9_0) = true := decide_eq_true c15
              clear c15
              replace H := Option.bind_eq_some_iff.1 H
              obtain ⟨y452, hy4520, H⟩ := H
              try dsimp only at H
              have hy452 := Option.some.inj hy4520
              clear hy4520
              have Ny452 := Aside0.mk hy452
              clear hy452
              by_cases c16 : y450.length + y452.length < 140737488355328
              · rw [if_pos c16] at H
                have LMc16 := Aside0.mk c16
                clear c16
                replace H := Option.bind_eq_some_iff.1 H
                obtain ⟨y453, hy4530, H⟩ := H
                try dsimp only at H
                have hy453 := Option.some.inj hy4530
                clear hy4530
                have Ny453 := Aside0.mk hy453
                clear hy453
                replace H := Option.bind_eq_some_iff.1 H
                obtain ⟨⟨t456, t457, t458, t461⟩, Hc170, H⟩ := H
                try dsimp only at H
                have Hc17 := Aside0.mk Hc170
                clear Hc170
                replace H := Option.bind_eq_some_iff.1 H
                obtain ⟨y463, hy4630, H⟩ := H
                try dsimp only at H
                have hy463 := Option.some.inj hy4630
                clear hy4630
                have Ny463 := Aside0.mk hy463
                clear hy463
                replace H := Option.bind_eq_some_iff.1 H
                obtain ⟨⟨t464, t465, t466, t469⟩, Hc180, H⟩ := H
                try dsimp only at H
                have Hc18 := Aside0.mk Hc180
                clear Hc180
                replace H := Option.bind_eq_some_iff.1 H
                obtain ⟨t470, Hc190, H⟩ := H
                try dsimp only at H
                have Hc19 := Aside0.mk Hc190
                clear Hc190
                have H' := Aside0.mk H
                clear H
                go_wp2_with (first | ((with_reducible refine gate_dst (N := 51) rfl ?_); refine wpList_plain rfl (fun K_ hK_ => ?_); refine op_row (S := S) (enc := Value.int .u8) (h1 := fun _ => rfl) 5 y450 #[] 0 (by rw [← Ny450.out]; rfl) (by rw [← Ny450.out]; rfl) (by decide) (HF.out.keep HK.out) HS.out (by first | (go_simp; done) | (go_simp; rfl)) ?_; intro Az3000030 cz3000030 w20 hs_ hk_; refine hK_ _ _ ?_; clear hK_ K_; have n1_ := Aside0.mk (HK.out.trans hk_); have n2_ := Aside0.mk ((show SL (row (Kd.int .u8) 5 (.slice Az3000030 0 cz3000030) y450 :: _) _ _ from hs_)); clear HK HS; have HK := n1_; have HS := n2_; clear n1_ n2_; have pq451 : 0 ≤ (x9_0 : Int) := of_decide_eq_true (by first | (with_reducible assumption) | assumption); have qq451 : x9_0 < ((l0.length : Int) : Int) := of_decide_eq_true (by first | (with_reducible assumption) | assumption); obtain ⟨adq451, Aq451_0, cq451_0, eq451, hxxq451, hiq451, hlq451⟩ := RO.inner HR0.out x9_0 pq451 qq451 y452 Ny452.out; have hxq451_0 := hxxq451 _ HK.out; clear hxxq451; have HRq451_0 := Aside0.mk hiq451; have HCq451_0 := Aside0.mk hlq451; clear hiq451 hlq451; cases eq451; replace pq451 := eq_true pq451; replace qq451 := eq_true qq451) | ((with_reducible refine gate_dst (N := 56) rfl ?_); refine wpList_plain rfl (fun K_ hK_ => ?_); refine op_append (S := S) (enc := Value.int .u8) (h1 := fun _ => rfl) 0 (.tmp 51) (.tmp 55) 23 5 (.int .u8 0) 1 rfl Try.underlying23 info5 rfl (by decide) (.slice Az3000030 0 cz3000030) rfl rfl (HF.out.keep HK.out) HS.out (RO.at_ HRq451_0.out HK.out) (by have := LMc16.out; omega) y453 Ny453.out ?_; intro A454 c455 w21 hs_ hk_; refine hK_ _ _ ?_; clear hK_ K_; have n1_ := Aside0.mk (HK.out.trans hk_); have n2_ := Aside0.mk ((show SL (row (Kd.int .u8) 5 (.slice A454 y453.length c455) y453 :: _) _ _ from hs_)); clear HK HS; have HK := n1_; have HS := n2_; clear n1_ n2_) | ((with_reducible refine gate_dst (N := 60) rfl ?_); refine goesL_ (some 60) rfl rfl Try.func10 (by kernel_rfl) rfl #[.pointer (some ⟨g3000027, 0, none⟩), .slice A454 y453.length c455] rfl (by (try simp only [List.map_toArray, List.map_cons, List.map_nil]); first | done | rfl | (simp; done)) ?_; have hs0_ := (SL.get2 (SL.get4 (SL.get4 HS.out))); obtain ⟨U1_, hfU1_, hsub1_, hs1_, hro1_, hback1_⟩ := SL.lend (HF.out.keep HK.out) hs0_ (p := fun w_ => Kd.C (Kd.int .u8) w_ A454 y453.length y453) (fun w_ T_ h_ => (Qs_c h_).2.2); (with_reducible refine (frame_Feed_Push.slcalls k1 _ _ _ _ _ _ _ _ _ _ _ _ _ _ _ hfU1_ hs1_ hro1_ (SL.row_c HS.out).2.1 Hc17.out).mono ?_); rintro e_ w22 ⟨Az3000031, cz3000031, A459, c460, rfl, hsr_, hkr_⟩; refine ⟨_, rfl, ?_⟩; have n1_ := Aside0.mk (HK.out.trans (Keep.sub hkr_ (fun k_ h_ => hsub1_ k_ h_))); have n2_ := Aside0.mk ((hback1_ _ _ hkr_ hsr_)); clear HK HS; have HK := n1_; have HS := n2_; clear n1_ n2_; have pq462 : 0 ≤ (x9_0 : Int) := of_decide_eq_true (by first | (with_reducible assumption) | assumption); have qq462 : x9_0 < ((l0.length : Int) : Int) := of_decide_eq_true (by first | (with_reducible assumption) | assumption); obtain ⟨adq462, Aq462_0, cq462_0, eq462, hxxq462, hiq462, hlq462⟩ := RO.inner HR0.out x9_0 pq462 qq462 y463 Ny463.out; have hxq462_0 := hxxq462 _ HK.out; clear hxxq462; have HRq462_0 := Aside0.mk hiq462; have HCq462_0 := Aside0.mk hlq462; clear hiq462 hlq462; obtain rfl : adq451 = adq462 := (by injection eq462); replace pq462 := eq_true pq462; replace qq462 := eq_true qq462) | ((with_reducible refine gate_dst (N := 69) rfl ?_); refine goesL_ (some 69) rfl rfl Try.func11 (by kernel_rfl) rfl #[.pointer (some ⟨g3000029, 0, none⟩), .slice Aq462_0 y463.length cq462_0] rfl (by (try simp only [List.map_toArray, List.map_cons, List.map_nil]); first | done | rfl | (simp; done)) ?_; have hs0_ := (SL.get5 (SL.get4 HS.out)); (with_reducible refine (barrowref04_Feed_Push.slcalls k1 _ _ _ _ _ _ _ _ _ _ _ _ _ _ _ (HF.out.keep HK.out) hs0_ (HRq462_0.out.keep HK.out) HCq462_0.out Hc18.out).mono ?_); rintro e_ w23 ⟨Az3000033, cz3000033, A467, c468, rfl, hsr_, hkr_⟩; refine ⟨_, rfl, ?_⟩; have n1_ := Aside0.mk (HK.out.trans hkr_); have n2_ := Aside0.mk (hsr_); clear HK HS; have HK := n1_; have HS := n2_; clear n1_ n2_) | ((with_reducible refine gate_dst (N := 74) rfl ?_); refine goesL_ (some 74) rfl rfl Try.func12 (by kernel_rfl) rfl #[.slice Az3000031 t456.length cz3000031, .slice Az3000033 t464.length cz3000033] rfl (by (try simp only [List.map_toArray, List.map_cons, List.map_nil]); first | done | rfl | (simp; done)) ?_; (with_reducible refine (barrowref04_Same.calls k1 _ _ _ _ _ _ _ _ (rows_c (d := (Kd.slice 5 (Kd.int .u8))) reads_inn rfl (SL.get6 HS.out)).2.2 (rows_c (d := (Kd.slice 5 (Kd.int .u8))) reads_inn rfl (SL.get6 HS.out)).2.1 (rows_c (d := (Kd.slice 5 (Kd.int .u8))) reads_inn rfl (SL.get2 HS.out)).2.2 (rows_c (d := (Kd.slice 5 (Kd.int .u8))) reads_inn rfl (SL.get2 HS.out)).2.1 Hc19.out).mono ?_); rintro e_ w24 ⟨rfl, hb_⟩; refine ⟨_, rfl, ?_⟩; replace hb_ := Drawn0.below hb_; have n1_ := Aside0.mk (HK.out.trans (Keep.below hb_)); have n2_ := Aside0.mk (HS.out.below hb_); clear HK HS; have HK := n1_; have HS := n2_; clear n1_ n2_))
                have n2_ := Aside0.mk (SL.get6 (SL.get6 (SL.get6 (SL.get6 (SL.get6 (SL.get6 (SL.get6 HS.out)))))))
                clear HS
                have HS := n2_
                clear n2_
                go_loopg [16] k1 (fun kq v16 w' => ∃ (y3000030_1 : List Int) (x16_1 : Int), v16 = .int .i64 x16_1 ∧ Aside0 (barrowlaw04_FramePlays.l1 kq l0 l1 x9_0 x16_1 y3000030_1 t404 y453 t456 t457 t458 t461 t465 t466 t469 t470 = some r) ∧ Aside0 (kq ≤ k1) ∧ Aside0 (SL (cells g3000029 30 [.slice A467 t466.length c468, .bool t469].toArray :: row (Kd.int .u8) 5 (.slice A467 t466.length c468) t466 :: rows (inn (Kd.int .u8) 5) 1 23 (.slice Az3000033 t464.length cz3000033) t464 :: row (Kd.int .u8) 5 (.slice A454 y453.length c455) y3000030_1 :: cells g3000027 41 [.slice A459 t458.length c460, .bool t461].toArray :: row (Kd.int .u8) 5 (.slice A459 t458.length c460) t458 :: rows (inn (Kd.int .u8) 5) 1 23 (.slice Az3000031 t456.length cz3000031) t456 :: L) w' S) ∧ Aside0 (Keep S w w'))
                case atStart => exact ⟨(y453), (0), (by first | rfl | (simp; done) | (simp [*]; done)), H', ⟨Nat.le_refl _⟩, HS, HK⟩
                case round =>
                  clear H' HS HK
                  obtain ⟨y3000030_1, x16_1, rfl, HA, HQ2, HS, HK⟩ := hrel
                  cases gk with
                  | zero => exact absurd HA.out (by simp [barrowlaw04_FramePlays.l1])
                  | succ k2 =>
                    have H := HA.out
                    clear HA
                    simp only [barrowlaw04_FramePlays.l1] at H
                    by_cases c25 : x16_1 < (y453.length : Int)
                    · rw [if_pos c25] at H
                      have c25b0 : decide (x16_1 < (y453.length : Int)) = true := decide_eq_true c25
                      clear c25
                      by_cases c26 : 0 ≤ x16_1
                      · rw [if_pos c26] at H
                        have c26b0 : decide (0 ≤ x16_1) = true := decide_eq_true c26
                        clear c26
                        replace H := Option.bind_eq_some_iff.1 H
                        obtain ⟨y472, hy4720, H⟩ := H
                        try dsimp only at H
                        have hy472 := Option.some.inj hy4720
                        clear hy4720
                        have Ny472 := Aside0.mk hy472
                        clear hy472
                        have H' := Aside0.mk H
                        clear H
                        have pq471 : 0 ≤ (x16_1 : Int) := of_decide_eq_true (by first | (with_reducible assumption) | assumption)
                        have qq471 : x16_1 < ((y453.length : Int) : Int) := of_decide_eq_true (by first | (with_reducible assumption) | assumption)
                        obtain ⟨adq471, eq471, hxq471_0⟩ := Kd.at_int (SL.row_c (SL.get3 HS.out)).2.2 x16_1 pq471 qq471
                        cases eq471
                        replace pq471 := eq_true pq471
                        replace qq471 := eq_true qq471
                        go_wp2_with (first | ((with_reducible refine gate_store (t := 5) (p := 83) (v := (.const (.int .u8 99))) rfl ?_); refine wpList_plain rfl (fun K_ hK_ => ?_); refine op_set (S := S) (enc := Value.int .u8) (h1 := fun _ => rfl) 5 (.tmp 83) (.const (.int .u8 99)) rfl adq471 (x16_1) 99 (SL.get3 HS.out) (by rfl) rfl (by kernel_rfl) (of_decide_eq_true (by first | (with_reducible assumption) | assumption)) (of_decide_eq_true (by first | (with_reducible assumption) | assumption)) y472 Ny472.out ?_; intro w27 hs_ hk_; refine hK_ _ _ ?_; clear hK_ K_; have n1_ := Aside0.mk (HK.out.trans hk_); have n2_ := Aside0.mk ((SL.back3 (show SL (row (Kd.int .u8) 5 (.slice (some adq471) y453.length c455) y472 :: _) _ _ from hs_))); clear HK HS; have HK := n1_; have HS := n2_; clear n1_ n2_))
                        have n2_ := Aside0.mk (SL.get6 (SL.get6 (SL.get6 (SL.get6 (SL.get6 (SL.get6 (SL.get6 HS.out)))))))
                        clear HS
                        have HS := n2_
                        clear n2_
                        go_roundg k2
                        case measure => have := HQ1.out; have := HQ2.out; omega
                        case rel => exact ⟨(y472), (wrap64 (x16_1 + 1)), (by first | rfl | (simp; done) | (simp [*]; done)), H', ⟨by have := HQ1.out; have := HQ2.out; omega⟩, HS, HK⟩
                      · rw [if_neg c26] at H
                        exact absurd H (by simp)
                    · rw [if_neg c25] at H
                      have c25b0 : decide (x16_1 < (y453.length : Int)) = false := decide_eq_false c25
                      clear c25
                      have H' := Aside0.mk H
                      clear H
                      go_wp2
                      have n2_ := Aside0.mk (SL.get6 (SL.get6 (SL.get6 (SL.get6 (SL.get6 (SL.get6 (SL.get6 HS.out)))))))
                      clear HS
                      have HS := n2_
                      clear n2_
                      go_loopg [17] k2 (fun kq v17 w' => ∃ (y3000030_2 : List Int) (y3000031_2 : List (List Int)) (x17_2 : Int), v17 = .int .i64 x17_2 ∧ Aside0 (barrowlaw04_FramePlays.l2 kq l0 l1 x9_0 x17_2 y3000031_2 t404 t456 t457 t458 t461 t465 t466 t469 t470 = some r) ∧ Aside0 (kq ≤ k2) ∧ Aside0 (SL (cells g3000029 30 [.slice A467 t466.length c468, .bool t469].toArray :: row (Kd.int .u8) 5 (.slice A467 t466.length c468) t466 :: rows (inn (Kd.int .u8) 5) 1 23 (.slice Az3000033 t464.length cz3000033) t464 :: row (Kd.int .u8) 5 (.slice A454 y453.length c455) y3000030_2 :: cells g3000027 41 [.slice A459 t458.length c460, .bool t461].toArray :: row (Kd.int .u8) 5 (.slice A459 t458.length c460) t458 :: rows (inn (Kd.int .u8) 5) 1 23 (.slice Az3000031 t456.length cz3000031) y3000031_2 :: L) w' S) ∧ Aside0 (Keep S w w'))
                      case atStart => exact ⟨(y3000030_1), (t456), (0), (by first | rfl | (simp; done) | (simp [*]; done)), H', ⟨Nat.le_refl _⟩, HS, HK⟩
                      case round =>
                        clear H' HS HK
                        obtain ⟨y3000030_2, y3000031_2, x17_2, rfl, HA, HQ3, HS, HK⟩ := hrel
                        cases gk with
                        | zero => exact absurd HA.out (by simp [barrowlaw04_FramePlays.l2])
                        | succ k3 =>
                          have H := HA.out
                          clear HA
                          simp only [barrowlaw04_FramePlays.l2] at H
                          by_cases c28 : x17_2 < (t456.length : Int)
                          · rw [if_pos c28] at H
                            have c28b0 : decide (x17_2 < (t456.length : Int)) = true := decide_eq_true c28
                            clear c28
                            have H' := Aside0.mk H
                            clear H
                            go_wp2
                            have n2_ := Aside0.mk (SL.get6 (SL.get6 (SL.get6 (SL.get6 (SL.get6 (SL.get6 (SL.get6 HS.out)))))))
                            clear HS
                            have HS := n2_
                            clear n2_
                            go_loopg [18] k3 (fun kq v18 w' => ∃ (y3000031_3 : List (List Int)) (x18_3 : Int), v18 = .int .i64 x18_3 ∧ Aside0 (barrowlaw04_FramePlays.l3 kq l0 l1 x9_0 x17_2 x18_3 y3000031_3 t404 t456 t457 t458 t461 t465 t466 t469 t470 = some r) ∧ Aside0 (kq ≤ k3) ∧ Aside0 (SL (cells g3000029 30 [.slice A467 t466.length c468, .bool t469].toArray :: row (Kd.int .u8) 5 (.slice A467 t466.length c468) t466 :: rows (inn (Kd.int .u8) 5) 1 23 (.slice Az3000033 t464.length cz3000033) t464 :: row (Kd.int .u8) 5 (.slice A454 y453.length c455) y3000030_2 :: cells g3000027 41 [.slice A459 t458.length c460, .bool t461].toArray :: row (Kd.int .u8) 5 (.slice A459 t458.length c460) t458 :: rows (inn (Kd.int .u8) 5) 1 23 (.slice Az3000031 t456.length cz3000031) y3000031_3 :: L) w' S) ∧ Aside0 (Keep S w w'))
                            case atStart => exact ⟨(y3000031_2), (0), (by first | rfl | (simp; done) | (simp [*]; done)), H', ⟨Nat.le_refl _⟩, HS, HK⟩
                            case round =>
                              clear H' HS HK
                              obtain ⟨y3000031_3, x18_3, rfl, HA, HQ4, HS, HK⟩ := hrel
                              cases gk with
                              | zero => exact absurd HA.out (by simp [barrowlaw04_FramePlays.l3])
                              | succ k4 =>
                                have H := HA.out
                                clear HA
                                simp only [barrowlaw04_FramePlays.l3] at H
                                by_cases c29 : 0 ≤ x17_2
                                · rw [if_pos c29] at H
                                  have c29b0 : decide (0 ≤ x17_2) = true := decide_eq_true c29
                                  clear c29
                                  by_cases c30 : x17_2 < (t456.length : Int)
                                  · rw [if_pos c30] at H
                                    have c30b0 : decide (x17_2 < (t456.length : Int)) = true := decide_eq_true c30
                                    clear c30
                                    replace H := Option.bind_eq_some_iff.1 H
                                    obtain ⟨y474, hy4740, H⟩ := H
                                    try dsimp only at H
                                    have hy474 := Option.some.inj hy4740
                                    clear hy4740
                                    have Ny474 := Aside0.mk hy474
                                    clear hy474
                                    by_cases c31 : x18_3 < (y474.length : Int)
                                    · rw [if_pos c31] at H
                                      have c31b0 : decide (x18_3 < (y474.length : Int)) = true := decide_eq_true c31
                                      clear c31
                                      by_cases c32 : 0 ≤ x18_3
                                      · rw [if_pos c32] at H
                                        have c32b0 : decide (0 ≤ x18_3) = true := decide_eq_true c32
                                        clear c32
                                        replace H := Option.bind_eq_some_iff.1 H
                                        obtain ⟨y477, hy4770, H⟩ := H
                                        try dsimp only at H
                                        have hy477 := Option.some.inj hy4770
                                        clear hy4770
                                        have Ny477 := Aside0.mk hy477
                                        clear hy477
                                        have H' := Aside0.mk H
                                        clear H
                                        have pq473 : 0 ≤ (x17_2 : Int) := of_decide_eq_true (by first | (with_reducible assumption) | assumption)
                                        have qq473 : x17_2 < ((t456.length : Int) : Int) := of_decide_eq_true (by first | (with_reducible assumption) | assumption)
                                        obtain ⟨adq473, Aq473_0, cq473_0, eq473, hxq473_0, hiq473, hlq473⟩ := rows_at (SL.get6 HS.out) rfl x17_2 pq473 qq473 y474 Ny474.out
                                        have HVq473_0 := Aside0.mk hiq473
                                        have HCq473_0 := Aside0.mk hlq473
                                        clear hiq473 hlq473
                                        cases eq473
                                        replace pq473 := eq_true pq473
                                        replace qq473 := eq_true qq473
                                        have pq476 : 0 ≤ (x18_3 : Int) := of_decide_eq_true (by first | (with_reducible assumption) | assumption)
                                        have qq476 : x18_3 < ((y474.length : Int) : Int) := of_decide_eq_true (by first | (with_reducible assumption) | assumption)
                                        obtain ⟨adq476, eq476, hxq476_0⟩ := Kd.at_int HVq473_0.out x18_3 pq476 qq476
                                        cases eq476
                                        replace pq476 := eq_true pq476
                                        replace qq476 := eq_true qq476
                                        go_wp2_with (first | ((with_reducible refine gate_store (t := 5) (p := 104) (v := (.const (.int .u8 98))) rfl ?_); refine wpList_plain rfl (fun K_ hK_ => ?_); refine op_setI (S := S) (enc := Value.int .u8) (h1 := fun _ => rfl) 5 (.tmp 104) (.const (.int .u8 98)) rfl adq473 (x17_2) (SL.get6 HS.out) (of_decide_eq_true (by first | (with_reducible assumption) | assumption)) (of_decide_eq_true (by first | (with_reducible assumption) | assumption)) adq476 y474.length cq473_0 hxq473_0 (x18_3) 98 (by rfl) rfl (by kernel_rfl) (of_decide_eq_true (by first | (with_reducible assumption) | assumption)) (of_decide_eq_true (by first | (with_reducible assumption) | assumption)) y474 Ny474.out y477 Ny477.out ?_; intro w33 hs_ hk_; refine hK_ _ _ ?_; clear hK_ K_; have n1_ := Aside0.mk (HK.out.trans hk_); have n2_ := Aside0.mk ((SL.back6 (show SL (rows (inn (Kd.int .u8) 5) 1 23 (.slice (some adq473) t456.length cz3000031) y477 :: _) _ _ from hs_))); clear HK HS; have HK := n1_; have HS := n2_; clear n1_ n2_))
                                        have n2_ := Aside0.mk (SL.get6 (SL.get6 (SL.get6 (SL.get6 (SL.get6 (SL.get6 (SL.get6 HS.out)))))))
                                        clear HS
                                        have HS := n2_
                                        clear n2_
                                        go_roundg k4
                                        case measure => have := HQ1.out; have := HQ2.out; have := HQ3.out; have := HQ4.out; omega
                                        case rel => exact ⟨(y477), (wrap64 (x18_3 + 1)), (by first | rfl | (simp; done) | (simp [*]; done)), H', ⟨by have := HQ1.out; have := HQ2.out; have := HQ3.out; have := HQ4.out; omega⟩, HS, HK⟩
                                      · rw [if_neg c32] at H
                                        exact absurd H (by simp)
                                    · rw [if_neg c31] at H
                                      have c31b0 : decide (x18_3 < (y474.length : Int)) = false := decide_eq_false c31
                                      clear c31
                                      have H' := Aside0.mk H
                                      clear H
                                      have pq473 : 0 ≤ (x17_2 : Int) := of_decide_eq_true (by first | (with_reducible assumption) | assumption)
                                      have qq473 : x17_2 < ((t456.length : Int) : Int) := of_decide_eq_true (by first | (with_reducible assumption) | assumption)
                                      obtain ⟨adq473, Aq473_0, cq473_0, eq473, hxq473_0, hiq473, hlq473⟩ := rows_at (SL.get6 HS.out) rfl x17_2 pq473 qq473 y474 Ny474.out
                                      have HVq473_0 := Aside0.mk hiq473
                                      have HCq473_0 := Aside0.mk hlq473
                                      clear hiq473 hlq473
                                      cases eq473
                                      replace pq473 := eq_true pq473
                                      replace qq473 := eq_true qq473
                                      go_wp2
                                      have n2_ := Aside0.mk (SL.get6 (SL.get6 (SL.get6 (SL.get6 (SL.get6 (SL.get6 (SL.get6 HS.out)))))))
                                      clear HS
                                      have HS := n2_
                                      clear n2_
                                      go_roundg k4
                                      case measure => have := HQ1.out; have := HQ2.out; have := HQ3.out; have := HQ4.out; omega
                                      case rel => exact ⟨(y3000030_2), (y3000031_3), (wrap64 (x17_2 + 1)), (by first | rfl | (simp; done) | (simp [*]; done)), H', ⟨by have := HQ1.out; have := HQ2.out; have := HQ3.out; have := HQ4.out; omega⟩, HS, HK⟩
                                  · rw [if_neg c30] at H
                                    exact absurd H (by simp)
                                · rw [if_neg c29] at H
                                  exact absurd H (by simp)
                          · rw [if_neg c28] at H
                            have c28b0 : decide (x17_2 < (t456.length : Int)) = false := decide_eq_false c28
                            clear c28
                            by_cases c34 : t470 = true
                            · subst c34
                              rw [if_pos rfl] at H
                              by_cases c35 : t457 = t465
                              · rw [if_pos c35] at H
                                have c35b0 : (t457 == t465) = true := beq_iff_eq.mpr c35
                                have c35b1 : (t457 != t465) = false := bne_eq_false_iff_eq.mpr c35
                                clear c35
                                replace H := Option.bind_eq_some_iff.1 H
                                obtain ⟨⟨t478, t479, t482⟩, Hc360, H⟩ := H
                                try dsimp only at H
                                have Hc36 := Aside0.mk Hc360
                                clear Hc360
                                by_cases c37 : t478 = (t466.length : Int)
                                · rw [if_pos c37] at H
                                  have c37b0 : (t478 == (t466.length : Int)) = true := beq_iff_eq.mpr c37
                                  have c37b1 : (t478 != (t466.length : Int)) = false := bne_eq_false_iff_eq.mpr c37
                                  clear c37
                                  replace H := Option.bind_eq_some_iff.1 H
                                  obtain ⟨⟨t483, t484, t487⟩, Hc380, H⟩ := H
                                  try dsimp only at H
                                  have Hc38 := Aside0.mk Hc380
                                  clear Hc380
                                  by_cases c39 : (t483 != t469) = true
                                  · rw [if_pos c39] at H
                                    exact absurd H (by simp)
                                  · rw [if_neg c39] at H
                                    have c39b0 : (t483 != t469) = false := by simpa using c39
                                    (try (have c39b1 : decide (t483 = t469) = true := by simpa using c39))
                                    (try (have c39b2 : (t483 == t469) = true := by simpa using c39))
                                    clear c39
                                    have H' := Aside0.mk H
                                    clear H
                                    have hb_ := SL.at_ HS.out
                                    have hz3000029_0_0 := ((blk_cell hb_ 0).trans rfl : _ = some (.slice A467 t466.length c468))
                                    have hz3000029_1_0 := ((blk_cell hb_ 1).trans rfl : _ = some (.bool t469))
                                    clear hb_
                                    try go_wp2
                                    refine start_ (n := 26) (S := fun w' => w'.cell? ⟨g3000029, 0, none⟩ = some (.slice A467 t466.length c468) ∧ w'.cell? ⟨g3000029, 1, none⟩ = some (.bool t469)) (ds := []) #[false, false, false, false, false, false, false, false, false, false, false, false, false, false, false, false, false, false, false, false, false, false, false, false, false, false] (by kernel_rfl) rfl rfl ⟨(((blk_cell (SL.at_ HS.out) 0).trans rfl)), (((blk_cell (SL.at_ HS.out) 1).trans rfl))⟩ (fun hHeld => ?_); refine with_tabW barrowlaw04_FramePlays.tab25 barrowlaw04_FramePlays.bits25 (fun HT_ HW_ => ?_)
                                    have n1_ := Aside0.mk (Keep.drew HK.out)
                                    have n2_ := Aside0.mk (SL.drew HS.out)
                                    clear HK HS
                                    have HK := n1_
                                    have HS := n2_
                                    clear n1_ n2_
                                    refine pure_ (i := 0) (N := some 105) (v := ?_) (a' := ?_) #[true, false, false, false, false, false, false, false, false, false, false, false, false, false, false, false, false, false, false, false, false, false, false, false, false, false] rfl rfl (any_of HT_.out (by kernel_rfl)) (fun _ _ _ h => h) (Or.inl ⟨by rfl, ?_⟩) ?_ ?_
                                    rotate_left
                                    · intro w'
                                      go_simp
                                      with_reducible rfl
                                    rotate_left
                                    · simp only [Act.put, List.setIfInBounds_toArray, List.set_cons_zero, List.set_cons_succ, i64_w, i32_w]
                                      rfl
                                    refine pure_ (i := 1) (N := some 106) (v := ?_) (a' := ?_) #[true, true, false, false, false, false, false, false, false, false, false, false, false, false, false, false, false, false, false, false, false, false, false, false, false, false] rfl rfl (any_of HT_.out (by kernel_rfl)) (fun _ _ _ h => h) (Or.inl ⟨by rfl, ?_⟩) ?_ ?_
                                    rotate_left
                                    · intro w'
                                      go_simp
                                      with_reducible rfl
                                    rotate_left
                                    · simp only [Act.put, List.setIfInBounds_toArray, List.set_cons_zero, List.set_cons_succ, i64_w, i32_w]
                                      rfl
                                    refine pure_ (i := 2) (N := some 107) (v := ?_) (a' := ?_) #[true, true, true, false, false, false, false, false, false, false, false, false, false, false, false, false, false, false, false, false, false, false, false, false, false, false] rfl rfl (any_of HT_.out (by kernel_rfl)) (fun _ _ _ h => h) (Or.inl ⟨by rfl, ?_⟩) ?_ ?_
                                    rotate_left
                                    · intro w'
                                      go_simp
                                      with_reducible rfl
                                    rotate_left
                                    · simp only [Act.put, List.setIfInBounds_toArray, List.set_cons_zero, List.set_cons_succ, i64_w, i32_w]
                                      rfl
                                    refine pure_ (i := 3) (N := some 108) (v := ?_) (a' := ?_) #[true, true, true, true, false, false, false, false, false, false, false, false, false, false, false, false, false, false, false, false, false, false, false, false, false, false] rfl rfl (any_of HT_.out (by kernel_rfl)) (fun _ _ _ h => h) (Or.inl ⟨by rfl, ?_⟩) ?_ ?_
                                    rotate_left
                                    · intro w'
                                      go_simp
                                      with_reducible rfl
                                    rotate_left
                                    · simp only [Act.put, List.setIfInBounds_toArray, List.set_cons_zero, List.set_cons_succ, i64_w, i32_w]
                                      rfl
                                    refine pure_ (i := 4) (N := some 109) (v := ?_) (a' := ?_) #[true, true, true, true, true, false, false, false, false, false, false, false, false, false, false, false, false, false, false, false, false, false, false, false, false, false] rfl rfl (any_of HT_.out (by kernel_rfl)) (fun _ _ _ h => h) (Or.inl ⟨by rfl, ?_⟩) ?_ ?_
                                    rotate_left
                                    · intro w'
                                      go_simp
                                      with_reducible rfl
                                    rotate_left
                                    · simp only [Act.put, List.setIfInBounds_toArray, List.set_cons_zero, List.set_cons_succ, i64_w, i32_w]
                                      rfl
                                    refine pure_ (i := 5) (N := some 110) (v := ?_) (a' := ?_) #[true, true, true, true, true, true, false, false, false, false, false, false, false, false, false, false, false, false, false, false, false, false, false, false, false, false] rfl rfl (any_of HT_.out (by kernel_rfl)) (fun _ _ _ h => h) (Or.inl ⟨by rfl, ?_⟩) ?_ ?_
                                    rotate_left
                                    · intro w'
                                      go_simp
                                      with_reducible rfl
                                    rotate_left
                                    · simp only [Act.put, List.setIfInBounds_toArray, List.set_cons_zero, List.set_cons_succ, i64_w, i32_w]
                                      rfl
                                    refine pure_ (i := 6) (N := some 111) (v := ?_) (a' := ?_) #[true, true, true, true, true, true, true, false, false, false, false, false, false, false, false, false, false, false, false, false, false, false, false, false, false, false] rfl rfl (any_of HT_.out (by kernel_rfl)) (fun _ _ _ h => h) (Or.inl ⟨by rfl, ?_⟩) ?_ ?_
                                    rotate_left
                                    · intro w'
                                      go_simp
                                      with_reducible rfl
                                    rotate_left
                                    · simp only [Act.put, List.setIfInBounds_toArray, List.set_cons_zero, List.set_cons_succ, i64_w, i32_w]
                                      rfl
                                    refine pure_ (i := 7) (N := some 112) (v := ?_) (a' := ?_) #[true, true, true, true, true, true, true, true, false, false, false, false, false, false, false, false, false, false, false, false, false, false, false, false, false, false] rfl rfl (any_of HT_.out (by kernel_rfl)) (fun _ _ _ h => h) (Or.inl ⟨by rfl, ?_⟩) ?_ ?_
                                    rotate_left
                                    · intro w'
                                      go_simp
                                      with_reducible rfl
                                    rotate_left
                                    · simp only [Act.put, List.setIfInBounds_toArray, List.set_cons_zero, List.set_cons_succ, i64_w, i32_w]
                                      rfl
                                    refine pure_ (i := 8) (N := some 113) (v := ?_) (a' := ?_) #[true, true, true, true, true, true, true, true, true, false, false, false, false, false, false, false, false, false, false, false, false, false, false, false, false, false] rfl rfl (any_of HT_.out (by kernel_rfl)) (fun _ _ _ h => h) (Or.inl ⟨by rfl, ?_⟩) ?_ ?_
                                    rotate_left
                                    · intro w'
                                      go_simp
                                      with_reducible rfl
                                    rotate_left
                                    · simp only [Act.put, List.setIfInBounds_toArray, List.set_cons_zero, List.set_cons_succ, i64_w, i32_w]
                                      rfl
                                    refine pure_ (i := 10) (N := some 115) (v := ?_) (a' := ?_) #[true, true, true, true, true, true, true, true, true, false, true, false, false, false, false, false, false, false, false, false, false, false, false, false, false, false] rfl rfl (any_of HT_.out (by kernel_rfl)) (fun _ _ _ h => h) (Or.inl ⟨by rfl, ?_⟩) ?_ ?_
                                    rotate_left
                                    · intro w'
                                      go_simp
                                      with_reducible rfl
                                    rotate_left
                                    · simp only [Act.put, List.setIfInBounds_toArray, List.set_cons_zero, List.set_cons_succ, i64_w, i32_w]
                                      rfl
                                    refine pure_ (i := 11) (N := some 116) (v := ?_) (a' := ?_) #[true, true, true, true, true, true, true, true, true, false, true, true, false, false, false, false, false, false, false, false, false, false, false, false, false, false] rfl rfl (any_of HT_.out (by kernel_rfl)) (fun _ _ _ h => h) (Or.inl ⟨by rfl, ?_⟩) ?_ ?_
                                    rotate_left
                                    · intro w'
                                      go_simp
                                      with_reducible rfl
                                    rotate_left
                                    · simp only [Act.put, List.setIfInBounds_toArray, List.set_cons_zero, List.set_cons_succ, i64_w, i32_w]
                                      rfl
                                    refine pure_ (i := 12) (N := some 117) (v := ?_) (a' := ?_) #[true, true, true, true, true, true, true, true, true, false, true, true, true, false, false, false, false, false, false, false, false, false, false, false, false, false] rfl rfl (any_of HT_.out (by kernel_rfl)) (fun _ _ _ h => h) (Or.inl ⟨by rfl, ?_⟩) ?_ ?_
                                    rotate_left
                                    · intro w'
                                      go_simp
                                      with_reducible rfl
                                    rotate_left
                                    · simp only [Act.put, List.setIfInBounds_toArray, List.set_cons_zero, List.set_cons_succ, i64_w, i32_w]
                                      rfl
                                    refine take_ (i := 13) (N := some 118) (v := ?_) (a' := ?_) #[true, true, true, true, true, true, true, true, true, false, true, true, true, true, false, false, false, false, false, false, false, false, false, false, false, false] rfl rfl (take_ofW HT_.out HW_.out (by kernel_rfl)) (fun _ _ _ h => h) (Or.inl ⟨by rfl, ?_⟩) hHeld ?_ ?_
                                    rotate_left
                                    · rintro w' ⟨s0, s1⟩
                                      go_simp
                                      with_reducible rfl
                                    rotate_left
                                    · simp only [Act.put, List.setIfInBounds_toArray, List.set_cons_zero, List.set_cons_succ, i64_w, i32_w]
                                      rfl
                                    refine pure_ (i := 14) (N := some 119) (v := ?_) (a' := ?_) #[true, true, true, true, true, true, true, true, true, false, true, true, true, true, true, false, false, false, false, false, false, false, false, false, false, false] rfl rfl (any_of HT_.out (by kernel_rfl)) (fun _ _ _ h => h) (Or.inl ⟨by rfl, ?_⟩) ?_ ?_
                                    rotate_left
                                    · intro w'
                                      go_simp
                                      with_reducible rfl
                                    rotate_left
                                    · simp only [Act.put, List.setIfInBounds_toArray, List.set_cons_zero, List.set_cons_succ, i64_w, i32_w]
                                      rfl
                                    refine one_ (i := 9) (N := some 114) #[true, true, true, true, true, true, true, true, true, true, true, true, true, true, true, false, false, false, false, false, false, false, false, false, false, false] rfl rfl (one_of HT_.out (by kernel_rfl)) (by decide) (fun K hK => ?_)
                                    refine goes_ Try.func13 (by kernel_rfl) rfl #[.pointer (some ⟨g3000027, 0, none⟩)] (by rfl) rfl rfl (by (try simp only [List.map_toArray, List.map_cons, List.map_nil]); first | done | rfl | (simp; done)) ?_
                                    have hs0_ := (SL.get5 (SL.get5 HS.out))
                                    (with_reducible refine (frame_Feed_Waits.slcalls _ _ _ _ _ _ _ _ _ _ _ (HF.out.keep HK.out) hs0_  Hc36.out).mono ?_)
                                    rintro e_ w40 ⟨A480, c481, rfl, hsr_, hkr_⟩
                                    refine ⟨_, rfl, ?_⟩
                                    have n1_ := Aside0.mk (HK.out.trans hkr_)
                                    have n2_ := Aside0.mk (hsr_)
                                    clear HK HS
                                    have HK := n1_
                                    have HS := n2_
                                    clear n1_ n2_
                                    refine hK.out _ _ ⟨(((blk_cell (SL.at_ (SL.get2 HS.out)) 0).trans rfl)), (((blk_cell (SL.at_ (SL.get2 HS.out)) 1).trans rfl))⟩ (fun hHeld => ?_)
                                    clear hK K
                                    refine norm_ (a' := ?_) ?_ ?_
                                    rotate_left
                                    · show Act.put _ (some 114) _ = _
                                      simp only [Act.put, List.setIfInBounds_toArray, List.set_cons_zero, List.set_cons_succ, i64_w, i32_w]
                                      rfl
                                    refine pure_ (i := 15) (N := some 120) (v := ?_) (a' := ?_) #[true, true, true, true, true, true, true, true, true, true, true, true, true, true, true, true, false, false, false, false, false, false, false, false, false, false] rfl rfl (any_of HT_.out (by kernel_rfl)) (fun _ _ _ h => h) (Or.inl ⟨by rfl, ?_⟩) ?_ ?_
                                    rotate_left
                                    · intro w'
                                      go_simp
                                      with_reducible rfl
                                    rotate_left
                                    · simp only [Act.put, List.setIfInBounds_toArray, List.set_cons_zero, List.set_cons_succ, i64_w, i32_w]
                                      rfl
                                    refine pure_ (i := 16) (N := some 121) (v := ?_) (a' := ?_) #[true, true, true, true, true, true, true, true, true, true, true, true, true, true, true, true, true, false, false, false, false, false, false, false, false, false] rfl rfl (any_of HT_.out (by kernel_rfl)) (fun _ _ _ h => h) (Or.inl ⟨by rfl, ?_⟩) ?_ ?_
                                    rotate_left
                                    · intro w'
                                      go_simp
                                      with_reducible rfl
                                    rotate_left
                                    · simp only [Act.put, List.setIfInBounds_toArray, List.set_cons_zero, List.set_cons_succ, i64_w, i32_w]
                                      rfl
                                    refine pure_ (i := 17) (N := some 122) (v := ?_) (a' := ?_) #[true, true, true, true, true, true, true, true, true, true, true, true, true, true, true, true, true, true, false, false, false, false, false, false, false, false] rfl rfl (any_of HT_.out (by kernel_rfl)) (fun _ _ _ h => h) (Or.inl ⟨by rfl, ?_⟩) ?_ ?_
                                    rotate_left
                                    · intro w'
                                      go_simp
                                      with_reducible rfl
                                    rotate_left
                                    · simp only [Act.put, List.setIfInBounds_toArray, List.set_cons_zero, List.set_cons_succ, i64_w, i32_w]
                                      rfl
                                    refine pure_ (i := 18) (N := some 123) (v := ?_) (a' := ?_) #[true, true, true, true, true, true, true, true, true, true, true, true, true, true, true, true, true, true, true, false, false, false, false, false, false, false] rfl rfl (any_of HT_.out (by kernel_rfl)) (fun _ _ _ h => h) (Or.inl ⟨by rfl, ?_⟩) ?_ ?_
                                    rotate_left
                                    · intro w'
                                      go_simp
                                      with_reducible rfl
                                    rotate_left
                                    · simp only [Act.put, List.setIfInBounds_toArray, List.set_cons_zero, List.set_cons_succ, i64_w, i32_w]
                                      rfl
                                    refine pure_ (i := 20) (N := some 125) (v := ?_) (a' := ?_) #[true, true, true, true, true, true, true, true, true, true, true, true, true, true, true, true, true, true, true, false, true, false, false, false, false, false] rfl rfl (any_of HT_.out (by kernel_rfl)) (fun _ _ _ h => h) (Or.inl ⟨by rfl, ?_⟩) ?_ ?_
                                    rotate_left
                                    · intro w'
                                      go_simp
                                      with_reducible rfl
                                    rotate_left
                                    · simp only [Act.put, List.setIfInBounds_toArray, List.set_cons_zero, List.set_cons_succ, i64_w, i32_w]
                                      rfl
                                    refine pure_ (i := 21) (N := some 126) (v := ?_) (a' := ?_) #[true, true, true, true, true, true, true, true, true, true, true, true, true, true, true, true, true, true, true, false, true, true, false, false, false, false] rfl rfl (any_of HT_.out (by kernel_rfl)) (fun _ _ _ h => h) (Or.inl ⟨by rfl, ?_⟩) ?_ ?_
                                    rotate_left
                                    · intro w'
                                      go_simp
                                      with_reducible rfl
                                    rotate_left
                                    · simp only [Act.put, List.setIfInBounds_toArray, List.set_cons_zero, List.set_cons_succ, i64_w, i32_w]
                                      rfl
                                    refine pure_ (i := 22) (N := some 127) (v := ?_) (a' := ?_) #[true, true, true, true, true, true, true, true, true, true, true, true, true, true, true, true, true, true, true, false, true, true, true, false, false, false] rfl rfl (any_of HT_.out (by kernel_rfl)) (fun _ _ _ h => h) (Or.inl ⟨by rfl, ?_⟩) ?_ ?_
                                    rotate_left
                                    · intro w'
                                      go_simp
                                      with_reducible rfl
                                    rotate_left
                                    · simp only [Act.put, List.setIfInBounds_toArray, List.set_cons_zero, List.set_cons_succ, i64_w, i32_w]
                                      rfl
                                    refine take_ (i := 23) (N := some 128) (v := ?_) (a' := ?_) #[true, true, true, true, true, true, true, true, true, true, true, true, true, true, true, true, true, true, true, false, true, true, true, true, false, false] rfl rfl (take_ofW HT_.out HW_.out (by kernel_rfl)) (fun _ _ _ h => h) (Or.inl ⟨by rfl, ?_⟩) hHeld ?_ ?_
                                    rotate_left
                                    · rintro w' ⟨s0, s1⟩
                                      go_simp
                                      with_reducible rfl
                                    rotate_left
                                    · simp only [Act.put, List.setIfInBounds_toArray, List.set_cons_zero, List.set_cons_succ, i64_w, i32_w]
                                      rfl
                                    refine one_ (i := 19) (N := some 124) #[true, true, true, true, true, true, true, true, true, true, true, true, true, true, true, true, true, true, true, true, true, true, true, true, false, false] rfl rfl (one_of HT_.out (by kernel_rfl)) (by decide) (fun K hK => ?_)
                                    refine goes_ Try.func14 (by kernel_rfl) rfl #[.pointer (some ⟨g3000027, 0, none⟩)] (by rfl) rfl rfl (by (try simp only [List.map_toArray, List.map_cons, List.map_nil]); first | done | rfl | (simp; done)) ?_
                                    have hs0_ := (SL.get1 (SL.get1 HS.out))
                                    (with_reducible refine (frame_Feed_Dead.slcalls _ _ _ _ _ _ _ _ _ _ _ (HF.out.keep HK.out) hs0_  Hc38.out).mono ?_)
                                    rintro e_ w41 ⟨A485, c486, rfl, hsr_, hkr_⟩
                                    refine ⟨_, rfl, ?_⟩
                                    have n1_ := Aside0.mk (HK.out.trans hkr_)
                                    have n2_ := Aside0.mk (hsr_)
                                    clear HK HS
                                    have HK := n1_
                                    have HS := n2_
                                    clear n1_ n2_
                                    refine hK.out _ _ ⟨(((blk_cell (SL.at_ (SL.get2 HS.out)) 0).trans rfl)), (((blk_cell (SL.at_ (SL.get2 HS.out)) 1).trans rfl))⟩ (fun hHeld => ?_)
                                    clear hK K
                                    refine norm_ (a' := ?_) ?_ ?_
                                    rotate_left
                                    · show Act.put _ (some 124) _ = _
                                      simp only [Act.put, List.setIfInBounds_toArray, List.set_cons_zero, List.set_cons_succ, i64_w, i32_w]
                                      rfl
                                    refine pure_ (i := 24) (N := some 129) (v := ?_) (a' := ?_) #[true, true, true, true, true, true, true, true, true, true, true, true, true, true, true, true, true, true, true, true, true, true, true, true, true, false] rfl rfl (any_of HT_.out (by kernel_rfl)) (fun _ _ _ h => h) (Or.inl ⟨by rfl, ?_⟩) ?_ ?_
                                    rotate_left
                                    · intro w'
                                      go_simp
                                      with_reducible rfl
                                    rotate_left
                                    · simp only [Act.put, List.setIfInBounds_toArray, List.set_cons_zero, List.set_cons_succ, i64_w, i32_w]
                                      rfl
                                    refine pure_ (i := 25) (N := some 130) (v := ?_) (a' := ?_) #[true, true, true, true, true, true, true, true, true, true, true, true, true, true, true, true, true, true, true, true, true, true, true, true, true, true] rfl rfl (any_of HT_.out (by kernel_rfl)) (fun _ _ _ h => h) (Or.inl ⟨by rfl, ?_⟩) ?_ ?_
                                    rotate_left
                                    · intro w'
                                      go_simp
                                      with_reducible rfl
                                    rotate_left
                                    · simp only [Act.put, List.setIfInBounds_toArray, List.set_cons_zero, List.set_cons_succ, i64_w, i32_w]
                                      rfl
                                    refine done_ (done_of HT_.out (by kernel_rfl)) ?_
                                    have hb_ := SL.at_ (SL.get2 HS.out)
                                    have hz3000029_0_3 := ((blk_cell hb_ 0).trans rfl : _ = some (.slice A467 t466.length c468))
                                    have hz3000029_1_3 := ((blk_cell hb_ 1).trans rfl : _ = some (.bool t469))
                                    clear hb_
                                    try go_wp2
                                    have n2_ := Aside0.mk (SL.get3 (SL.get2 (SL.get1 (SL.get1 (SL.tail (SL.get4 (SL.tail (SL.get4 (SL.tail (SL.get4 HS.out))))))))))
                                    clear HS
                                    have HS := n2_
                                    clear n2_
                                    go_roundg k3
                                    case measure => have := HQ1.out; have := HQ2.out; have := HQ3.out; omega
                                    case rel => exact ⟨(t466), (A467), (c468), (t469), (t484), (t487), (A485), (c486), (wrap64 (x9_0 + 1)), (by first | rfl | (simp; done) | (simp [*]; done)), H', ⟨by have := HQ1.out; have := HQ2.out; have := HQ3.out; omega⟩, HS, HK⟩
                                · rw [if_neg c37] at H
                                  have c37b0 : (t478 == (t466.length : Int)) = false := beq_eq_false_iff_ne.mpr c37
                                  have c37b1 : (t478 != (t466.length : Int)) = true := bne_iff_ne.mpr c37
                                  exact absurd H (by simp)
                              · rw [if_neg c35] at H
                                have c35b0 : (t457 == t465) = false := beq_eq_false_iff_ne.mpr c35
                                have c35b1 : (t457 != t465) = true := bne_iff_ne.mpr c35
                                exact absurd H (by simp)
                            · replace c34 := Bool.eq_false_iff.mpr c34
                              subst c34
                              rw [if_neg (show ¬ (false = true) by decide)] at H
                              exact absurd H (by simp)
              · rw [if_neg c16] at H
                exact absurd H (by simp)
            · rw [if_neg c15] at H
              exact absurd H (by simp)
          · rw [if_neg c14] at H
            have c14b0 : decide (x9_0 < (l0.length : Int)) = false := decide_eq_false c14
            clear c14
            replace H := Option.bind_eq_some_iff.1 H
            obtain ⟨⟨t488, t489⟩, Hc420, H⟩ := H
            try dsimp only at H
            have Hc42 := Aside0.mk Hc420
            clear Hc420
            replace H := Option.bind_eq_some_iff.1 H
            obtain ⟨⟨t490, t491⟩, Hc430, H⟩ := H
            try dsimp only at H
            have Hc43 := Aside0.mk Hc430
            clear Hc430
            by_cases c44 : t404 = true
            · subst c44
              rw [if_pos rfl] at H
              by_cases c45 : (strOfNums t488).toList = (strOfNums t490).toList
              · rw [if_pos c45] at H
                have c45b0 : ((strOfNums t488).toList == (strOfNums t490).toList) = true := beq_iff_eq.mpr c45
                have c45b1 : ((strOfNums t488).toList != (strOfNums t490).toList) = false := bne_eq_false_iff_eq.mpr c45
                clear c45
                by_cases c46 : t489 = t491
                · rw [if_pos c46] at H
                  have c46b0 : (t489 == t491) = true := beq_iff_eq.mpr c46
                  have c46b1 : (t489 != t491) = false := bne_eq_false_iff_eq.mpr c46
                  clear c46
                  obtain rfl := Option.some.inj H
                  go_wp2_with (first | ((with_reducible refine gate_dst (N := 133) rfl ?_); refine goesL_ (some 133) rfl rfl Try.func15 (by kernel_rfl) rfl #[.slice A1 l1.length c1] rfl (by (try simp only [List.map_toArray, List.map_cons, List.map_nil]); first | done | rfl | (simp; done)) ?_; (with_reducible refine (frame_Wrap.calls k1 _ _ _ _ _ _ (RO.at_ HR1.out HK.out) HC1.out Hc42.out).mono ?_); rintro e_ w47 ⟨v3000034_, rfl, ho3000034_, hb_⟩; refine ⟨_, rfl, ?_⟩; have hs_ := (SL.new (HF.out.keep HK.out) HS.out hb_ (row_of_R ho3000034_)).1; obtain ⟨Az3000034, cz3000034, e2_, _, _⟩ := SL.row_reads hs_; subst e2_; have n1_ := Aside0.mk (HK.out.trans (Keep.below hb_)); have n2_ := Aside0.mk (hs_); clear HK HS; have HK := n1_; have HS := n2_; clear n1_ n2_) | ((with_reducible refine gate_dst (N := 138) rfl ?_); refine goesL_ (some 138) rfl rfl Try.func16 (by kernel_rfl) rfl #[.slice A1 l1.length c1] rfl (by (try simp only [List.map_toArray, List.map_cons, List.map_nil]); first | done | rfl | (simp; done)) ?_; (with_reducible refine (barrowref04_Wrap.calls k1 _ _ _ _ _ _ (RO.at_ HR1.out HK.out) HC1.out Hc43.out).mono ?_); rintro e_ w48 ⟨v3000035_, rfl, ho3000035_, hb_⟩; refine ⟨_, rfl, ?_⟩; have hs_ := (SL.new (HF.out.keep HK.out) HS.out hb_ (row_of_R ho3000035_)).1; obtain ⟨Az3000035, cz3000035, e2_, _, _⟩ := SL.row_reads hs_; subst e2_; have n1_ := Aside0.mk (HK.out.trans (Keep.below hb_)); have n2_ := Aside0.mk (hs_); clear HK HS; have HK := n1_; have HS := n2_; clear n1_ n2_; have hcs50 := Kd.C_string (P := Try.prog) (A := Az3000034) (c := cz3000034) Try.underlying23 Try.underlying5 Try.underlying9 (SL.row_c (SL.get1 HS.out)).2.2; have hcs52 := Kd.C_string (P := Try.prog) (A := Az3000035) (c := cz3000035) Try.underlying23 Try.underlying5 Try.underlying9 (SL.row_c HS.out).2.2))
                  go_ret
                  have n2_ := Aside0.mk (SL.tail (SL.tail (SL.tail (SL.tail (SL.tail (SL.tail HS.out))))))
                  clear HS
                  have HS := n2_
                  clear n2_
                  unfold barrowlaw04_FramePlays.Post
                  exact ⟨by first | rfl | (simp; done) | (simp [*]; done), HS.out, HK.out⟩
                · rw [if_neg c46] at H
                  exact absurd H (by simp)
              · rw [if_neg c45] at H
                exact absurd H (by simp)
            · replace c44 := Bool.eq_false_iff.mpr c44
              subst c44
              rw [if_neg (show ¬ (false = true) by decide)] at H
              exact absurd H (by simp)
  · replace c4 := Bool.eq_false_iff.mpr c4
    subst c4
    rw [if_neg (show ¬ (false = true) by decide)] at H
    by_cases c53 : t404 = true
    · subst c53
      rw [if_pos rfl] at H
      obtain rfl := Option.some.inj H
      go_enter Try.func3, Try.ntmps3
      go_wp2_with (first | ((with_reducible refine gate_dst (N := 23) rfl ?_); refine goesL_ (some 23) rfl rfl Try.func7 (by kernel_rfl) rfl #[] rfl (by (try simp only [List.map_toArray, List.map_cons, List.map_nil]); first | done | rfl | (simp; done)) ?_; have hs0_ := HS.out; (with_reducible refine (barrowlaw04_small.slcalls k _ _ _ _ (HF.out.keep HK.out) hs0_  Hc1.out).mono ?_); rintro e_ w54 ⟨rfl, hsr_, hkr_⟩; refine ⟨_, rfl, ?_⟩; have n1_ := Aside0.mk (HK.out.trans hkr_); have n2_ := Aside0.mk (hsr_); clear HK HS; have HK := n1_; have HS := n2_; clear n1_ n2_) | ((with_reducible refine gate_dst (N := 25) rfl ?_); refine goesL_ (some 25) rfl rfl Try.func8 (by kernel_rfl) rfl #[.slice A0 l0.length c0] rfl (by (try simp only [List.map_toArray, List.map_cons, List.map_nil]); first | done | rfl | (simp; done)) ?_; (with_reducible refine (barrowlaw04_few.calls k _ _ _ _ _ (RO.at_ HR0.out HK.out) HC0.out Hc2.out).mono ?_); rintro e_ w55 ⟨rfl, hb_⟩; refine ⟨_, rfl, ?_⟩; replace hb_ := Drawn0.below hb_; have n1_ := Aside0.mk (HK.out.trans (Keep.below hb_)); have n2_ := Aside0.mk (HS.out.below hb_); clear HK HS; have HK := n1_; have HS := n2_; clear n1_ n2_) | ((with_reducible refine gate_dst (N := 26) rfl ?_); refine goesL_ (some 26) rfl rfl Try.func9 (by kernel_rfl) rfl #[] rfl (by (try simp only [List.map_toArray, List.map_cons, List.map_nil]); first | done | rfl | (simp; done)) ?_; have hs0_ := HS.out; (with_reducible refine (frame_New.slcalls _ _ _ _ _ (HF.out.keep HK.out) hs0_  Hc3.out).mono ?_); rintro e_ w56 ⟨Az3000028, cz3000028, g3000027, rfl, hsr_, hkr_⟩; refine ⟨_, rfl, ?_⟩; have n1_ := Aside0.mk (HK.out.trans hkr_); have n2_ := Aside0.mk (hsr_); clear HK HS; have HK := n1_; have HS := n2_; clear n1_ n2_))
      go_ret
      have n2_ := Aside0.mk (SL.tail (SL.tail HS.out))
      clear HS
      have HS := n2_
      clear n2_
      unfold barrowlaw04_FramePlays.Post
      exact ⟨by first | rfl | (simp; done) | (simp [*]; done), HS.out, HK.out⟩
    · replace c53 := Bool.eq_false_iff.mpr c53
      subst c53
      rw [if_neg (show ¬ (false = true) by decide)] at H
      exact absurd H (by simp)
theorem barrowlaw04_FramePlays.calls (k : Nat) (A0 : Option Addr) (c0 : Nat) (l0 : List (List Int)) (A1 : Option Addr) (c1 : Nat) (l1 : List Int) (r : Bool) (w : World) (hr0 : Kd.C (Kd.slice 5 (Kd.int .u8)) w A0 l0.length l0) (hc0 : l0.length ≤ c0) (hr1 : Kd.C (Kd.int .u8) w A1 l1.length l1) (hc1 : l1.length ≤ c1) (h : barrowlaw04_FramePlays.f k l0 l1 = some r) :
    Calls Try.prog 3 #[.slice A0 l0.length c0, .slice A1 l1.length c1] w fun e w' => e = .returned (.bool r) ∧ Below w.heap.size w w' :=
  (barrowlaw04_FramePlays.slcalls k A0 c0 l0 A1 c1 l1 r (news w) [] w (fresh_news w) trivial (RO.top hr0) hc0 (RO.top hr1) hc1 h).mono fun _ _ h => ⟨h.1, h.2.2.to_below⟩

/-- THE ONE PURE STATEMENT of barrowlaw04_FramePlays. -/
def barrowlaw04_FramePlays.Pure : Prop := ∀ (l0 : List (List Int)) (l1 : List Int), (l0.length ≤ maxLen ∧ l0.length * 24 ≤ 140737488351232 ∧ ∀ x492_ ∈ l0, x492_.length ≤ maxLen ∧ x492_.length * 1 ≤ 140737488351232 ∧ ∀ x493_ ∈ x492_, (Lit.int .u8 x493_).wf = true) → (l1.length ≤ maxLen ∧ l1.length * 1 ≤ 140737488351232 ∧ ∀ x494_ ∈ l1, (Lit.int .u8 x494_).wf = true) → ∃ k, barrowlaw04_FramePlays.f k l0 l1 = some true

end Go.Proofs.Ytdlpijeceigbnaa.XFR
