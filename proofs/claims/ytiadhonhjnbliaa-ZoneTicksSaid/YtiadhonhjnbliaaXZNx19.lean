-- Written by xprint.py (a program of this session) for this claim
import Derived.Test.YtiadhonhjnbliaaSL4
import Derived.Test.YtiadhonhjnbliaaXZNx0
import Derived.Test.YtiadhonhjnbliaaXZNx17
import Derived.Test.YtiadhonhjnbliaaXZNx18
namespace Go.Proofs.Ytiadhonhjnbliaa.XZN
open Go.Proofs.YtiadhonhjnbliaaV Go.Proofs.YtiadhonhjnbliaaS
open Go.RowKit Go.Proofs.YtiadhonhjnbliaaW.PrintWords Go.Proofs.YtiadhonhjnbliaaW.PrintLast Go.Proofs.YtiadhonhjnbliaaW.PrintMore
attribute [local go_sem] max2_int min2_int max_two min_two max_three min_three max_four min_four   -- for this text's walks alone
set_option linter.unusedVariables false
set_option linter.unusedSimpArgs false

/-! ### barrowref33_Tick: function 9 -/
mutual
def barrowref33_Tick.l0 : Nat → (List (S37)) → (List (S44)) → Int → (List (S37)) → (List (S56)) → Int → Option ((List (S37)) × (List (S56)))
  | 0, _, _, _, _, _, _ => none
  | k + 1, l0, l1, a2, x8_0, x9_0, x10_0 => if x10_0 < (l0.length : Int) then (if 0 ≤ x10_0 then (if ((rd_T37 l0 x10_0).f4) ≤ a2 then (if ((rd_T37 l0 x10_0).f4) ≤ ((rd_T37 l0 x10_0).f2) then (barrowref33_Tick.l1 k l0 l1 a2 x8_0 x10_0 x9_0 0) else (barrowref33_Tick.l101 k l0 l1 a2 x8_0 x10_0 x9_0 0)) else (barrowref33_Tick.l101 k l0 l1 a2 x8_0 x10_0 x9_0 0)) else (none)) else (some (x8_0, x9_0))
def barrowref33_Tick.l1 : Nat → (List (S37)) → (List (S44)) → Int → (List (S37)) → Int → (List (S56)) → Int → Option ((List (S37)) × (List (S56)))
  | 0, _, _, _, _, _, _, _ => none
  | k + 1, l0, l1, a2, x8_0, x10_0, x9_1, x13_1 => if x13_1 < (l1.length : Int) then (if 0 ≤ x13_1 then ((barrowref32_In.f k ((rd_T37 l0 x10_0).f1.f0) ((rd_T37 l0 x10_0).f1.f1.f0) ((rd_T37 l0 x10_0).f1.f1.f1) ((rd_T37 l0 x10_0).f1.f2.f0) ((rd_T37 l0 x10_0).f1.f2.f1) ((rd_T37 l0 x10_0).f1.f3) ((rd_T37 l0 x10_0).f1.f4) ((rd_T44 l1 x13_1).f7.f0) ((rd_T44 l1 x13_1).f7.f1)).bind fun t442 => (if t442 = true then (if ((rd_T44 l1 x13_1).f3) > 0 then (if ((rd_T37 l0 x10_0).f7) = 0 then ((some (([(⟨(rd_T37 l0 x10_0).f0, (rd_T44 l1 x13_1).f0⟩ : S56)] : List (S56)) : List (S56))).bind fun y445 => (if x9_1.length + y445.length < 8796093022208 then ((some (x9_1 ++ y445 : List (S56))).bind fun y446 => (barrowref33_Tick.l1 k l0 l1 a2 x8_0 x10_0 y446 (wrap64 (x13_1 + 1)))) else (none))) else (if ((rd_T37 l0 x10_0).f7) = ((rd_T44 l1 x13_1).f1) then ((some (([(⟨(rd_T37 l0 x10_0).f0, (rd_T44 l1 x13_1).f0⟩ : S56)] : List (S56)) : List (S56))).bind fun y451 => (if x9_1.length + y451.length < 8796093022208 then ((some (x9_1 ++ y451 : List (S56))).bind fun y452 => (barrowref33_Tick.l1 k l0 l1 a2 x8_0 x10_0 y452 (wrap64 (x13_1 + 1)))) else (none))) else (barrowref33_Tick.l1 k l0 l1 a2 x8_0 x10_0 x9_1 (wrap64 (x13_1 + 1))))) else (barrowref33_Tick.l1 k l0 l1 a2 x8_0 x10_0 x9_1 (wrap64 (x13_1 + 1)))) else (barrowref33_Tick.l1 k l0 l1 a2 x8_0 x10_0 x9_1 (wrap64 (x13_1 + 1))))) else (none)) else ((barrowref01_Add.f k ((rd_T37 l0 x10_0).f4) ((rd_T37 l0 x10_0).f3)).bind fun t455 => (if ((rd_T37 l0 x10_0).f2) > a2 then ((some (([(⟨(rd_T37 l0 x10_0).f0, (⟨(rd_T37 l0 x10_0).f1.f0, (⟨(rd_T37 l0 x10_0).f1.f1.f0, (rd_T37 l0 x10_0).f1.f1.f1⟩ : S31), (⟨(rd_T37 l0 x10_0).f1.f2.f0, (rd_T37 l0 x10_0).f1.f2.f1⟩ : S31), (rd_T37 l0 x10_0).f1.f3, (rd_T37 l0 x10_0).f1.f4⟩ : S33), (rd_T37 l0 x10_0).f2, (rd_T37 l0 x10_0).f3, t455, (⟨(rd_T37 l0 x10_0).f5.f0, (rd_T37 l0 x10_0).f5.f1, (rd_T37 l0 x10_0).f5.f2⟩ : S35), (rd_T37 l0 x10_0).f6, (rd_T37 l0 x10_0).f7⟩ : S37)] : List (S37)) : List (S37))).bind fun y456 => (if x8_0.length + y456.length < 1099511627776 then ((some (x8_0 ++ y456 : List (S37))).bind fun y457 => (barrowref33_Tick.l0 k l0 l1 a2 y457 x9_1 (wrap64 (x10_0 + 1)))) else (none))) else (barrowref33_Tick.l0 k l0 l1 a2 x8_0 x9_1 (wrap64 (x10_0 + 1)))))
def barrowref33_Tick.l101 : Nat → (List (S37)) → (List (S44)) → Int → (List (S37)) → Int → (List (S56)) → Int → Option ((List (S37)) × (List (S56)))
  | 0, _, _, _, _, _, _, _ => none
  | k + 1, l0, l1, a2, x8_0, x10_0, x9_101, x13_101 => if x13_101 < (l1.length : Int) then (if ((rd_T37 l0 x10_0).f2) > a2 then ((some (([(⟨(rd_T37 l0 x10_0).f0, (⟨(rd_T37 l0 x10_0).f1.f0, (⟨(rd_T37 l0 x10_0).f1.f1.f0, (rd_T37 l0 x10_0).f1.f1.f1⟩ : S31), (⟨(rd_T37 l0 x10_0).f1.f2.f0, (rd_T37 l0 x10_0).f1.f2.f1⟩ : S31), (rd_T37 l0 x10_0).f1.f3, (rd_T37 l0 x10_0).f1.f4⟩ : S33), (rd_T37 l0 x10_0).f2, (rd_T37 l0 x10_0).f3, (rd_T37 l0 x10_0).f4, (⟨(rd_T37 l0 x10_0).f5.f0, (rd_T37 l0 x10_0).f5.f1, (rd_T37 l0 x10_0).f5.f2⟩ : S35), (rd_T37 l0 x10_0).f6, (rd_T37 l0 x10_0).f7⟩ : S37)] : List (S37)) : List (S37))).bind fun y460 => (if x8_0.length + y460.length < 1099511627776 then ((some (x8_0 ++ y460 : List (S37))).bind fun y461 => (barrowref33_Tick.l0 k l0 l1 a2 y461 x9_101 (wrap64 (x10_0 + 1)))) else (none))) else (barrowref33_Tick.l0 k l0 l1 a2 x8_0 x9_101 (wrap64 (x10_0 + 1)))) else (if ((rd_T37 l0 x10_0).f2) > a2 then ((some (([(⟨(rd_T37 l0 x10_0).f0, (⟨(rd_T37 l0 x10_0).f1.f0, (⟨(rd_T37 l0 x10_0).f1.f1.f0, (rd_T37 l0 x10_0).f1.f1.f1⟩ : S31), (⟨(rd_T37 l0 x10_0).f1.f2.f0, (rd_T37 l0 x10_0).f1.f2.f1⟩ : S31), (rd_T37 l0 x10_0).f1.f3, (rd_T37 l0 x10_0).f1.f4⟩ : S33), (rd_T37 l0 x10_0).f2, (rd_T37 l0 x10_0).f3, (rd_T37 l0 x10_0).f4, (⟨(rd_T37 l0 x10_0).f5.f0, (rd_T37 l0 x10_0).f5.f1, (rd_T37 l0 x10_0).f5.f2⟩ : S35), (rd_T37 l0 x10_0).f6, (rd_T37 l0 x10_0).f7⟩ : S37)] : List (S37)) : List (S37))).bind fun y464 => (if x8_0.length + y464.length < 1099511627776 then ((some (x8_0 ++ y464 : List (S37))).bind fun y465 => (barrowref33_Tick.l0 k l0 l1 a2 y465 x9_101 (wrap64 (x10_0 + 1)))) else (none))) else (barrowref33_Tick.l0 k l0 l1 a2 x8_0 x9_101 (wrap64 (x10_0 + 1))))
end
def barrowref33_Tick.f (k : Nat) (l0 : List (S37)) (l1 : List (S44)) (a2 : Int) : Option ((List (S37)) × (List (S56))) := barrowref33_Tick.l0 k l0 l1 a2 ([] : List (S37)) ([] : List (S56)) 0
theorem barrowref33_Tick.mono_l : ∀ k, (∀ y0 y1 y2 y3 y4 y5, LeO (barrowref33_Tick.l0 k y0 y1 y2 y3 y4 y5) (barrowref33_Tick.l0 (k + 1) y0 y1 y2 y3 y4 y5)) ∧ (∀ y0 y1 y2 y3 y4 y5 y6, LeO (barrowref33_Tick.l1 k y0 y1 y2 y3 y4 y5 y6) (barrowref33_Tick.l1 (k + 1) y0 y1 y2 y3 y4 y5 y6)) ∧ (∀ y0 y1 y2 y3 y4 y5 y6, LeO (barrowref33_Tick.l101 k y0 y1 y2 y3 y4 y5 y6) (barrowref33_Tick.l101 (k + 1) y0 y1 y2 y3 y4 y5 y6))
  | 0 => ⟨fun _ _ _ _ _ _ r h => by simp [barrowref33_Tick.l0] at h, fun _ _ _ _ _ _ _ r h => by simp [barrowref33_Tick.l1] at h, fun _ _ _ _ _ _ _ r h => by simp [barrowref33_Tick.l101] at h⟩
  | k + 1 => by
    obtain ⟨ih0, ih1, ih2⟩ := barrowref33_Tick.mono_l k
    refine ⟨?_, ?_, ?_⟩
    · intro y0 y1 y2 y3 y4 y5
      unfold barrowref33_Tick.l0
      repeat' first
      | (with_reducible exact ih0 _ _ _ _ _ _)
      | (with_reducible exact ih1 _ _ _ _ _ _ _)
      | (with_reducible exact ih2 _ _ _ _ _ _ _)
      | (with_reducible exact barrowref01_Add.mono _ _ _)
      | (with_reducible exact barrowref32_In.mono _ _ _ _ _ _ _ _ _ _)
      | (with_reducible exact LeO.refl _)
      | (with_reducible exact LeO.none _)
      | (with_reducible refine LeO.ite ?_ ?_)
      | (with_reducible refine LeO.bind ?_ (fun _ => ?_))
      | exact ih0 _ _ _ _ _ _
      | exact ih1 _ _ _ _ _ _ _
      | exact ih2 _ _ _ _ _ _ _
      | exact barrowref01_Add.mono _ _ _
      | exact barrowref32_In.mono _ _ _ _ _ _ _ _ _ _
      | exact LeO.none _
      | refine LeO.ite ?_ ?_
      | refine LeO.bind ?_ (fun _ => ?_)
    · intro y0 y1 y2 y3 y4 y5 y6
      unfold barrowref33_Tick.l1
      repeat' first
      | (with_reducible exact ih0 _ _ _ _ _ _)
      | (with_reducible exact ih1 _ _ _ _ _ _ _)
      | (with_reducible exact ih2 _ _ _ _ _ _ _)
      | (with_reducible exact barrowref01_Add.mono _ _ _)
      | (with_reducible exact barrowref32_In.mono _ _ _ _ _ _ _ _ _ _)
      | (with_reducible exact LeO.refl _)
      | (with_reducible exact LeO.none _)
      | (with_reducible refine LeO.ite ?_ ?_)
      | (with_reducible refine LeO.bind ?_ (fun _ => ?_))
      | exact ih0 _ _ _ _ _ _
      | exact ih1 _ _ _ _ _ _ _
      | exact ih2 _ _ _ _ _ _ _
      | exact barrowref01_Add.mono _ _ _
      | exact barrowref32_In.mono _ _ _ _ _ _ _ _ _ _
      | exact LeO.none _
      | refine LeO.ite ?_ ?_
      | refine LeO.bind ?_ (fun _ => ?_)
    · intro y0 y1 y2 y3 y4 y5 y6
      unfold barrowref33_Tick.l101
      repeat' first
      | (with_reducible exact ih0 _ _ _ _ _ _)
      | (with_reducible exact ih1 _ _ _ _ _ _ _)
      | (with_reducible exact ih2 _ _ _ _ _ _ _)
      | (with_reducible exact barrowref01_Add.mono _ _ _)
      | (with_reducible exact barrowref32_In.mono _ _ _ _ _ _ _ _ _ _)
      | (with_reducible exact LeO.refl _)
      | (with_reducible exact LeO.none _)
      | (with_reducible refine LeO.ite ?_ ?_)
      | (with_reducible refine LeO.bind ?_ (fun _ => ?_))
      | exact ih0 _ _ _ _ _ _
      | exact ih1 _ _ _ _ _ _ _
      | exact ih2 _ _ _ _ _ _ _
      | exact barrowref01_Add.mono _ _ _
      | exact barrowref32_In.mono _ _ _ _ _ _ _ _ _ _
      | exact LeO.none _
      | refine LeO.ite ?_ ?_
      | refine LeO.bind ?_ (fun _ => ?_)
theorem barrowref33_Tick.mono : ∀ a0 a1 a2 k, LeO (barrowref33_Tick.f k a0 a1 a2) (barrowref33_Tick.f (k + 1) a0 a1 a2) := by
  intro a0 a1 a2 k
  obtain ⟨ih0, ih1, ih2⟩ := barrowref33_Tick.mono_l k
  unfold barrowref33_Tick.f
  repeat' first
      | (with_reducible exact ih0 _ _ _ _ _ _)
      | (with_reducible exact ih1 _ _ _ _ _ _ _)
      | (with_reducible exact ih2 _ _ _ _ _ _ _)
      | (with_reducible exact barrowref01_Add.mono _ _ _)
      | (with_reducible exact barrowref32_In.mono _ _ _ _ _ _ _ _ _ _)
      | (with_reducible exact LeO.refl _)
      | (with_reducible exact LeO.none _)
      | (with_reducible refine LeO.ite ?_ ?_)
      | (with_reducible refine LeO.bind ?_ (fun _ => ?_))
      | exact ih0 _ _ _ _ _ _
      | exact ih1 _ _ _ _ _ _ _
      | exact ih2 _ _ _ _ _ _ _
      | exact barrowref01_Add.mono _ _ _
      | exact barrowref32_In.mono _ _ _ _ _ _ _ _ _ _
      | exact LeO.none _
      | refine LeO.ite ?_ ?_
      | refine LeO.bind ?_ (fun _ => ?_)
def barrowref33_Tick.T11 : Bool × List (List Nat × List Nat) := (true, [([], []), ([0], [0]), ([], []), ([], []), ([2, 3], [2, 3]), ([4], [4]), ([5], [5]), ([1, 6], [1, 6]), ([7, 7, 0, 1, 2, 3, 4, 5, 6, 7], [7])])
def barrowref33_Tick.B11 : List Nat := [0, 1, 0, 0, 12, 28, 60, 127, 255]
theorem barrowref33_Tick.tab11 : rtab .any (opsOf Try.f9 11) = barrowref33_Tick.T11 := by kernel_rfl
theorem barrowref33_Tick.bits11 : waitsOk barrowref33_Tick.T11.2 barrowref33_Tick.B11 = true := by kernel_rfl
def barrowref33_Tick.T12 : Bool × List (List Nat × List Nat) := (true, [([], []), ([0], [0]), ([1], [1]), ([1], [1]), ([2, 3, 1], [1, 2, 3]), ([4, 1], [1, 4]), ([5, 1], [1, 5]), ([6, 1], [1, 6]), ([1, 7], [1, 7]), ([8, 1], [8]), ([9], [9]), ([10, 9], [9, 10]), ([11, 9], [9, 11]), ([12, 9, 9], [9, 12]), ([13], [13]), ([14, 13], [13, 14]), ([13], [13]), ([13], [13]), ([16, 17, 13], [13, 16, 17]), ([18, 13], [13, 18]), ([19, 13], [13, 19]), ([15, 20, 13], [13, 15, 20]), ([13, 21, 9], [9, 13, 21]), ([9, 22], [9, 22])])
def barrowref33_Tick.B12 : List Nat := [0, 1, 3, 3, 15, 31, 63, 127, 255, 511, 1023, 2047, 4095, 8191, 16383, 32767, 16383, 16383, 212991, 475135, 999423, 2097151, 4194303, 8388607]
theorem barrowref33_Tick.tab12 : rtab .any (opsOf Try.f9 12) = barrowref33_Tick.T12 := by kernel_rfl
theorem barrowref33_Tick.bits12 : waitsOk barrowref33_Tick.T12.2 barrowref33_Tick.B12 = true := by kernel_rfl
def barrowref33_Tick.T13 : Bool × List (List Nat × List Nat) := (true, [([], []), ([], []), ([1], [1]), ([], []), ([], []), ([3, 4], [3, 4]), ([5], [5]), ([6], [6]), ([2, 7], [2, 7]), ([8], [8]), ([0, 9], [0, 9]), ([10, 10, 0, 1, 2, 3, 4, 5, 6, 7, 8, 9, 10], [0, 10])])
def barrowref33_Tick.B13 : List Nat := [0, 0, 2, 0, 0, 24, 56, 120, 254, 510, 1023, 2047]
theorem barrowref33_Tick.tab13 : rtab .any (opsOf Try.f9 13) = barrowref33_Tick.T13 := by kernel_rfl
theorem barrowref33_Tick.bits13 : waitsOk barrowref33_Tick.T13.2 barrowref33_Tick.B13 = true := by kernel_rfl
def barrowref33_Tick.Post (r1 : List (S37)) (r2 : List (S56)) (S : Nat → Prop) (L : List Asr) (w : World) (e : Ending) (w' : World) : Prop := ∃ (Ar1 : Option Addr) (cr1 : Nat) (Ar2 : Option Addr) (cr2 : Nat), e = .returned (.tuple #[.slice Ar1 r1.length cr1, .slice Ar2 r2.length cr2]) ∧ SL (row k37 37 (.slice Ar1 r1.length cr1) r1 :: row k56 56 (.slice Ar2 r2.length cr2) r2 :: L) w' S ∧ Keep S w w'
set_option maxHeartbeats 8000000 in
set_option maxRecDepth 100000 in
theorem barrowref33_Tick.slcalls (k : Nat) (A0 : Option Addr) (c0 : Nat) (l0 : List (S37)) (A1 : Option Addr) (c1 : Nat) (l1 : List (S44)) (a2 : Int) (r1 : List (S37)) (r2 : List (S56)) (S : Nat → Prop) (L : List Asr) (w : World) (hf : Fresh S w) (hs : SL (L) w S) (hr0 : RO S w (fun w_ => Kd.C k37 w_ A0 l0.length l0)) (hc0 : l0.length ≤ c0) (hr1 : RO S w (fun w_ => Kd.C k44 w_ A1 l1.length l1)) (hc1 : l1.length ≤ c1) (h : barrowref33_Tick.f k l0 l1 a2 = some (r1, r2)) :
    Calls Try.prog 9 #[.slice A0 l0.length c0, .slice A1 l1.length c1, .int .i64 a2] w (barrowref33_Tick.Post r1 r2 S L w) := by
  have HR0 := Aside0.mk hr0
  have HC0 := Aside0.mk hc0
  clear hr0 hc0
  have HR1 := Aside0.mk hr1
  have HC1 := Aside0.mk hc1
  clear hr1 hc1
  have HF := Aside0.mk hf
  have HS := Aside0.mk hs
  have HK := Aside0.mk (Keep.refl S w)
  clear hf hs
  have hu31 := Try.underlying31
  have hu33 := Try.underlying33
  have hu37 := Try.underlying37
  have hu56 := Try.underlying56
  have H : (barrowref33_Tick.l0 k l0 l1 a2 ([] : List (S37)) ([] : List (S56)) 0) = some (r1, r2) := h
  clear h
  have H' := Aside0.mk H
  clear H
  have n2_ := Aside0.mk (SL.nil_row k37 37 HS.out)
  clear HS
  have HS := n2_
  clear n2_
  have n2_ := Aside0.mk (SL.nil_row k56 56 HS.out)
  clear HS
  have HS := n2_
  clear n2_
  go_enter Try.func9, Try.ntmps9
  go_wp2
  go_loopg [8, 9, 10] k (fun kq v8 v9 v10 w' => ∃ (x9_0 : List (S56)) (Ax9_0 : Option Addr) (cx9_0 : Nat) (x8_0 : List (S37)) (Ax8_0 : Option Addr) (cx8_0 : Nat) (x10_0 : Int), v8 = .slice Ax8_0 x8_0.length cx8_0 ∧ v9 = .slice Ax9_0 x9_0.length cx9_0 ∧ v10 = .int .i64 x10_0 ∧ Aside0 (barrowref33_Tick.l0 kq l0 l1 a2 x8_0 x9_0 x10_0 = some (r1, r2)) ∧ Aside0 (kq ≤ k) ∧ Aside0 (SL (row k56 56 (.slice Ax9_0 x9_0.length cx9_0) x9_0 :: row k37 37 (.slice Ax8_0 x8_0.length cx8_0) x8_0 :: L) w' S) ∧ Aside0 (Keep S w w'))
  case atStart => exact ⟨(([] : List (S56))), (none), (0), (([] : List (S37))), (none), (0), (0), (by first | rfl | (simp; done) | (simp [*]; done)), (by first | rfl | (simp; done) | (simp [*]; done)), (by first | rfl | (simp; done) | (simp [*]; done)), H', ⟨Nat.le_refl _⟩, HS, HK⟩
  case round =>
    clear H' HS HK
    obtain ⟨x9_0, Ax9_0, cx9_0, x8_0, Ax8_0, cx8_0, x10_0, rfl, rfl, rfl, HA, HQ1, HS, HK⟩ := hrel
    cases gk with
    | zero => exact absurd HA.out (by simp [barrowref33_Tick.l0])
    | succ k1 =>
      have H := HA.out
      clear HA
      simp only [barrowref33_Tick.l0] at H
      by_cases c1 : x10_0 < (l0.length : Int)
      · rw [if_pos c1] at H
        have c1b0 : decide (x10_0 < (l0.length : Int)) = true := decide_eq_true c1
        clear c1
        by_cases c2 : 0 ≤ x10_0
        · rw [if_pos c2] at H
          have c2b0 : decide (0 ≤ x10_0) = true := decide_eq_true c2
          clear c2
          by_cases c3 : ((rd_T37 l0 x10_0).f4) ≤ a2
          · rw [if_pos c3] at H
            have c3b0 : decide (((rd_T37 l0 x10_0).f4) ≤ a2) = true := decide_eq_true c3
            clear c3
            by_cases c4 : ((rd_T37 l0 x10_0).f4) ≤ ((rd_T37 l0 x10_0).f2)
            · rw [if_pos c4] at H
              have c4b0 : decide (((rd_T37 l0 x10_0).f4) ≤ ((rd_T37 l0 x10_0).f2)) = true := decide_eq_true c4
              clear c4
              have H' := Aside0.mk H
              clear H
              have pq440 : 0 ≤ (x10_0 : Int) := of_decide_eq_true (by first | (with_reducible assumption) | assumption)
              have qq440 : x10_0 < ((l0.length : Int) : Int) := of_decide_eq_true (by first | (with_reducible assumption) | assumption)
              obtain ⟨adq440, eq440, hxq440_0, hxq440_1, hxq440_2, hxq440_3, hxq440_4, hxq440_5, hxq440_6, hxq440_7, hxq440_8, hxq440_9, hxq440_10, hxq440_11, hxq440_12, hxq440_13, hxq440_14, hxq440_15⟩ := at_T37 (RO.at_ HR0.out HK.out) x10_0 pq440 qq440
              cases eq440
              replace pq440 := eq_true pq440
              replace qq440 := eq_true qq440
              go_wp2_with (first | ((with_reducible refine gate_dst (N := 24) rfl ?_); refine wpList_loadA rfl 37 (.tmp 23) rfl _ rfl _ _ (ats_of hxq440_0 (atk_cons hxq440_1 (atk_cons hxq440_2 (atk_cons hxq440_3 (atk_cons hxq440_4 (atk_cons hxq440_5 (atk_cons hxq440_6 (atk_cons hxq440_7 (atk_cons hxq440_8 (atk_cons hxq440_9 (atk_cons hxq440_10 (atk_cons hxq440_11 (atk_cons hxq440_12 (atk_cons hxq440_13 (atk_cons hxq440_14 (atk_cons hxq440_15 atk_nil)))))))))))))))) Try.underlying37 rfl (by kernel_rfl) ?_) | ((with_reducible refine gate_dst (N := 11) rfl ?_); refine wpList_plain rfl (fun K_ hK_ => ?_); refine op_box (S := S) (cs := #[.int .i64 0, .int .i64 0, .int .i64 0, .int .i64 0, .int .i64 0, .int .i64 0, .int .i64 0, .int .i64 0, .int .i64 0, .int .i64 0, .int .i64 0, .int .i64 0, .int .i64 0, .int .i64 0, .int .i64 0, .int .i64 0]) (t := 37) (HF.out.keep HK.out) HS.out (by first | (go_simp; done) | (go_simp; rfl)) ?_; intro g3000050 w5 hs_ hk_; refine hK_ _ _ ?_; clear hK_ K_; replace HS := Aside0.mk (hs_); replace HK := Aside0.mk (HK.out.trans hk_)) | ((with_reducible refine gate_store (t := 37) (p := 11) (v := (.tmp 24)) rfl ?_); refine wpList_plain rfl (fun K_ hK_ => ?_); refine op_store (S := S) 37 (.tmp 11) (.tmp 24) rfl g3000050 0 (.agg #[.int .i64 ((rd_T37 l0 x10_0).f0), .int .i64 ((rd_T37 l0 x10_0).f1.f0), .int .i64 ((rd_T37 l0 x10_0).f1.f1.f0), .int .i64 ((rd_T37 l0 x10_0).f1.f1.f1), .int .i64 ((rd_T37 l0 x10_0).f1.f2.f0), .int .i64 ((rd_T37 l0 x10_0).f1.f2.f1), .int .i64 ((rd_T37 l0 x10_0).f1.f3), .int .i64 ((rd_T37 l0 x10_0).f1.f4), .int .i64 ((rd_T37 l0 x10_0).f2), .int .i64 ((rd_T37 l0 x10_0).f3), .int .i64 ((rd_T37 l0 x10_0).f4), .int .i64 ((rd_T37 l0 x10_0).f5.f0), .int .i64 ((rd_T37 l0 x10_0).f5.f1), .int .i64 ((rd_T37 l0 x10_0).f5.f2), .int .i64 ((rd_T37 l0 x10_0).f6), .int .i64 ((rd_T37 l0 x10_0).f7)]) [.int .i64 ((rd_T37 l0 x10_0).f0), .int .i64 ((rd_T37 l0 x10_0).f1.f0), .int .i64 ((rd_T37 l0 x10_0).f1.f1.f0), .int .i64 ((rd_T37 l0 x10_0).f1.f1.f1), .int .i64 ((rd_T37 l0 x10_0).f1.f2.f0), .int .i64 ((rd_T37 l0 x10_0).f1.f2.f1), .int .i64 ((rd_T37 l0 x10_0).f1.f3), .int .i64 ((rd_T37 l0 x10_0).f1.f4), .int .i64 ((rd_T37 l0 x10_0).f2), .int .i64 ((rd_T37 l0 x10_0).f3), .int .i64 ((rd_T37 l0 x10_0).f4), .int .i64 ((rd_T37 l0 x10_0).f5.f0), .int .i64 ((rd_T37 l0 x10_0).f5.f1), .int .i64 ((rd_T37 l0 x10_0).f5.f2), .int .i64 ((rd_T37 l0 x10_0).f6), .int .i64 ((rd_T37 l0 x10_0).f7)] rfl rfl rfl (by kernel_rfl) (by simp [Value.oneCell']) HS.out (by simp) ?_; intro w6 hs_ hk_; refine hK_ _ _ ?_; clear hK_ K_; replace HS := Aside0.mk ((show SL (cells g3000050 37 [.int .i64 ((rd_T37 l0 x10_0).f0), .int .i64 ((rd_T37 l0 x10_0).f1.f0), .int .i64 ((rd_T37 l0 x10_0).f1.f1.f0), .int .i64 ((rd_T37 l0 x10_0).f1.f1.f1), .int .i64 ((rd_T37 l0 x10_0).f1.f2.f0), .int .i64 ((rd_T37 l0 x10_0).f1.f2.f1), .int .i64 ((rd_T37 l0 x10_0).f1.f3), .int .i64 ((rd_T37 l0 x10_0).f1.f4), .int .i64 ((rd_T37 l0 x10_0).f2), .int .i64 ((rd_T37 l0 x10_0).f3), .int .i64 ((rd_T37 l0 x10_0).f4), .int .i64 ((rd_T37 l0 x10_0).f5.f0), .int .i64 ((rd_T37 l0 x10_0).f5.f1), .int .i64 ((rd_T37 l0 x10_0).f5.f2), .int .i64 ((rd_T37 l0 x10_0).f6), .int .i64 ((rd_T37 l0 x10_0).f7)].toArray :: _) _ _ from hs_)); replace HK := Aside0.mk (HK.out.trans hk_); have hb_ := SL.at_ HS.out; have hz3000050_0_2 := ((blk_cell hb_ 0).trans rfl : _ = some (.int .i64 ((rd_T37 l0 x10_0).f0))); have hz3000050_1_2 := ((blk_cell hb_ 1).trans rfl : _ = some (.int .i64 ((rd_T37 l0 x10_0).f1.f0))); have hz3000050_2_2 := ((blk_cell hb_ 2).trans rfl : _ = some (.int .i64 ((rd_T37 l0 x10_0).f1.f1.f0))); have hz3000050_3_2 := ((blk_cell hb_ 3).trans rfl : _ = some (.int .i64 ((rd_T37 l0 x10_0).f1.f1.f1))); have hz3000050_4_2 := ((blk_cell hb_ 4).trans rfl : _ = some (.int .i64 ((rd_T37 l0 x10_0).f1.f2.f0))); have hz3000050_5_2 := ((blk_cell hb_ 5).trans rfl : _ = some (.int .i64 ((rd_T37 l0 x10_0).f1.f2.f1))); have hz3000050_6_2 := ((blk_cell hb_ 6).trans rfl : _ = some (.int .i64 ((rd_T37 l0 x10_0).f1.f3))); have hz3000050_7_2 := ((blk_cell hb_ 7).trans rfl : _ = some (.int .i64 ((rd_T37 l0 x10_0).f1.f4))); have hz3000050_8_2 := ((blk_cell hb_ 8).trans rfl : _ = some (.int .i64 ((rd_T37 l0 x10_0).f2))); have hz3000050_9_2 := ((blk_cell hb_ 9).trans rfl : _ = some (.int .i64 ((rd_T37 l0 x10_0).f3))); have hz3000050_10_2 := ((blk_cell hb_ 10).trans rfl : _ = some (.int .i64 ((rd_T37 l0 x10_0).f4))); have hz3000050_11_2 := ((blk_cell hb_ 11).trans rfl : _ = some (.int .i64 ((rd_T37 l0 x10_0).f5.f0))); have hz3000050_12_2 := ((blk_cell hb_ 12).trans rfl : _ = some (.int .i64 ((rd_T37 l0 x10_0).f5.f1))); have hz3000050_13_2 := ((blk_cell hb_ 13).trans rfl : _ = some (.int .i64 ((rd_T37 l0 x10_0).f5.f2))); have hz3000050_14_2 := ((blk_cell hb_ 14).trans rfl : _ = some (.int .i64 ((rd_T37 l0 x10_0).f6))); have hz3000050_15_2 := ((blk_cell hb_ 15).trans rfl : _ = some (.int .i64 ((rd_T37 l0 x10_0).f7))); clear hb_))
              replace HS := Aside0.mk (SL.get2 (SL.get1 (SL.get2 HS.out)))
              go_loopg [9, 13] k1 (fun kq v9 v13 w' => ∃ (x9_1 : List (S56)) (Ax9_1 : Option Addr) (cx9_1 : Nat) (x13_1 : Int), v9 = .slice Ax9_1 x9_1.length cx9_1 ∧ v13 = .int .i64 x13_1 ∧ Aside0 (barrowref33_Tick.l1 kq l0 l1 a2 x8_0 x10_0 x9_1 x13_1 = some (r1, r2)) ∧ Aside0 (kq ≤ k1) ∧ Aside0 (SL (row k56 56 (.slice Ax9_1 x9_1.length cx9_1) x9_1 :: cells g3000050 37 [.int .i64 ((rd_T37 l0 x10_0).f0), .int .i64 ((rd_T37 l0 x10_0).f1.f0), .int .i64 ((rd_T37 l0 x10_0).f1.f1.f0), .int .i64 ((rd_T37 l0 x10_0).f1.f1.f1), .int .i64 ((rd_T37 l0 x10_0).f1.f2.f0), .int .i64 ((rd_T37 l0 x10_0).f1.f2.f1), .int .i64 ((rd_T37 l0 x10_0).f1.f3), .int .i64 ((rd_T37 l0 x10_0).f1.f4), .int .i64 ((rd_T37 l0 x10_0).f2), .int .i64 ((rd_T37 l0 x10_0).f3), .int .i64 ((rd_T37 l0 x10_0).f4), .int .i64 ((rd_T37 l0 x10_0).f5.f0), .int .i64 ((rd_T37 l0 x10_0).f5.f1), .int .i64 ((rd_T37 l0 x10_0).f5.f2), .int .i64 ((rd_T37 l0 x10_0).f6), .int .i64 ((rd_T37 l0 x10_0).f7)].toArray :: row k37 37 (.slice Ax8_0 x8_0.length cx8_0) x8_0 :: L) w' S) ∧ Aside0 (Keep S w w'))
              case atStart => exact ⟨(x9_0), (Ax9_0), (cx9_0), (0), (by first | rfl | (simp; done) | (simp [*]; done)), (by first | rfl | (simp; done) | (simp [*]; done)), H', ⟨Nat.le_refl _⟩, HS, HK⟩
              case round =>
                clear H' HS HK
                try clear hz3000050_0_0 hz3000050_1_0 hz3000050_2_0 hz3000050_3_0 hz3000050_4_0 hz3000050_5_0 hz3000050_6_0 hz3000050_7_0 hz3000050_8_0 hz3000050_9_0 hz3000050_10_0 hz3000050_11_0 hz3000050_12_0 hz3000050_13_0 hz3000050_14_0 hz3000050_15_0
                try clear hz3000050_0_0 hz3000050_1_0 hz3000050_2_0 hz3000050_3_0 hz3000050_4_0 hz3000050_5_0 hz3000050_6_0 hz3000050_7_0 hz3000050_8_0 hz3000050_9_0 hz3000050_10_0 hz3000050_11_0 hz3000050_12_0 hz3000050_13_0 hz3000050_14_0 hz3000050_15_0
                try clear hz3000050_0_0 hz3000050_1_0 hz3000050_2_0 hz3000050_3_0 hz3000050_4_0 hz3000050_5_0 hz3000050_6_0 hz3000050_7_0 hz3000050_8_0 hz3000050_9_0 hz3000050_10_0 hz3000050_11_0 hz3000050_12_0 hz3000050_13_0 hz3000050_14_0 hz3000050_15_0
                obtain ⟨x9_1, Ax9_1, cx9_1, x13_1, rfl, rfl, HA, HQ2, HS, HK⟩ := hrel
                cases gk with
                | zero => exact absurd HA.out (by simp [barrowref33_Tick.l1])
                | succ k2 =>
                  have H := HA.out
                  clear HA
                  simp only [barrowref33_Tick.l1] at H
                  by_cases c7 : x13_1 < (l1.length : Int)
                  · rw [if_pos c7] at H
                    have c7b0 : decide (x13_1 < (l1.length : Int)) = true := decide_eq_true c7
                    clear c7
                    by_cases c8 : 0 ≤ x13_1
                    · rw [if_pos c8] at H
                      have c8b0 : decide (0 ≤ x13_1) = true := decide_eq_true c8
                      clear c8
                      replace H := Option.bind_eq_some_iff.1 H
                      obtain ⟨t442, Hc90, H⟩ := H
                      try dsimp only at H
                      have Hc9 := Aside0.mk Hc90
                      clear Hc90
                      by_cases c10 : t442 = true
                      · subst c10
                        rw [if_pos rfl] at H
                        by_cases c11 : ((rd_T44 l1 x13_1).f3) > 0
                        · rw [if_pos c11] at H
                          have c11b0 : decide (0 < ((rd_T44 l1 x13_1).f3)) = true := decide_eq_true c11
                          clear c11
                          by_cases c12 : ((rd_T37 l0 x10_0).f7) = 0
                          · rw [if_pos c12] at H
                            have c12b0 : (((rd_T37 l0 x10_0).f7) == 0) = true := beq_iff_eq.mpr c12
                            have c12b1 : (((rd_T37 l0 x10_0).f7) != 0) = false := bne_eq_false_iff_eq.mpr c12
                            clear c12
                            replace H := Option.bind_eq_some_iff.1 H
                            obtain ⟨y445, hy4450, H⟩ := H
                            try dsimp only at H
                            have hy445 := Option.some.inj hy4450
                            clear hy4450
                            have Ny445 := Aside0.mk hy445
                            clear hy445
                            by_cases c13 : x9_1.length + y445.length < 8796093022208
                            · rw [if_pos c13] at H
                              have LMc13 := Aside0.mk c13
                              clear c13
                              replace H := Option.bind_eq_some_iff.1 H
                              obtain ⟨y446, hy4460, H⟩ := H
                              try dsimp only at H
                              have hy446 := Option.some.inj hy4460
                              clear hy4460
                              have Ny446 := Aside0.mk hy446
                              clear hy446
                              have H' := Aside0.mk H
                              clear H
                              try go_wp2
                              have pq441 : 0 ≤ (x13_1 : Int) := of_decide_eq_true (by first | (with_reducible assumption) | assumption)
                              have qq441 : x13_1 < ((l1.length : Int) : Int) := of_decide_eq_true (by first | (with_reducible assumption) | assumption)
                              obtain ⟨adq441, eq441, hxq441_0, hxq441_1, hxq441_2, hxq441_3, hxq441_4, hxq441_5, hxq441_6, hxq441_7, hxq441_8, hxq441_9⟩ := at_T44 (RO.at_ HR1.out HK.out) x13_1 pq441 qq441
                              cases eq441
                              replace pq441 := eq_true pq441
                              replace qq441 := eq_true qq441
                              refine start_ (n := 9) (S := fun w' => w'.cell? ⟨g3000050, 1, none⟩ = some (.int .i64 ((rd_T37 l0 x10_0).f1.f0)) ∧ w'.cell? ⟨g3000050, 2, none⟩ = some (.int .i64 ((rd_T37 l0 x10_0).f1.f1.f0)) ∧ w'.cell? ⟨g3000050, 3, none⟩ = some (.int .i64 ((rd_T37 l0 x10_0).f1.f1.f1)) ∧ w'.cell? ⟨g3000050, 4, none⟩ = some (.int .i64 ((rd_T37 l0 x10_0).f1.f2.f0)) ∧ w'.cell? ⟨g3000050, 5, none⟩ = some (.int .i64 ((rd_T37 l0 x10_0).f1.f2.f1)) ∧ w'.cell? ⟨g3000050, 6, none⟩ = some (.int .i64 ((rd_T37 l0 x10_0).f1.f3)) ∧ w'.cell? ⟨g3000050, 7, none⟩ = some (.int .i64 ((rd_T37 l0 x10_0).f1.f4)) ∧ w'.cell? (adq441.add (x13_1.toNat * 10)) = some (.int .i64 ((rd_T44 l1 x13_1).f0)) ∧ w'.cell? ⟨(adq441.add (x13_1.toNat * 10)).block, (adq441.add (x13_1.toNat * 10)).off + 1, none⟩ = some (.int .i64 ((rd_T44 l1 x13_1).f1)) ∧ w'.cell? ⟨(adq441.add (x13_1.toNat * 10)).block, (adq441.add (x13_1.toNat * 10)).off + 2, none⟩ = some (.int .i64 ((rd_T44 l1 x13_1).f2)) ∧ w'.cell? ⟨(adq441.add (x13_1.toNat * 10)).block, (adq441.add (x13_1.toNat * 10)).off + 3, none⟩ = some (.int .i64 ((rd_T44 l1 x13_1).f3)) ∧ w'.cell? ⟨(adq441.add (x13_1.toNat * 10)).block, (adq441.add (x13_1.toNat * 10)).off + 4, none⟩ = some (.int .i64 ((rd_T44 l1 x13_1).f4)) ∧ w'.cell? ⟨(adq441.add (x13_1.toNat * 10)).block, (adq441.add (x13_1.toNat * 10)).off + 5, none⟩ = some (.int .i64 ((rd_T44 l1 x13_1).f5)) ∧ w'.cell? ⟨(adq441.add (x13_1.toNat * 10)).block, (adq441.add (x13_1.toNat * 10)).off + 6, none⟩ = some (.int .i64 ((rd_T44 l1 x13_1).f6)) ∧ w'.cell? ⟨(adq441.add (x13_1.toNat * 10)).block, (adq441.add (x13_1.toNat * 10)).off + 7, none⟩ = some (.int .i64 ((rd_T44 l1 x13_1).f7.f0)) ∧ w'.cell? ⟨(adq441.add (x13_1.toNat * 10)).block, (adq441.add (x13_1.toNat * 10)).off + 8, none⟩ = some (.int .i64 ((rd_T44 l1 x13_1).f7.f1)) ∧ w'.cell? ⟨(adq441.add (x13_1.toNat * 10)).block, (adq441.add (x13_1.toNat * 10)).off + 9, none⟩ = some (.int .i64 ((rd_T44 l1 x13_1).f8))) (ds := []) #[false, false, false, false, false, false, false, false, false] (by kernel_rfl) rfl rfl ⟨(((blk_cell (SL.at_ (SL.get1 HS.out)) 1).trans rfl)), (((blk_cell (SL.at_ (SL.get1 HS.out)) 2).trans rfl)), (((blk_cell (SL.at_ (SL.get1 HS.out)) 3).trans rfl)), (((blk_cell (SL.at_ (SL.get1 HS.out)) 4).trans rfl)), (((blk_cell (SL.at_ (SL.get1 HS.out)) 5).trans rfl)), (((blk_cell (SL.at_ (SL.get1 HS.out)) 6).trans rfl)), (((blk_cell (SL.at_ (SL.get1 HS.out)) 7).trans rfl)), (by obtain ⟨a_, e_, h0_, h1_, h2_, h3_, h4_, h5_, h6_, h7_, h8_, h9_⟩ := at_T44 (RO.at_ HR1.out HK.out) x13_1 (of_eq_true pq441) (of_eq_true qq441); obtain rfl := Option.some.inj e_; exact h0_), (by obtain ⟨a_, e_, h0_, h1_, h2_, h3_, h4_, h5_, h6_, h7_, h8_, h9_⟩ := at_T44 (RO.at_ HR1.out HK.out) x13_1 (of_eq_true pq441) (of_eq_true qq441); obtain rfl := Option.some.inj e_; exact h1_), (by obtain ⟨a_, e_, h0_, h1_, h2_, h3_, h4_, h5_, h6_, h7_, h8_, h9_⟩ := at_T44 (RO.at_ HR1.out HK.out) x13_1 (of_eq_true pq441) (of_eq_true qq441); obtain rfl := Option.some.inj e_; exact h2_), (by obtain ⟨a_, e_, h0_, h1_, h2_, h3_, h4_, h5_, h6_, h7_, h8_, h9_⟩ := at_T44 (RO.at_ HR1.out HK.out) x13_1 (of_eq_true pq441) (of_eq_true qq441); obtain rfl := Option.some.inj e_; exact h3_), (by obtain ⟨a_, e_, h0_, h1_, h2_, h3_, h4_, h5_, h6_, h7_, h8_, h9_⟩ := at_T44 (RO.at_ HR1.out HK.out) x13_1 (of_eq_true pq441) (of_eq_true qq441); obtain rfl := Option.some.inj e_; exact h4_), (by obtain ⟨a_, e_, h0_, h1_, h2_, h3_, h4_, h5_, h6_, h7_, h8_, h9_⟩ := at_T44 (RO.at_ HR1.out HK.out) x13_1 (of_eq_true pq441) (of_eq_true qq441); obtain rfl := Option.some.inj e_; exact h5_), (by obtain ⟨a_, e_, h0_, h1_, h2_, h3_, h4_, h5_, h6_, h7_, h8_, h9_⟩ := at_T44 (RO.at_ HR1.out HK.out) x13_1 (of_eq_true pq441) (of_eq_true qq441); obtain rfl := Option.some.inj e_; exact h6_), (by obtain ⟨a_, e_, h0_, h1_, h2_, h3_, h4_, h5_, h6_, h7_, h8_, h9_⟩ := at_T44 (RO.at_ HR1.out HK.out) x13_1 (of_eq_true pq441) (of_eq_true qq441); obtain rfl := Option.some.inj e_; exact h7_), (by obtain ⟨a_, e_, h0_, h1_, h2_, h3_, h4_, h5_, h6_, h7_, h8_, h9_⟩ := at_T44 (RO.at_ HR1.out HK.out) x13_1 (of_eq_true pq441) (of_eq_true qq441); obtain rfl := Option.some.inj e_; exact h8_), (by obtain ⟨a_, e_, h0_, h1_, h2_, h3_, h4_, h5_, h6_, h7_, h8_, h9_⟩ := at_T44 (RO.at_ HR1.out HK.out) x13_1 (of_eq_true pq441) (of_eq_true qq441); obtain rfl := Option.some.inj e_; exact h9_)⟩ (fun hHeld => ?_); refine with_tabW barrowref33_Tick.tab11 barrowref33_Tick.bits11 (fun HT_ HW_ => ?_)
                              replace HK := Aside0.mk (Keep.drew HK.out)
                              replace HS := Aside0.mk (SL.drew HS.out)
                              refine pure_ (i := 0) (N := some 45) (v := ?_) (a' := ?_) #[true, false, false, false, false, false, false, false, false] rfl rfl (any_of HT_.out (by kernel_rfl)) (fun _ _ _ h => h) (Or.inl ⟨by rfl, ?_⟩) ?_ ?_; rotate_left; · (intro w'; go_simp; with_reducible rfl)
                              rotate_left; · (simp only [Act.put, sT, sZ, sS, i64_w, i32_w]; rfl)
                              refine pure_ (i := 2) (N := some 47) (v := ?_) (a' := ?_) #[true, false, true, false, false, false, false, false, false] rfl rfl (any_of HT_.out (by kernel_rfl)) (fun _ _ _ h => h) (Or.inl ⟨by rfl, ?_⟩) ?_ ?_; rotate_left; · (intro w'; go_simp; with_reducible rfl)
                              rotate_left; · (simp only [Act.put, sT, sZ, sS, i64_w, i32_w]; rfl)
                              refine pure_ (i := 3) (N := some 48) (v := ?_) (a' := ?_) #[true, false, true, true, false, false, false, false, false] rfl rfl (any_of HT_.out (by kernel_rfl)) (fun _ _ _ h => h) (Or.inl ⟨by rfl, ?_⟩) ?_ ?_; rotate_left; · (intro w'; go_simp; with_reducible rfl)
                              rotate_left; · (simp only [Act.put, sT, sZ, sS, i64_w, i32_w]; rfl)
                              refine pure_ (i := 4) (N := some 49) (v := ?_) (a' := ?_) #[true, false, true, true, true, false, false, false, false] rfl rfl (any_of HT_.out (by kernel_rfl)) (fun _ _ _ h => h) (Or.inl ⟨by rfl, ?_⟩) ?_ ?_; rotate_left; · (intro w'; go_simp; with_reducible rfl)
                              rotate_left; · (simp only [Act.put, sT, sZ, sS, i64_w, i32_w]; rfl)
                              refine pure_ (i := 5) (N := some 50) (v := ?_) (a' := ?_) #[true, false, true, true, true, true, false, false, false] rfl rfl (any_of HT_.out (by kernel_rfl)) (fun _ _ _ h => h) (Or.inl ⟨by rfl, ?_⟩) ?_ ?_; rotate_left; · (intro w'; go_simp; with_reducible rfl)
                              rotate_left; · (simp only [Act.put, sT, sZ, sS, i64_w, i32_w]; rfl)
                              refine take_ (i := 1) (N := some 46) (v := ?_) (a' := ?_) #[true, true, true, true, true, true, false, false, false] rfl rfl (take_ofW HT_.out HW_.out (by kernel_rfl)) (fun _ _ _ h => h) (Or.inl ⟨by rfl, ?_⟩) hHeld ?_ ?_; rotate_left
                              · rintro w' ⟨s0, s1, s2, s3, s4, s5, s6, s7, s8, s9, s10, s11, s12, s13, s14, s15, s16⟩
                                go_simp
                                with_reducible rfl
                              rotate_left; · (simp only [Act.put, sT, sZ, sS, i64_w, i32_w]; rfl)
                              refine take_ (i := 6) (N := some 51) (v := ?_) (a' := ?_) #[true, true, true, true, true, true, true, false, false] rfl rfl (take_ofW HT_.out HW_.out (by kernel_rfl)) (fun _ _ _ h => h) (Or.inl ⟨by rfl, ?_⟩) hHeld ?_ ?_; rotate_left
                              · rintro w' ⟨s0, s1, s2, s3, s4, s5, s6, s7, s8, s9, s10, s11, s12, s13, s14, s15, s16⟩
                                go_simp
                                with_reducible rfl
                              rotate_left; · (simp only [Act.put, sT, sZ, sS, i64_w, i32_w]; rfl)
                              refine one_ (i := 7) (N := some 52) #[true, true, true, true, true, true, true, true, false] rfl rfl (one_of HT_.out (by kernel_rfl)) (by decide) (fun K hK => ?_)
                              refine goes_ Try.func27 (by kernel_rfl) rfl #[.agg #[.int .i64 ((rd_T37 l0 x10_0).f1.f0), .int .i64 ((rd_T37 l0 x10_0).f1.f1.f0), .int .i64 ((rd_T37 l0 x10_0).f1.f1.f1), .int .i64 ((rd_T37 l0 x10_0).f1.f2.f0), .int .i64 ((rd_T37 l0 x10_0).f1.f2.f1), .int .i64 ((rd_T37 l0 x10_0).f1.f3), .int .i64 ((rd_T37 l0 x10_0).f1.f4)], .agg #[.int .i64 ((rd_T44 l1 x13_1).f7.f0), .int .i64 ((rd_T44 l1 x13_1).f7.f1)]] (by rfl) rfl rfl (by (try simp only [List.map_toArray, List.map_cons, List.map_nil]); first | done | rfl | (simp; done)) ?_
                              (with_reducible refine (barrowref32_In.calls k2 _ _ _ _ _ _ _ _ _ _ _  Hc9.out).mono ?_)
                              rintro e_ w14 ⟨rfl, hb_⟩
                              refine ⟨_, rfl, ?_⟩
                              replace HS := Aside0.mk (HS.out.below hb_)
                              replace HK := Aside0.mk (HK.out.trans (Keep.below hb_))
                              refine hK.out _ _ ⟨(((blk_cell (SL.at_ (SL.get1 HS.out)) 1).trans rfl)), (((blk_cell (SL.at_ (SL.get1 HS.out)) 2).trans rfl)), (((blk_cell (SL.at_ (SL.get1 HS.out)) 3).trans rfl)), (((blk_cell (SL.at_ (SL.get1 HS.out)) 4).trans rfl)), (((blk_cell (SL.at_ (SL.get1 HS.out)) 5).trans rfl)), (((blk_cell (SL.at_ (SL.get1 HS.out)) 6).trans rfl)), (((blk_cell (SL.at_ (SL.get1 HS.out)) 7).trans rfl)), (by obtain ⟨a_, e_, h0_, h1_, h2_, h3_, h4_, h5_, h6_, h7_, h8_, h9_⟩ := at_T44 (RO.at_ HR1.out HK.out) x13_1 (of_eq_true pq441) (of_eq_true qq441); obtain rfl := Option.some.inj e_; exact h0_), (by obtain ⟨a_, e_, h0_, h1_, h2_, h3_, h4_, h5_, h6_, h7_, h8_, h9_⟩ := at_T44 (RO.at_ HR1.out HK.out) x13_1 (of_eq_true pq441) (of_eq_true qq441); obtain rfl := Option.some.inj e_; exact h1_), (by obtain ⟨a_, e_, h0_, h1_, h2_, h3_, h4_, h5_, h6_, h7_, h8_, h9_⟩ := at_T44 (RO.at_ HR1.out HK.out) x13_1 (of_eq_true pq441) (of_eq_true qq441); obtain rfl := Option.some.inj e_; exact h2_), (by obtain ⟨a_, e_, h0_, h1_, h2_, h3_, h4_, h5_, h6_, h7_, h8_, h9_⟩ := at_T44 (RO.at_ HR1.out HK.out) x13_1 (of_eq_true pq441) (of_eq_true qq441); obtain rfl := Option.some.inj e_; exact h3_), (by obtain ⟨a_, e_, h0_, h1_, h2_, h3_, h4_, h5_, h6_, h7_, h8_, h9_⟩ := at_T44 (RO.at_ HR1.out HK.out) x13_1 (of_eq_true pq441) (of_eq_true qq441); obtain rfl := Option.some.inj e_; exact h4_), (by obtain ⟨a_, e_, h0_, h1_, h2_, h3_, h4_, h5_, h6_, h7_, h8_, h9_⟩ := at_T44 (RO.at_ HR1.out HK.out) x13_1 (of_eq_true pq441) (of_eq_true qq441); obtain rfl := Option.some.inj e_; exact h5_), (by obtain ⟨a_, e_, h0_, h1_, h2_, h3_, h4_, h5_, h6_, h7_, h8_, h9_⟩ := at_T44 (RO.at_ HR1.out HK.out) x13_1 (of_eq_true pq441) (of_eq_true qq441); obtain rfl := Option.some.inj e_; exact h6_), (by obtain ⟨a_, e_, h0_, h1_, h2_, h3_, h4_, h5_, h6_, h7_, h8_, h9_⟩ := at_T44 (RO.at_ HR1.out HK.out) x13_1 (of_eq_true pq441) (of_eq_true qq441); obtain rfl := Option.some.inj e_; exact h7_), (by obtain ⟨a_, e_, h0_, h1_, h2_, h3_, h4_, h5_, h6_, h7_, h8_, h9_⟩ := at_T44 (RO.at_ HR1.out HK.out) x13_1 (of_eq_true pq441) (of_eq_true qq441); obtain rfl := Option.some.inj e_; exact h8_), (by obtain ⟨a_, e_, h0_, h1_, h2_, h3_, h4_, h5_, h6_, h7_, h8_, h9_⟩ := at_T44 (RO.at_ HR1.out HK.out) x13_1 (of_eq_true pq441) (of_eq_true qq441); obtain rfl := Option.some.inj e_; exact h9_)⟩ (fun hHeld => ?_)
                              clear hK K
                              refine norm_ (a' := ?_) ?_ ?_; rotate_left
                              · show Act.put _ (some 52) _ = _
                                simp only [Act.put, sT, sZ, sS, i64_w, i32_w]
                                rfl
                              refine pure_ (i := 8) (N := some 14) (v := ?_) (a' := ?_) #[true, true, true, true, true, true, true, true, true] rfl rfl (any_of HT_.out (by kernel_rfl)) (fun _ _ _ h => h) (Or.inl ⟨by rfl, ?_⟩) ?_ ?_; rotate_left; · (intro w'; go_simp; with_reducible rfl)
                              rotate_left; · (simp only [Act.put, sT, sZ, sS, i64_w, i32_w]; rfl)
                              refine done_ (done_of HT_.out (by kernel_rfl)) ?_
                              try go_wp2
                              have pq443 : 0 ≤ (x13_1 : Int) := of_decide_eq_true (by first | (with_reducible assumption) | assumption)
                              have qq443 : x13_1 < ((l1.length : Int) : Int) := of_decide_eq_true (by first | (with_reducible assumption) | assumption)
                              obtain ⟨adq443, eq443, hxq443_0, hxq443_1, hxq443_2, hxq443_3, hxq443_4, hxq443_5, hxq443_6, hxq443_7, hxq443_8, hxq443_9⟩ := at_T44 (RO.at_ HR1.out HK.out) x13_1 pq443 qq443
                              obtain rfl : adq441 = adq443 := (by injection eq443)
                              replace pq443 := eq_true pq443
                              replace qq443 := eq_true qq443
                              refine start_ (n := 24) (S := fun w' => w'.cell? (adq441.add (x13_1.toNat * 10)) = some (.int .i64 ((rd_T44 l1 x13_1).f0)) ∧ w'.cell? ⟨(adq441.add (x13_1.toNat * 10)).block, (adq441.add (x13_1.toNat * 10)).off + 1, none⟩ = some (.int .i64 ((rd_T44 l1 x13_1).f1)) ∧ w'.cell? ⟨(adq441.add (x13_1.toNat * 10)).block, (adq441.add (x13_1.toNat * 10)).off + 2, none⟩ = some (.int .i64 ((rd_T44 l1 x13_1).f2)) ∧ w'.cell? ⟨(adq441.add (x13_1.toNat * 10)).block, (adq441.add (x13_1.toNat * 10)).off + 3, none⟩ = some (.int .i64 ((rd_T44 l1 x13_1).f3)) ∧ w'.cell? ⟨(adq441.add (x13_1.toNat * 10)).block, (adq441.add (x13_1.toNat * 10)).off + 4, none⟩ = some (.int .i64 ((rd_T44 l1 x13_1).f4)) ∧ w'.cell? ⟨(adq441.add (x13_1.toNat * 10)).block, (adq441.add (x13_1.toNat * 10)).off + 5, none⟩ = some (.int .i64 ((rd_T44 l1 x13_1).f5)) ∧ w'.cell? ⟨(adq441.add (x13_1.toNat * 10)).block, (adq441.add (x13_1.toNat * 10)).off + 6, none⟩ = some (.int .i64 ((rd_T44 l1 x13_1).f6)) ∧ w'.cell? ⟨(adq441.add (x13_1.toNat * 10)).block, (adq441.add (x13_1.toNat * 10)).off + 7, none⟩ = some (.int .i64 ((rd_T44 l1 x13_1).f7.f0)) ∧ w'.cell? ⟨(adq441.add (x13_1.toNat * 10)).block, (adq441.add (x13_1.toNat * 10)).off + 8, none⟩ = some (.int .i64 ((rd_T44 l1 x13_1).f7.f1)) ∧ w'.cell? ⟨(adq441.add (x13_1.toNat * 10)).block, (adq441.add (x13_1.toNat * 10)).off + 9, none⟩ = some (.int .i64 ((rd_T44 l1 x13_1).f8)) ∧ w'.cell? ⟨g3000050, 15, none⟩ = some (.int .i64 ((rd_T37 l0 x10_0).f7))) (ds := []) #[false, false, false, false, false, false, false, false, false, false, false, false, false, false, false, false, false, false, false, false, false, false, false, false] (by kernel_rfl) rfl rfl ⟨(by obtain ⟨a_, e_, h0_, h1_, h2_, h3_, h4_, h5_, h6_, h7_, h8_, h9_⟩ := at_T44 (RO.at_ HR1.out HK.out) x13_1 (of_eq_true pq443) (of_eq_true qq443); obtain rfl := Option.some.inj e_; exact h0_), (by obtain ⟨a_, e_, h0_, h1_, h2_, h3_, h4_, h5_, h6_, h7_, h8_, h9_⟩ := at_T44 (RO.at_ HR1.out HK.out) x13_1 (of_eq_true pq443) (of_eq_true qq443); obtain rfl := Option.some.inj e_; exact h1_), (by obtain ⟨a_, e_, h0_, h1_, h2_, h3_, h4_, h5_, h6_, h7_, h8_, h9_⟩ := at_T44 (RO.at_ HR1.out HK.out) x13_1 (of_eq_true pq443) (of_eq_true qq443); obtain rfl := Option.some.inj e_; exact h2_), (by obtain ⟨a_, e_, h0_, h1_, h2_, h3_, h4_, h5_, h6_, h7_, h8_, h9_⟩ := at_T44 (RO.at_ HR1.out HK.out) x13_1 (of_eq_true pq443) (of_eq_true qq443); obtain rfl := Option.some.inj e_; exact h3_), (by obtain ⟨a_, e_, h0_, h1_, h2_, h3_, h4_, h5_, h6_, h7_, h8_, h9_⟩ := at_T44 (RO.at_ HR1.out HK.out) x13_1 (of_eq_true pq443) (of_eq_true qq443); obtain rfl := Option.some.inj e_; exact h4_), (by obtain ⟨a_, e_, h0_, h1_, h2_, h3_, h4_, h5_, h6_, h7_, h8_, h9_⟩ := at_T44 (RO.at_ HR1.out HK.out) x13_1 (of_eq_true pq443) (of_eq_true qq443); obtain rfl := Option.some.inj e_; exact h5_), (by obtain ⟨a_, e_, h0_, h1_, h2_, h3_, h4_, h5_, h6_, h7_, h8_, h9_⟩ := at_T44 (RO.at_ HR1.out HK.out) x13_1 (of_eq_true pq443) (of_eq_true qq443); obtain rfl := Option.some.inj e_; exact h6_), (by obtain ⟨a_, e_, h0_, h1_, h2_, h3_, h4_, h5_, h6_, h7_, h8_, h9_⟩ := at_T44 (RO.at_ HR1.out HK.out) x13_1 (of_eq_true pq443) (of_eq_true qq443); obtain rfl := Option.some.inj e_; exact h7_), (by obtain ⟨a_, e_, h0_, h1_, h2_, h3_, h4_, h5_, h6_, h7_, h8_, h9_⟩ := at_T44 (RO.at_ HR1.out HK.out) x13_1 (of_eq_true pq443) (of_eq_true qq443); obtain rfl := Option.some.inj e_; exact h8_), (by obtain ⟨a_, e_, h0_, h1_, h2_, h3_, h4_, h5_, h6_, h7_, h8_, h9_⟩ := at_T44 (RO.at_ HR1.out HK.out) x13_1 (of_eq_true pq443) (of_eq_true qq443); obtain rfl := Option.some.inj e_; exact h9_), (((blk_cell (SL.at_ (SL.get1 HS.out)) 15).trans rfl))⟩ (fun hHeld => ?_); refine with_tabW barrowref33_Tick.tab12 barrowref33_Tick.bits12 (fun HT_ HW_ => ?_)
                              replace HK := Aside0.mk (Keep.drew HK.out)
                              replace HS := Aside0.mk (SL.drew HS.out)
                              refine pure_ (i := 0) (N := some 53) (v := ?_) (a' := ?_) #[true, false, false, false, false, false, false, false, false, false, false, false, false, false, false, false, false, false, false, false, false, false, false, false] rfl rfl (any_of HT_.out (by kernel_rfl)) (fun _ _ _ h => h) (Or.inl ⟨by rfl, ?_⟩) ?_ ?_; rotate_left; · (intro w'; go_simp; with_reducible rfl)
                              rotate_left; · (simp only [Act.put, sT, sZ, sS, i64_w, i32_w]; rfl)
                              refine pure_ (i := 1) (N := some 54) (v := ?_) (a' := ?_) #[true, true, false, false, false, false, false, false, false, false, false, false, false, false, false, false, false, false, false, false, false, false, false, false] rfl rfl (any_of HT_.out (by kernel_rfl)) (fun _ _ _ h => h) (Or.inl ⟨by rfl, ?_⟩) ?_ ?_; rotate_left; · (intro w'; go_simp; with_reducible rfl)
                              rotate_left; · (simp only [Act.put, sT, sZ, sS, i64_w, i32_w]; rfl)
                              refine pure_ (i := 2) (N := some 55) (v := ?_) (a' := ?_) #[true, true, true, false, false, false, false, false, false, false, false, false, false, false, false, false, false, false, false, false, false, false, false, false] rfl rfl (any_of HT_.out (by kernel_rfl)) (fun _ _ _ h => h) (Or.inl ⟨by rfl, ?_⟩) ?_ ?_; rotate_left; · (intro w'; go_simp; with_reducible rfl)
                              rotate_left; · (simp only [Act.put, sT, sZ, sS, i64_w, i32_w]; rfl)
                              refine pure_ (i := 3) (N := some 56) (v := ?_) (a' := ?_) #[true, true, true, true, false, false, false, false, false, false, false, false, false, false, false, false, false, false, false, false, false, false, false, false] rfl rfl (any_of HT_.out (by kernel_rfl)) (fun _ _ _ h => h) (Or.inl ⟨by rfl, ?_⟩) ?_ ?_; rotate_left; · (intro w'; go_simp; with_reducible rfl)
                              rotate_left; · (simp only [Act.put, sT, sZ, sS, i64_w, i32_w]; rfl)
                              refine pure_ (i := 4) (N := some 57) (v := ?_) (a' := ?_) #[true, true, true, true, true, false, false, false, false, false, false, false, false, false, false, false, false, false, false, false, false, false, false, false] rfl rfl (any_of HT_.out (by kernel_rfl)) (fun _ _ _ h => h) (Or.inl ⟨by rfl, ?_⟩) ?_ ?_; rotate_left; · (intro w'; go_simp; with_reducible rfl)
                              rotate_left; · (simp only [Act.put, sT, sZ, sS, i64_w, i32_w]; rfl)
                              refine pure_ (i := 5) (N := some 58) (v := ?_) (a' := ?_) #[true, true, true, true, true, true, false, false, false, false, false, false, false, false, false, false, false, false, false, false, false, false, false, false] rfl rfl (any_of HT_.out (by kernel_rfl)) (fun _ _ _ h => h) (Or.inl ⟨by rfl, ?_⟩) ?_ ?_; rotate_left; · (intro w'; go_simp; with_reducible rfl)
                              rotate_left; · (simp only [Act.put, sT, sZ, sS, i64_w, i32_w]; rfl)
                              refine take_ (i := 6) (N := some 59) (v := ?_) (a' := ?_) #[true, true, true, true, true, true, true, false, false, false, false, false, false, false, false, false, false, false, false, false, false, false, false, false] rfl rfl (take_ofW HT_.out HW_.out (by kernel_rfl)) (fun _ _ _ h => h) (Or.inl ⟨by rfl, ?_⟩) hHeld ?_ ?_; rotate_left
                              · rintro w' ⟨s0, s1, s2, s3, s4, s5, s6, s7, s8, s9, s10⟩
                                go_simp
                                with_reducible rfl
                              rotate_left; · (simp only [Act.put, sT, sZ, sS, i64_w, i32_w]; rfl)
                              refine pure_ (i := 7) (N := some 60) (v := ?_) (a' := ?_) #[true, true, true, true, true, true, true, true, false, false, false, false, false, false, false, false, false, false, false, false, false, false, false, false] rfl rfl (any_of HT_.out (by kernel_rfl)) (fun _ _ _ h => h) (Or.inl ⟨by rfl, ?_⟩) ?_ ?_; rotate_left; · (intro w'; go_simp; with_reducible rfl)
                              rotate_left; · (simp only [Act.put, sT, sZ, sS, i64_w, i32_w]; rfl)
                              refine pure_ (i := 8) (N := some 61) (v := ?_) (a' := ?_) #[true, true, true, true, true, true, true, true, true, false, false, false, false, false, false, false, false, false, false, false, false, false, false, false] rfl rfl (any_of HT_.out (by kernel_rfl)) (fun _ _ _ h => h) (Or.inl ⟨by rfl, ?_⟩) ?_ ?_; rotate_left; · (intro w'; go_simp; with_reducible rfl)
                              rotate_left; · (simp only [Act.put, sT, sZ, sS, i64_w, i32_w]; rfl)
                              refine pure_ (i := 9) (N := some 62) (v := ?_) (a' := ?_) #[true, true, true, true, true, true, true, true, true, true, false, false, false, false, false, false, false, false, false, false, false, false, false, false] rfl rfl (any_of HT_.out (by kernel_rfl)) (fun _ _ _ h => h) (Or.inl ⟨by rfl, ?_⟩) ?_ ?_; rotate_left; · (intro w'; go_simp; with_reducible rfl)
                              rotate_left; · (simp only [Act.put, sT, sZ, sS, i64_w, i32_w]; rfl)
                              refine pure_ (i := 10) (N := some 63) (v := ?_) (a' := ?_) #[true, true, true, true, true, true, true, true, true, true, true, false, false, false, false, false, false, false, false, false, false, false, false, false] rfl rfl (any_of HT_.out (by kernel_rfl)) (fun _ _ _ h => h) (Or.inl ⟨by rfl, ?_⟩) ?_ ?_; rotate_left; · (intro w'; go_simp; with_reducible rfl)
                              rotate_left; · (simp only [Act.put, sT, sZ, sS, i64_w, i32_w]; rfl)
                              refine take_ (i := 11) (N := some 64) (v := ?_) (a' := ?_) #[true, true, true, true, true, true, true, true, true, true, true, true, false, false, false, false, false, false, false, false, false, false, false, false] rfl rfl (take_ofW HT_.out HW_.out (by kernel_rfl)) (fun _ _ _ h => h) (Or.inl ⟨by rfl, ?_⟩) hHeld ?_ ?_; rotate_left
                              · rintro w' ⟨s0, s1, s2, s3, s4, s5, s6, s7, s8, s9, s10⟩
                                go_simp
                                with_reducible rfl
                              rotate_left; · (simp only [Act.put, sT, sZ, sS, i64_w, i32_w]; rfl)
                              refine pure_ (i := 12) (N := some 65) (v := ?_) (a' := ?_) #[true, true, true, true, true, true, true, true, true, true, true, true, true, false, false, false, false, false, false, false, false, false, false, false] rfl rfl (any_of HT_.out (by kernel_rfl)) (fun _ _ _ h => h) (Or.inl ⟨by rfl, ?_⟩) ?_ ?_; rotate_left; · (intro w'; go_simp; with_reducible rfl)
                              rotate_left; · (simp only [Act.put, sT, sZ, sS, i64_w, i32_w]; rfl)
                              refine pure_ (i := 13) (N := some 66) (v := ?_) (a' := ?_) #[true, true, true, true, true, true, true, true, true, true, true, true, true, true, false, false, false, false, false, false, false, false, false, false] rfl rfl (any_of HT_.out (by kernel_rfl)) (fun _ _ _ h => h) (Or.inl ⟨by rfl, ?_⟩) ?_ ?_; rotate_left; · (intro w'; go_simp; with_reducible rfl)
                              rotate_left; · (simp only [Act.put, sT, sZ, sS, i64_w, i32_w]; rfl)
                              refine pure_ (i := 14) (N := some 67) (v := undef) (a' := ?_) #[true, true, true, true, true, true, true, true, true, true, true, true, true, true, true, false, false, false, false, false, false, false, false, false] rfl rfl (any_of HT_.out (by kernel_rfl)) (fun _ _ _ h => h) (Or.inr ⟨by rfl, rfl⟩) ?_ ?_; rotate_left; · (simp only [Act.put, sT, sZ, sS, i64_w, i32_w]; rfl)
                              refine pure_ (i := 15) (N := some 68) (v := undef) (a' := ?_) #[true, true, true, true, true, true, true, true, true, true, true, true, true, true, true, true, false, false, false, false, false, false, false, false] rfl rfl (any_of HT_.out (by kernel_rfl)) (fun _ _ _ h => h) (Or.inr ⟨by rfl, rfl⟩) ?_ ?_; rotate_left; · (simp only [Act.put, sT, sZ, sS, i64_w, i32_w]; rfl)
                              refine pure_ (i := 16) (N := some 69) (v := undef) (a' := ?_) #[true, true, true, true, true, true, true, true, true, true, true, true, true, true, true, true, true, false, false, false, false, false, false, false] rfl rfl (any_of HT_.out (by kernel_rfl)) (fun _ _ _ h => h) (Or.inr ⟨by rfl, rfl⟩) ?_ ?_; rotate_left; · (simp only [Act.put, sT, sZ, sS, i64_w, i32_w]; rfl)
                              refine pure_ (i := 17) (N := some 70) (v := undef) (a' := ?_) #[true, true, true, true, true, true, true, true, true, true, true, true, true, true, true, true, true, true, false, false, false, false, false, false] rfl rfl (any_of HT_.out (by kernel_rfl)) (fun _ _ _ h => h) (Or.inr ⟨by rfl, rfl⟩) ?_ ?_; rotate_left; · (simp only [Act.put, sT, sZ, sS, i64_w, i32_w]; rfl)
                              refine pure_ (i := 18) (N := some 71) (v := undef) (a' := ?_) #[true, true, true, true, true, true, true, true, true, true, true, true, true, true, true, true, true, true, true, false, false, false, false, false] rfl rfl (any_of HT_.out (by kernel_rfl)) (fun _ _ _ h => h) (Or.inr ⟨by rfl, rfl⟩) ?_ ?_; rotate_left; · (simp only [Act.put, sT, sZ, sS, i64_w, i32_w]; rfl)
                              refine pure_ (i := 19) (N := some 72) (v := undef) (a' := ?_) #[true, true, true, true, true, true, true, true, true, true, true, true, true, true, true, true, true, true, true, true, false, false, false, false] rfl rfl (any_of HT_.out (by kernel_rfl)) (fun _ _ _ h => h) (Or.inr ⟨by rfl, rfl⟩) ?_ ?_; rotate_left; · (simp only [Act.put, sT, sZ, sS, i64_w, i32_w]; rfl)
                              refine pure_ (i := 20) (N := some 73) (v := undef) (a' := ?_) #[true, true, true, true, true, true, true, true, true, true, true, true, true, true, true, true, true, true, true, true, true, false, false, false] rfl rfl (any_of HT_.out (by kernel_rfl)) (fun _ _ _ h => h) (Or.inr ⟨by rfl, rfl⟩) ?_ ?_; rotate_left; · (simp only [Act.put, sT, sZ, sS, i64_w, i32_w]; rfl)
                              refine pure_ (i := 21) (N := some 74) (v := undef) (a' := ?_) #[true, true, true, true, true, true, true, true, true, true, true, true, true, true, true, true, true, true, true, true, true, true, false, false] rfl rfl (any_of HT_.out (by kernel_rfl)) (fun _ _ _ h => h) (Or.inr ⟨by rfl, rfl⟩) ?_ ?_; rotate_left; · (simp only [Act.put, sT, sZ, sS, i64_w, i32_w]; rfl)
                              refine pure_ (i := 22) (N := some 75) (v := ?_) (a' := ?_) #[true, true, true, true, true, true, true, true, true, true, true, true, true, true, true, true, true, true, true, true, true, true, true, false] rfl rfl (any_of HT_.out (by kernel_rfl)) (fun _ _ _ h => h) (Or.inl ⟨by rfl, ?_⟩) ?_ ?_; rotate_left; · (intro w'; go_simp; with_reducible rfl)
                              rotate_left; · (simp only [Act.put, sT, sZ, sS, i64_w, i32_w]; rfl)
                              refine pure_ (i := 23) (N := some 76) (v := ?_) (a' := ?_) #[true, true, true, true, true, true, true, true, true, true, true, true, true, true, true, true, true, true, true, true, true, true, true, true] rfl rfl (any_of HT_.out (by kernel_rfl)) (fun _ _ _ h => h) (Or.inl ⟨by rfl, ?_⟩) ?_ ?_; rotate_left; · (intro w'; go_simp; with_reducible rfl)
                              rotate_left; · (simp only [Act.put, sT, sZ, sS, i64_w, i32_w]; rfl)
                              refine done_ (done_of HT_.out (by kernel_rfl)) ?_
                              try go_wp2
                              have pq444 : 0 ≤ (x13_1 : Int) := of_decide_eq_true (by first | (with_reducible assumption) | assumption)
                              have qq444 : x13_1 < ((l1.length : Int) : Int) := of_decide_eq_true (by first | (with_reducible assumption) | assumption)
                              obtain ⟨adq444, eq444, hxq444_0, hxq444_1, hxq444_2, hxq444_3, hxq444_4, hxq444_5, hxq444_6, hxq444_7, hxq444_8, hxq444_9⟩ := at_T44 (RO.at_ HR1.out HK.out) x13_1 pq444 qq444
                              obtain rfl : adq441 = adq444 := (by injection eq444)
                              replace pq444 := eq_true pq444
                              replace qq444 := eq_true qq444
                              refine start_ (n := 12) (S := fun w' => w'.cell? ⟨g3000050, 0, none⟩ = some (.int .i64 ((rd_T37 l0 x10_0).f0)) ∧ w'.cell? (adq441.add (x13_1.toNat * 10)) = some (.int .i64 ((rd_T44 l1 x13_1).f0)) ∧ w'.cell? ⟨(adq441.add (x13_1.toNat * 10)).block, (adq441.add (x13_1.toNat * 10)).off + 1, none⟩ = some (.int .i64 ((rd_T44 l1 x13_1).f1)) ∧ w'.cell? ⟨(adq441.add (x13_1.toNat * 10)).block, (adq441.add (x13_1.toNat * 10)).off + 2, none⟩ = some (.int .i64 ((rd_T44 l1 x13_1).f2)) ∧ w'.cell? ⟨(adq441.add (x13_1.toNat * 10)).block, (adq441.add (x13_1.toNat * 10)).off + 3, none⟩ = some (.int .i64 ((rd_T44 l1 x13_1).f3)) ∧ w'.cell? ⟨(adq441.add (x13_1.toNat * 10)).block, (adq441.add (x13_1.toNat * 10)).off + 4, none⟩ = some (.int .i64 ((rd_T44 l1 x13_1).f4)) ∧ w'.cell? ⟨(adq441.add (x13_1.toNat * 10)).block, (adq441.add (x13_1.toNat * 10)).off + 5, none⟩ = some (.int .i64 ((rd_T44 l1 x13_1).f5)) ∧ w'.cell? ⟨(adq441.add (x13_1.toNat * 10)).block, (adq441.add (x13_1.toNat * 10)).off + 6, none⟩ = some (.int .i64 ((rd_T44 l1 x13_1).f6)) ∧ w'.cell? ⟨(adq441.add (x13_1.toNat * 10)).block, (adq441.add (x13_1.toNat * 10)).off + 7, none⟩ = some (.int .i64 ((rd_T44 l1 x13_1).f7.f0)) ∧ w'.cell? ⟨(adq441.add (x13_1.toNat * 10)).block, (adq441.add (x13_1.toNat * 10)).off + 8, none⟩ = some (.int .i64 ((rd_T44 l1 x13_1).f7.f1)) ∧ w'.cell? ⟨(adq441.add (x13_1.toNat * 10)).block, (adq441.add (x13_1.toNat * 10)).off + 9, none⟩ = some (.int .i64 ((rd_T44 l1 x13_1).f8))) (ds := []) #[false, false, false, false, false, false, false, false, false, false, false, false] (by kernel_rfl) rfl rfl ⟨(((blk_cell (SL.at_ (SL.get1 HS.out)) 0).trans rfl)), (by obtain ⟨a_, e_, h0_, h1_, h2_, h3_, h4_, h5_, h6_, h7_, h8_, h9_⟩ := at_T44 (RO.at_ HR1.out HK.out) x13_1 (of_eq_true pq444) (of_eq_true qq444); obtain rfl := Option.some.inj e_; exact h0_), (by obtain ⟨a_, e_, h0_, h1_, h2_, h3_, h4_, h5_, h6_, h7_, h8_, h9_⟩ := at_T44 (RO.at_ HR1.out HK.out) x13_1 (of_eq_true pq444) (of_eq_true qq444); obtain rfl := Option.some.inj e_; exact h1_), (by obtain ⟨a_, e_, h0_, h1_, h2_, h3_, h4_, h5_, h6_, h7_, h8_, h9_⟩ := at_T44 (RO.at_ HR1.out HK.out) x13_1 (of_eq_true pq444) (of_eq_true qq444); obtain rfl := Option.some.inj e_; exact h2_), (by obtain ⟨a_, e_, h0_, h1_, h2_, h3_, h4_, h5_, h6_, h7_, h8_, h9_⟩ := at_T44 (RO.at_ HR1.out HK.out) x13_1 (of_eq_true pq444) (of_eq_true qq444); obtain rfl := Option.some.inj e_; exact h3_), (by obtain ⟨a_, e_, h0_, h1_, h2_, h3_, h4_, h5_, h6_, h7_, h8_, h9_⟩ := at_T44 (RO.at_ HR1.out HK.out) x13_1 (of_eq_true pq444) (of_eq_true qq444); obtain rfl := Option.some.inj e_; exact h4_), (by obtain ⟨a_, e_, h0_, h1_, h2_, h3_, h4_, h5_, h6_, h7_, h8_, h9_⟩ := at_T44 (RO.at_ HR1.out HK.out) x13_1 (of_eq_true pq444) (of_eq_true qq444); obtain rfl := Option.some.inj e_; exact h5_), (by obtain ⟨a_, e_, h0_, h1_, h2_, h3_, h4_, h5_, h6_, h7_, h8_, h9_⟩ := at_T44 (RO.at_ HR1.out HK.out) x13_1 (of_eq_true pq444) (of_eq_true qq444); obtain rfl := Option.some.inj e_; exact h6_), (by obtain ⟨a_, e_, h0_, h1_, h2_, h3_, h4_, h5_, h6_, h7_, h8_, h9_⟩ := at_T44 (RO.at_ HR1.out HK.out) x13_1 (of_eq_true pq444) (of_eq_true qq444); obtain rfl := Option.some.inj e_; exact h7_), (by obtain ⟨a_, e_, h0_, h1_, h2_, h3_, h4_, h5_, h6_, h7_, h8_, h9_⟩ := at_T44 (RO.at_ HR1.out HK.out) x13_1 (of_eq_true pq444) (of_eq_true qq444); obtain rfl := Option.some.inj e_; exact h8_), (by obtain ⟨a_, e_, h0_, h1_, h2_, h3_, h4_, h5_, h6_, h7_, h8_, h9_⟩ := at_T44 (RO.at_ HR1.out HK.out) x13_1 (of_eq_true pq444) (of_eq_true qq444); obtain rfl := Option.some.inj e_; exact h9_)⟩ (fun hHeld => ?_); refine with_tabW barrowref33_Tick.tab13 barrowref33_Tick.bits13 (fun HT_ HW_ => ?_)
                              replace HK := Aside0.mk (Keep.drew HK.out)
                              replace HS := Aside0.mk (SL.drew HS.out)
                              refine pure_ (i := 0) (N := some 77) (v := ?_) (a' := ?_) #[true, false, false, false, false, false, false, false, false, false, false, false] rfl rfl (any_of HT_.out (by kernel_rfl)) (fun _ _ _ h => h) (Or.inl ⟨by rfl, ?_⟩) ?_ ?_; rotate_left; · (intro w'; go_simp; with_reducible rfl)
                              rotate_left; · (simp only [Act.put, sT, sZ, sS, i64_w, i32_w]; rfl)
                              refine pure_ (i := 1) (N := some 78) (v := ?_) (a' := ?_) #[true, true, false, false, false, false, false, false, false, false, false, false] rfl rfl (any_of HT_.out (by kernel_rfl)) (fun _ _ _ h => h) (Or.inl ⟨by rfl, ?_⟩) ?_ ?_; rotate_left; · (intro w'; go_simp; with_reducible rfl)
                              rotate_left; · (simp only [Act.put, sT, sZ, sS, i64_w, i32_w]; rfl)
                              refine pure_ (i := 3) (N := some 80) (v := ?_) (a' := ?_) #[true, true, false, true, false, false, false, false, false, false, false, false] rfl rfl (any_of HT_.out (by kernel_rfl)) (fun _ _ _ h => h) (Or.inl ⟨by rfl, ?_⟩) ?_ ?_; rotate_left; · (intro w'; go_simp; with_reducible rfl)
                              rotate_left; · (simp only [Act.put, sT, sZ, sS, i64_w, i32_w]; rfl)
                              refine pure_ (i := 4) (N := some 81) (v := ?_) (a' := ?_) #[true, true, false, true, true, false, false, false, false, false, false, false] rfl rfl (any_of HT_.out (by kernel_rfl)) (fun _ _ _ h => h) (Or.inl ⟨by rfl, ?_⟩) ?_ ?_; rotate_left; · (intro w'; go_simp; with_reducible rfl)
                              rotate_left; · (simp only [Act.put, sT, sZ, sS, i64_w, i32_w]; rfl)
                              refine pure_ (i := 5) (N := some 82) (v := ?_) (a' := ?_) #[true, true, false, true, true, true, false, false, false, false, false, false] rfl rfl (any_of HT_.out (by kernel_rfl)) (fun _ _ _ h => h) (Or.inl ⟨by rfl, ?_⟩) ?_ ?_; rotate_left; · (intro w'; go_simp; with_reducible rfl)
                              rotate_left; · (simp only [Act.put, sT, sZ, sS, i64_w, i32_w]; rfl)
                              refine pure_ (i := 6) (N := some 83) (v := ?_) (a' := ?_) #[true, true, false, true, true, true, true, false, false, false, false, false] rfl rfl (any_of HT_.out (by kernel_rfl)) (fun _ _ _ h => h) (Or.inl ⟨by rfl, ?_⟩) ?_ ?_; rotate_left; · (intro w'; go_simp; with_reducible rfl)
                              rotate_left; · (simp only [Act.put, sT, sZ, sS, i64_w, i32_w]; rfl)
                              refine take_ (i := 2) (N := some 79) (v := ?_) (a' := ?_) #[true, true, true, true, true, true, true, false, false, false, false, false] rfl rfl (take_ofW HT_.out HW_.out (by kernel_rfl)) (fun _ _ _ h => h) (Or.inl ⟨by rfl, ?_⟩) hHeld ?_ ?_; rotate_left
                              · rintro w' ⟨s0, s1, s2, s3, s4, s5, s6, s7, s8, s9, s10⟩
                                go_simp
                                with_reducible rfl
                              rotate_left; · (simp only [Act.put, sT, sZ, sS, i64_w, i32_w]; rfl)
                              refine take_ (i := 7) (N := some 84) (v := ?_) (a' := ?_) #[true, true, true, true, true, true, true, true, false, false, false, false] rfl rfl (take_ofW HT_.out HW_.out (by kernel_rfl)) (fun _ _ _ h => h) (Or.inl ⟨by rfl, ?_⟩) hHeld ?_ ?_; rotate_left
                              · rintro w' ⟨s0, s1, s2, s3, s4, s5, s6, s7, s8, s9, s10⟩
                                go_simp
                                with_reducible rfl
                              rotate_left; · (simp only [Act.put, sT, sZ, sS, i64_w, i32_w]; rfl)
                              refine pure_ (i := 8) (N := some 85) (v := ?_) (a' := ?_) #[true, true, true, true, true, true, true, true, true, false, false, false] rfl rfl (any_of HT_.out (by kernel_rfl)) (fun _ _ _ h => h) (Or.inl ⟨by rfl, ?_⟩) ?_ ?_; rotate_left; · (intro w'; go_simp; with_reducible rfl)
                              rotate_left; · (simp only [Act.put, sT, sZ, sS, i64_w, i32_w]; rfl)
                              refine one_ (i := 9) (N := some 86) #[true, true, true, true, true, true, true, true, true, true, false, false] rfl rfl (one_of HT_.out (by kernel_rfl)) (by decide) (fun K hK => ?_)
                              refine st_of (by rfl) ?_
                              refine op_rowF (S := S) (d := k56) ⟨fun h_ => h_⟩ 56 y445 #[.int .i64 ((rd_T37 l0 x10_0).f0), .int .i64 ((rd_T44 l1 x13_1).f0)] 1 (by rw [← Ny445.out]; exact reps_cons (k56_mkM _ 0 _ (⟨(rd_T37 l0 x10_0).f0, (rd_T44 l1 x13_1).f0⟩ : S56)) rfl (Reps.none _ _)) (by rw [← Ny445.out]; rfl) (by decide) (HF.out.keep HK.out) HS.out (by first | (go_simp; done) | (go_simp; rfl)) ?_
                              intro Az3000051 cz3000051 w15 hs_ hk_
                              replace HS := Aside0.mk ((show SL (row k56 56 (.slice Az3000051 1 cz3000051) y445 :: _) _ _ from hs_))
                              replace HK := Aside0.mk (HK.out.trans hk_)
                              refine hK.out _ _ ⟨(((blk_cell (SL.at_ (SL.get2 HS.out)) 0).trans rfl)), (by obtain ⟨a_, e_, h0_, h1_, h2_, h3_, h4_, h5_, h6_, h7_, h8_, h9_⟩ := at_T44 (RO.at_ HR1.out HK.out) x13_1 (of_eq_true pq444) (of_eq_true qq444); obtain rfl := Option.some.inj e_; exact h0_), (by obtain ⟨a_, e_, h0_, h1_, h2_, h3_, h4_, h5_, h6_, h7_, h8_, h9_⟩ := at_T44 (RO.at_ HR1.out HK.out) x13_1 (of_eq_true pq444) (of_eq_true qq444); obtain rfl := Option.some.inj e_; exact h1_), (by obtain ⟨a_, e_, h0_, h1_, h2_, h3_, h4_, h5_, h6_, h7_, h8_, h9_⟩ := at_T44 (RO.at_ HR1.out HK.out) x13_1 (of_eq_true pq444) (of_eq_true qq444); obtain rfl := Option.some.inj e_; exact h2_), (by obtain ⟨a_, e_, h0_, h1_, h2_, h3_, h4_, h5_, h6_, h7_, h8_, h9_⟩ := at_T44 (RO.at_ HR1.out HK.out) x13_1 (of_eq_true pq444) (of_eq_true qq444); obtain rfl := Option.some.inj e_; exact h3_), (by obtain ⟨a_, e_, h0_, h1_, h2_, h3_, h4_, h5_, h6_, h7_, h8_, h9_⟩ := at_T44 (RO.at_ HR1.out HK.out) x13_1 (of_eq_true pq444) (of_eq_true qq444); obtain rfl := Option.some.inj e_; exact h4_), (by obtain ⟨a_, e_, h0_, h1_, h2_, h3_, h4_, h5_, h6_, h7_, h8_, h9_⟩ := at_T44 (RO.at_ HR1.out HK.out) x13_1 (of_eq_true pq444) (of_eq_true qq444); obtain rfl := Option.some.inj e_; exact h5_), (by obtain ⟨a_, e_, h0_, h1_, h2_, h3_, h4_, h5_, h6_, h7_, h8_, h9_⟩ := at_T44 (RO.at_ HR1.out HK.out) x13_1 (of_eq_true pq444) (of_eq_true qq444); obtain rfl := Option.some.inj e_; exact h6_), (by obtain ⟨a_, e_, h0_, h1_, h2_, h3_, h4_, h5_, h6_, h7_, h8_, h9_⟩ := at_T44 (RO.at_ HR1.out HK.out) x13_1 (of_eq_true pq444) (of_eq_true qq444); obtain rfl := Option.some.inj e_; exact h7_), (by obtain ⟨a_, e_, h0_, h1_, h2_, h3_, h4_, h5_, h6_, h7_, h8_, h9_⟩ := at_T44 (RO.at_ HR1.out HK.out) x13_1 (of_eq_true pq444) (of_eq_true qq444); obtain rfl := Option.some.inj e_; exact h8_), (by obtain ⟨a_, e_, h0_, h1_, h2_, h3_, h4_, h5_, h6_, h7_, h8_, h9_⟩ := at_T44 (RO.at_ HR1.out HK.out) x13_1 (of_eq_true pq444) (of_eq_true qq444); obtain rfl := Option.some.inj e_; exact h9_)⟩ (fun hHeld => ?_)
                              clear hK K
                              refine norm_ (a' := ?_) ?_ ?_; rotate_left
                              · show Act.put _ (some 86) _ = _
                                simp only [Act.put, sT, sZ, sS, i64_w, i32_w]
                                rfl
                              refine one_ (i := 10) (N := some 87) #[true, true, true, true, true, true, true, true, true, true, true, false] rfl rfl (one_of HT_.out (by kernel_rfl)) (by decide) (fun K hK => ?_)
                              refine st_of (by rfl) ?_
                              refine op_appendF (S := S) (d := k56) ⟨fun h_ => h_⟩ (.tmp 77) (.tmp 86) 25 56 (.agg #[(.int .i64 0), (.int .i64 0)]) 16 rfl Try.underlying25 info56 rfl (by decide) (by decide) (.slice Ax9_1 x9_1.length cx9_1) rfl rfl (HF.out.keep HK.out) (SL.get1 HS.out) (SL.row_c HS.out).2.2 (by have := LMc13.out; have e_ := (SL.row_c HS.out).1; omega) y446 Ny446.out ?_
                              intro A447 c448 w16 hs_ hk_
                              replace HS := Aside0.mk ((SL.back1 (show SL (row k56 56 (.slice A447 y446.length c448) y446 :: _) _ _ from hs_)))
                              replace HK := Aside0.mk (HK.out.trans hk_)
                              refine hK.out _ _ ⟨(((blk_cell (SL.at_ (SL.get2 HS.out)) 0).trans rfl)), (by obtain ⟨a_, e_, h0_, h1_, h2_, h3_, h4_, h5_, h6_, h7_, h8_, h9_⟩ := at_T44 (RO.at_ HR1.out HK.out) x13_1 (of_eq_true pq444) (of_eq_true qq444); obtain rfl := Option.some.inj e_; exact h0_), (by obtain ⟨a_, e_, h0_, h1_, h2_, h3_, h4_, h5_, h6_, h7_, h8_, h9_⟩ := at_T44 (RO.at_ HR1.out HK.out) x13_1 (of_eq_true pq444) (of_eq_true qq444); obtain rfl := Option.some.inj e_; exact h1_), (by obtain ⟨a_, e_, h0_, h1_, h2_, h3_, h4_, h5_, h6_, h7_, h8_, h9_⟩ := at_T44 (RO.at_ HR1.out HK.out) x13_1 (of_eq_true pq444) (of_eq_true qq444); obtain rfl := Option.some.inj e_; exact h2_), (by obtain ⟨a_, e_, h0_, h1_, h2_, h3_, h4_, h5_, h6_, h7_, h8_, h9_⟩ := at_T44 (RO.at_ HR1.out HK.out) x13_1 (of_eq_true pq444) (of_eq_true qq444); obtain rfl := Option.some.inj e_; exact h3_), (by obtain ⟨a_, e_, h0_, h1_, h2_, h3_, h4_, h5_, h6_, h7_, h8_, h9_⟩ := at_T44 (RO.at_ HR1.out HK.out) x13_1 (of_eq_true pq444) (of_eq_true qq444); obtain rfl := Option.some.inj e_; exact h4_), (by obtain ⟨a_, e_, h0_, h1_, h2_, h3_, h4_, h5_, h6_, h7_, h8_, h9_⟩ := at_T44 (RO.at_ HR1.out HK.out) x13_1 (of_eq_true pq444) (of_eq_true qq444); obtain rfl := Option.some.inj e_; exact h5_), (by obtain ⟨a_, e_, h0_, h1_, h2_, h3_, h4_, h5_, h6_, h7_, h8_, h9_⟩ := at_T44 (RO.at_ HR1.out HK.out) x13_1 (of_eq_true pq444) (of_eq_true qq444); obtain rfl := Option.some.inj e_; exact h6_), (by obtain ⟨a_, e_, h0_, h1_, h2_, h3_, h4_, h5_, h6_, h7_, h8_, h9_⟩ := at_T44 (RO.at_ HR1.out HK.out) x13_1 (of_eq_true pq444) (of_eq_true qq444); obtain rfl := Option.some.inj e_; exact h7_), (by obtain ⟨a_, e_, h0_, h1_, h2_, h3_, h4_, h5_, h6_, h7_, h8_, h9_⟩ := at_T44 (RO.at_ HR1.out HK.out) x13_1 (of_eq_true pq444) (of_eq_true qq444); obtain rfl := Option.some.inj e_; exact h8_), (by obtain ⟨a_, e_, h0_, h1_, h2_, h3_, h4_, h5_, h6_, h7_, h8_, h9_⟩ := at_T44 (RO.at_ HR1.out HK.out) x13_1 (of_eq_true pq444) (of_eq_true qq444); obtain rfl := Option.some.inj e_; exact h9_)⟩ (fun hHeld => ?_)
                              clear hK K
                              refine norm_ (a' := ?_) ?_ ?_; rotate_left
                              · show Act.put _ (some 87) _ = _
                                simp only [Act.put, sT, sZ, sS, i64_w, i32_w]
                                rfl
                              refine pure_ (i := 11) (N := some 9) (v := ?_) (a' := ?_) #[true, true, true, true, true, true, true, true, true, true, true, true] rfl rfl (any_of HT_.out (by kernel_rfl)) (fun _ _ _ h => h) (Or.inl ⟨by rfl, ?_⟩) ?_ ?_; rotate_left; · (intro w'; go_simp; with_reducible rfl)
                              rotate_left; · (simp only [Act.put, sT, sZ, sS, i64_w, i32_w]; rfl)
                              refine done_ (done_of HT_.out (by kernel_rfl)) ?_
                              try go_wp2
                              replace HS := Aside0.mk (SL.tail HS.out)
                              go_roundg k2
                              case measure => have := HQ1.out; have := HQ2.out; omega
                              case rel => exact ⟨(y446), (A447), (c448), (wrap64 (x13_1 + 1)), (by first | rfl | (simp; done) | (simp [*]; done)), (by first | rfl | (simp; done) | (simp [*]; done)), H', ⟨by have := HQ1.out; have := HQ2.out; omega⟩, HS, HK⟩
                            · rw [if_neg c13] at H
                              exact absurd H (by simp)
                          · rw [if_neg c12] at H
                            have c12b0 : (((rd_T37 l0 x10_0).f7) == 0) = false := beq_eq_false_iff_ne.mpr c12
                            have c12b1 : (((rd_T37 l0 x10_0).f7) != 0) = true := bne_iff_ne.mpr c12
                            by_cases c17 : ((rd_T37 l0 x10_0).f7) = ((rd_T44 l1 x13_1).f1)
                            · rw [if_pos c17] at H
                              have c17b0 : (((rd_T37 l0 x10_0).f7) == ((rd_T44 l1 x13_1).f1)) = true := beq_iff_eq.mpr c17
                              have c17b1 : (((rd_T37 l0 x10_0).f7) != ((rd_T44 l1 x13_1).f1)) = false := bne_eq_false_iff_eq.mpr c17
                              clear c17
                              replace H := Option.bind_eq_some_iff.1 H
                              obtain ⟨y451, hy4510, H⟩ := H
                              try dsimp only at H
                              have hy451 := Option.some.inj hy4510
                              clear hy4510
                              have Ny451 := Aside0.mk hy451
                              clear hy451
                              by_cases c18 : x9_1.length + y451.length < 8796093022208
                              · rw [if_pos c18] at H
                                have LMc18 := Aside0.mk c18
                                clear c18
                                replace H := Option.bind_eq_some_iff.1 H
                                obtain ⟨y452, hy4520, H⟩ := H
                                try dsimp only at H
                                have hy452 := Option.some.inj hy4520
                                clear hy4520
                                have Ny452 := Aside0.mk hy452
                                clear hy452
                                have H' := Aside0.mk H
                                clear H
                                try go_wp2
                                have pq441 : 0 ≤ (x13_1 : Int) := of_decide_eq_true (by first | (with_reducible assumption) | assumption)
                                have qq441 : x13_1 < ((l1.length : Int) : Int) := of_decide_eq_true (by first | (with_reducible assumption) | assumption)
                                obtain ⟨adq441, eq441, hxq441_0, hxq441_1, hxq441_2, hxq441_3, hxq441_4, hxq441_5, hxq441_6, hxq441_7, hxq441_8, hxq441_9⟩ := at_T44 (RO.at_ HR1.out HK.out) x13_1 pq441 qq441
                                cases eq441
                                replace pq441 := eq_true pq441
                                replace qq441 := eq_true qq441
                                refine start_ (n := 9) (S := fun w' => w'.cell? ⟨g3000050, 1, none⟩ = some (.int .i64 ((rd_T37 l0 x10_0).f1.f0)) ∧ w'.cell? ⟨g3000050, 2, none⟩ = some (.int .i64 ((rd_T37 l0 x10_0).f1.f1.f0)) ∧ w'.cell? ⟨g3000050, 3, none⟩ = some (.int .i64 ((rd_T37 l0 x10_0).f1.f1.f1)) ∧ w'.cell? ⟨g3000050, 4, none⟩ = some (.int .i64 ((rd_T37 l0 x10_0).f1.f2.f0)) ∧ w'.cell? ⟨g3000050, 5, none⟩ = some (.int .i64 ((rd_T37 l0 x10_0).f1.f2.f1)) ∧ w'.cell? ⟨g3000050, 6, none⟩ = some (.int .i64 ((rd_T37 l0 x10_0).f1.f3)) ∧ w'.cell? ⟨g3000050, 7, none⟩ = some (.int .i64 ((rd_T37 l0 x10_0).f1.f4)) ∧ w'.cell? (adq441.add (x13_1.toNat * 10)) = some (.int .i64 ((rd_T44 l1 x13_1).f0)) ∧ w'.cell? ⟨(adq441.add (x13_1.toNat * 10)).block, (adq441.add (x13_1.toNat * 10)).off + 1, none⟩ = some (.int .i64 ((rd_T44 l1 x13_1).f1)) ∧ w'.cell? ⟨(adq441.add (x13_1.toNat * 10)).block, (adq441.add (x13_1.toNat * 10)).off + 2, none⟩ = some (.int .i64 ((rd_T44 l1 x13_1).f2)) ∧ w'.cell? ⟨(adq441.add (x13_1.toNat * 10)).block, (adq441.add (x13_1.toNat * 10)).off + 3, none⟩ = some (.int .i64 ((rd_T44 l1 x13_1).f3)) ∧ w'.cell? ⟨(adq441.add (x13_1.toNat * 10)).block, (adq441.add (x13_1.toNat * 10)).off + 4, none⟩ = some (.int .i64 ((rd_T44 l1 x13_1).f4)) ∧ w'.cell? ⟨(adq441.add (x13_1.toNat * 10)).block, (adq441.add (x13_1.toNat * 10)).off + 5, none⟩ = some (.int .i64 ((rd_T44 l1 x13_1).f5)) ∧ w'.cell? ⟨(adq441.add (x13_1.toNat * 10)).block, (adq441.add (x13_1.toNat * 10)).off + 6, none⟩ = some (.int .i64 ((rd_T44 l1 x13_1).f6)) ∧ w'.cell? ⟨(adq441.add (x13_1.toNat * 10)).block, (adq441.add (x13_1.toNat * 10)).off + 7, none⟩ = some (.int .i64 ((rd_T44 l1 x13_1).f7.f0)) ∧ w'.cell? ⟨(adq441.add (x13_1.toNat * 10)).block, (adq441.add (x13_1.toNat * 10)).off + 8, none⟩ = some (.int .i64 ((rd_T44 l1 x13_1).f7.f1)) ∧ w'.cell? ⟨(adq441.add (x13_1.toNat * 10)).block, (adq441.add (x13_1.toNat * 10)).off + 9, none⟩ = some (.int .i64 ((rd_T44 l1 x13_1).f8))) (ds := []) #[false, false, false, false, false, false, false, false, false] (by kernel_rfl) rfl rfl ⟨(((blk_cell (SL.at_ (SL.get1 HS.out)) 1).trans rfl)), (((blk_cell (SL.at_ (SL.get1 HS.out)) 2).trans rfl)), (((blk_cell (SL.at_ (SL.get1 HS.out)) 3).trans rfl)), (((blk_cell (SL.at_ (SL.get1 HS.out)) 4).trans rfl)), (((blk_cell (SL.at_ (SL.get1 HS.out)) 5).trans rfl)), (((blk_cell (SL.at_ (SL.get1 HS.out)) 6).trans rfl)), (((blk_cell (SL.at_ (SL.get1 HS.out)) 7).trans rfl)), (by obtain ⟨a_, e_, h0_, h1_, h2_, h3_, h4_, h5_, h6_, h7_, h8_, h9_⟩ := at_T44 (RO.at_ HR1.out HK.out) x13_1 (of_eq_true pq441) (of_eq_true qq441); obtain rfl := Option.some.inj e_; exact h0_), (by obtain ⟨a_, e_, h0_, h1_, h2_, h3_, h4_, h5_, h6_, h7_, h8_, h9_⟩ := at_T44 (RO.at_ HR1.out HK.out) x13_1 (of_eq_true pq441) (of_eq_true qq441); obtain rfl := Option.some.inj e_; exact h1_), (by obtain ⟨a_, e_, h0_, h1_, h2_, h3_, h4_, h5_, h6_, h7_, h8_, h9_⟩ := at_T44 (RO.at_ HR1.out HK.out) x13_1 (of_eq_true pq441) (of_eq_true qq441); obtain rfl := Option.some.inj e_; exact h2_), (by obtain ⟨a_, e_, h0_, h1_, h2_, h3_, h4_, h5_, h6_, h7_, h8_, h9_⟩ := at_T44 (RO.at_ HR1.out HK.out) x13_1 (of_eq_true pq441) (of_eq_true qq441); obtain rfl := Option.some.inj e_; exact h3_), (by obtain ⟨a_, e_, h0_, h1_, h2_, h3_, h4_, h5_, h6_, h7_, h8_, h9_⟩ := at_T44 (RO.at_ HR1.out HK.out) x13_1 (of_eq_true pq441) (of_eq_true qq441); obtain rfl := Option.some.inj e_; exact h4_), (by obtain ⟨a_, e_, h0_, h1_, h2_, h3_, h4_, h5_, h6_, h7_, h8_, h9_⟩ := at_T44 (RO.at_ HR1.out HK.out) x13_1 (of_eq_true pq441) (of_eq_true qq441); obtain rfl := Option.some.inj e_; exact h5_), (by obtain ⟨a_, e_, h0_, h1_, h2_, h3_, h4_, h5_, h6_, h7_, h8_, h9_⟩ := at_T44 (RO.at_ HR1.out HK.out) x13_1 (of_eq_true pq441) (of_eq_true qq441); obtain rfl := Option.some.inj e_; exact h6_), (by obtain ⟨a_, e_, h0_, h1_, h2_, h3_, h4_, h5_, h6_, h7_, h8_, h9_⟩ := at_T44 (RO.at_ HR1.out HK.out) x13_1 (of_eq_true pq441) (of_eq_true qq441); obtain rfl := Option.some.inj e_; exact h7_), (by obtain ⟨a_, e_, h0_, h1_, h2_, h3_, h4_, h5_, h6_, h7_, h8_, h9_⟩ := at_T44 (RO.at_ HR1.out HK.out) x13_1 (of_eq_true pq441) (of_eq_true qq441); obtain rfl := Option.some.inj e_; exact h8_), (by obtain ⟨a_, e_, h0_, h1_, h2_, h3_, h4_, h5_, h6_, h7_, h8_, h9_⟩ := at_T44 (RO.at_ HR1.out HK.out) x13_1 (of_eq_true pq441) (of_eq_true qq441); obtain rfl := Option.some.inj e_; exact h9_)⟩ (fun hHeld => ?_); refine with_tabW barrowref33_Tick.tab11 barrowref33_Tick.bits11 (fun HT_ HW_ => ?_)
                                replace HK := Aside0.mk (Keep.drew HK.out)
                                replace HS := Aside0.mk (SL.drew HS.out)
                                refine pure_ (i := 0) (N := some 45) (v := ?_) (a' := ?_) #[true, false, false, false, false, false, false, false, false] rfl rfl (any_of HT_.out (by kernel_rfl)) (fun _ _ _ h => h) (Or.inl ⟨by rfl, ?_⟩) ?_ ?_; rotate_left; · (intro w'; go_simp; with_reducible rfl)
                                rotate_left; · (simp only [Act.put, sT, sZ, sS, i64_w, i32_w]; rfl)
                                refine pure_ (i := 2) (N := some 47) (v := ?_) (a' := ?_) #[true, false, true, false, false, false, false, false, false] rfl rfl (any_of HT_.out (by kernel_rfl)) (fun _ _ _ h => h) (Or.inl ⟨by rfl, ?_⟩) ?_ ?_; rotate_left; · (intro w'; go_simp; with_reducible rfl)
                                rotate_left; · (simp only [Act.put, sT, sZ, sS, i64_w, i32_w]; rfl)
                                refine pure_ (i := 3) (N := some 48) (v := ?_) (a' := ?_) #[true, false, true, true, false, false, false, false, false] rfl rfl (any_of HT_.out (by kernel_rfl)) (fun _ _ _ h => h) (Or.inl ⟨by rfl, ?_⟩) ?_ ?_; rotate_left; · (intro w'; go_simp; with_reducible rfl)
                                rotate_left; · (simp only [Act.put, sT, sZ, sS, i64_w, i32_w]; rfl)
                                refine pure_ (i := 4) (N := some 49) (v := ?_) (a' := ?_) #[true, false, true, true, true, false, false, false, false] rfl rfl (any_of HT_.out (by kernel_rfl)) (fun _ _ _ h => h) (Or.inl ⟨by rfl, ?_⟩) ?_ ?_; rotate_left; · (intro w'; go_simp; with_reducible rfl)
                                rotate_left; · (simp only [Act.put, sT, sZ, sS, i64_w, i32_w]; rfl)
                                refine pure_ (i := 5) (N := some 50) (v := ?_) (a' := ?_) #[true, false, true, true, true, true, false, false, false] rfl rfl (any_of HT_.out (by kernel_rfl)) (fun _ _ _ h => h) (Or.inl ⟨by rfl, ?_⟩) ?_ ?_; rotate_left; · (intro w'; go_simp; with_reducible rfl)
                                rotate_left; · (simp only [Act.put, sT, sZ, sS, i64_w, i32_w]; rfl)
                                refine take_ (i := 1) (N := some 46) (v := ?_) (a' := ?_) #[true, true, true, true, true, true, false, false, false] rfl rfl (take_ofW HT_.out HW_.out (by kernel_rfl)) (fun _ _ _ h => h) (Or.inl ⟨by rfl, ?_⟩) hHeld ?_ ?_; rotate_left
                                · rintro w' ⟨s0, s1, s2, s3, s4, s5, s6, s7, s8, s9, s10, s11, s12, s13, s14, s15, s16⟩
                                  go_simp
                                  with_reducible rfl
                                rotate_left; · (simp only [Act.put, sT, sZ, sS, i64_w, i32_w]; rfl)
                                refine take_ (i := 6) (N := some 51) (v := ?_) (a' := ?_) #[true, true, true, true, true, true, true, false, false] rfl rfl (take_ofW HT_.out HW_.out (by kernel_rfl)) (fun _ _ _ h => h) (Or.inl ⟨by rfl, ?_⟩) hHeld ?_ ?_; rotate_left
                                · rintro w' ⟨s0, s1, s2, s3, s4, s5, s6, s7, s8, s9, s10, s11, s12, s13, s14, s15, s16⟩
                                  go_simp
                                  with_reducible rfl
                                rotate_left; · (simp only [Act.put, sT, sZ, sS, i64_w, i32_w]; rfl)
                                refine one_ (i := 7) (N := some 52) #[true, true, true, true, true, true, true, true, false] rfl rfl (one_of HT_.out (by kernel_rfl)) (by decide) (fun K hK => ?_)
                                refine goes_ Try.func27 (by kernel_rfl) rfl #[.agg #[.int .i64 ((rd_T37 l0 x10_0).f1.f0), .int .i64 ((rd_T37 l0 x10_0).f1.f1.f0), .int .i64 ((rd_T37 l0 x10_0).f1.f1.f1), .int .i64 ((rd_T37 l0 x10_0).f1.f2.f0), .int .i64 ((rd_T37 l0 x10_0).f1.f2.f1), .int .i64 ((rd_T37 l0 x10_0).f1.f3), .int .i64 ((rd_T37 l0 x10_0).f1.f4)], .agg #[.int .i64 ((rd_T44 l1 x13_1).f7.f0), .int .i64 ((rd_T44 l1 x13_1).f7.f1)]] (by rfl) rfl rfl (by (try simp only [List.map_toArray, List.map_cons, List.map_nil]); first | done | rfl | (simp; done)) ?_
                                (with_reducible refine (barrowref32_In.calls k2 _ _ _ _ _ _ _ _ _ _ _  Hc9.out).mono ?_)
                                rintro e_ w19 ⟨rfl, hb_⟩
                                refine ⟨_, rfl, ?_⟩
                                replace HS := Aside0.mk (HS.out.below hb_)
                                replace HK := Aside0.mk (HK.out.trans (Keep.below hb_))
                                refine hK.out _ _ ⟨(((blk_cell (SL.at_ (SL.get1 HS.out)) 1).trans rfl)), (((blk_cell (SL.at_ (SL.get1 HS.out)) 2).trans rfl)), (((blk_cell (SL.at_ (SL.get1 HS.out)) 3).trans rfl)), (((blk_cell (SL.at_ (SL.get1 HS.out)) 4).trans rfl)), (((blk_cell (SL.at_ (SL.get1 HS.out)) 5).trans rfl)), (((blk_cell (SL.at_ (SL.get1 HS.out)) 6).trans rfl)), (((blk_cell (SL.at_ (SL.get1 HS.out)) 7).trans rfl)), (by obtain ⟨a_, e_, h0_, h1_, h2_, h3_, h4_, h5_, h6_, h7_, h8_, h9_⟩ := at_T44 (RO.at_ HR1.out HK.out) x13_1 (of_eq_true pq441) (of_eq_true qq441); obtain rfl := Option.some.inj e_; exact h0_), (by obtain ⟨a_, e_, h0_, h1_, h2_, h3_, h4_, h5_, h6_, h7_, h8_, h9_⟩ := at_T44 (RO.at_ HR1.out HK.out) x13_1 (of_eq_true pq441) (of_eq_true qq441); obtain rfl := Option.some.inj e_; exact h1_), (by obtain ⟨a_, e_, h0_, h1_, h2_, h3_, h4_, h5_, h6_, h7_, h8_, h9_⟩ := at_T44 (RO.at_ HR1.out HK.out) x13_1 (of_eq_true pq441) (of_eq_true qq441); obtain rfl := Option.some.inj e_; exact h2_), (by obtain ⟨a_, e_, h0_, h1_, h2_, h3_, h4_, h5_, h6_, h7_, h8_, h9_⟩ := at_T44 (RO.at_ HR1.out HK.out) x13_1 (of_eq_true pq441) (of_eq_true qq441); obtain rfl := Option.some.inj e_; exact h3_), (by obtain ⟨a_, e_, h0_, h1_, h2_, h3_, h4_, h5_, h6_, h7_, h8_, h9_⟩ := at_T44 (RO.at_ HR1.out HK.out) x13_1 (of_eq_true pq441) (of_eq_true qq441); obtain rfl := Option.some.inj e_; exact h4_), (by obtain ⟨a_, e_, h0_, h1_, h2_, h3_, h4_, h5_, h6_, h7_, h8_, h9_⟩ := at_T44 (RO.at_ HR1.out HK.out) x13_1 (of_eq_true pq441) (of_eq_true qq441); obtain rfl := Option.some.inj e_; exact h5_), (by obtain ⟨a_, e_, h0_, h1_, h2_, h3_, h4_, h5_, h6_, h7_, h8_, h9_⟩ := at_T44 (RO.at_ HR1.out HK.out) x13_1 (of_eq_true pq441) (of_eq_true qq441); obtain rfl := Option.some.inj e_; exact h6_), (by obtain ⟨a_, e_, h0_, h1_, h2_, h3_, h4_, h5_, h6_, h7_, h8_, h9_⟩ := at_T44 (RO.at_ HR1.out HK.out) x13_1 (of_eq_true pq441) (of_eq_true qq441); obtain rfl := Option.some.inj e_; exact h7_), (by obtain ⟨a_, e_, h0_, h1_, h2_, h3_, h4_, h5_, h6_, h7_, h8_, h9_⟩ := at_T44 (RO.at_ HR1.out HK.out) x13_1 (of_eq_true pq441) (of_eq_true qq441); obtain rfl := Option.some.inj e_; exact h8_), (by obtain ⟨a_, e_, h0_, h1_, h2_, h3_, h4_, h5_, h6_, h7_, h8_, h9_⟩ := at_T44 (RO.at_ HR1.out HK.out) x13_1 (of_eq_true pq441) (of_eq_true qq441); obtain rfl := Option.some.inj e_; exact h9_)⟩ (fun hHeld => ?_)
                                clear hK K
                                refine norm_ (a' := ?_) ?_ ?_; rotate_left
                                · show Act.put _ (some 52) _ = _
                                  simp only [Act.put, sT, sZ, sS, i64_w, i32_w]
                                  rfl
                                refine pure_ (i := 8) (N := some 14) (v := ?_) (a' := ?_) #[true, true, true, true, true, true, true, true, true] rfl rfl (any_of HT_.out (by kernel_rfl)) (fun _ _ _ h => h) (Or.inl ⟨by rfl, ?_⟩) ?_ ?_; rotate_left; · (intro w'; go_simp; with_reducible rfl)
                                rotate_left; · (simp only [Act.put, sT, sZ, sS, i64_w, i32_w]; rfl)
                                refine done_ (done_of HT_.out (by kernel_rfl)) ?_
                                try go_wp2
                                have pq443 : 0 ≤ (x13_1 : Int) := of_decide_eq_true (by first | (with_reducible assumption) | assumption)
                                have qq443 : x13_1 < ((l1.length : Int) : Int) := of_decide_eq_true (by first | (with_reducible assumption) | assumption)
                                obtain ⟨adq443, eq443, hxq443_0, hxq443_1, hxq443_2, hxq443_3, hxq443_4, hxq443_5, hxq443_6, hxq443_7, hxq443_8, hxq443_9⟩ := at_T44 (RO.at_ HR1.out HK.out) x13_1 pq443 qq443
                                obtain rfl : adq441 = adq443 := (by injection eq443)
                                replace pq443 := eq_true pq443
                                replace qq443 := eq_true qq443
                                have pq449 : 0 ≤ (x13_1 : Int) := of_decide_eq_true (by first | (with_reducible assumption) | assumption)
                                have qq449 : x13_1 < ((l1.length : Int) : Int) := of_decide_eq_true (by first | (with_reducible assumption) | assumption)
                                obtain ⟨adq449, eq449, hxq449_0, hxq449_1, hxq449_2, hxq449_3, hxq449_4, hxq449_5, hxq449_6, hxq449_7, hxq449_8, hxq449_9⟩ := at_T44 (RO.at_ HR1.out HK.out) x13_1 pq449 qq449
                                obtain rfl : adq441 = adq449 := (by injection eq449)
                                replace pq449 := eq_true pq449
                                replace qq449 := eq_true qq449
                                refine start_ (n := 24) (S := fun w' => w'.cell? (adq441.add (x13_1.toNat * 10)) = some (.int .i64 ((rd_T44 l1 x13_1).f0)) ∧ w'.cell? ⟨(adq441.add (x13_1.toNat * 10)).block, (adq441.add (x13_1.toNat * 10)).off + 1, none⟩ = some (.int .i64 ((rd_T44 l1 x13_1).f1)) ∧ w'.cell? ⟨(adq441.add (x13_1.toNat * 10)).block, (adq441.add (x13_1.toNat * 10)).off + 2, none⟩ = some (.int .i64 ((rd_T44 l1 x13_1).f2)) ∧ w'.cell? ⟨(adq441.add (x13_1.toNat * 10)).block, (adq441.add (x13_1.toNat * 10)).off + 3, none⟩ = some (.int .i64 ((rd_T44 l1 x13_1).f3)) ∧ w'.cell? ⟨(adq441.add (x13_1.toNat * 10)).block, (adq441.add (x13_1.toNat * 10)).off + 4, none⟩ = some (.int .i64 ((rd_T44 l1 x13_1).f4)) ∧ w'.cell? ⟨(adq441.add (x13_1.toNat * 10)).block, (adq441.add (x13_1.toNat * 10)).off + 5, none⟩ = some (.int .i64 ((rd_T44 l1 x13_1).f5)) ∧ w'.cell? ⟨(adq441.add (x13_1.toNat * 10)).block, (adq441.add (x13_1.toNat * 10)).off + 6, none⟩ = some (.int .i64 ((rd_T44 l1 x13_1).f6)) ∧ w'.cell? ⟨(adq441.add (x13_1.toNat * 10)).block, (adq441.add (x13_1.toNat * 10)).off + 7, none⟩ = some (.int .i64 ((rd_T44 l1 x13_1).f7.f0)) ∧ w'.cell? ⟨(adq441.add (x13_1.toNat * 10)).block, (adq441.add (x13_1.toNat * 10)).off + 8, none⟩ = some (.int .i64 ((rd_T44 l1 x13_1).f7.f1)) ∧ w'.cell? ⟨(adq441.add (x13_1.toNat * 10)).block, (adq441.add (x13_1.toNat * 10)).off + 9, none⟩ = some (.int .i64 ((rd_T44 l1 x13_1).f8)) ∧ w'.cell? ⟨g3000050, 15, none⟩ = some (.int .i64 ((rd_T37 l0 x10_0).f7)) ∧ w'.cell? (adq441.add (x13_1.toNat * 10)) = some (.int .i64 ((rd_T44 l1 x13_1).f0)) ∧ w'.cell? ⟨(adq441.add (x13_1.toNat * 10)).block, (adq441.add (x13_1.toNat * 10)).off + 1, none⟩ = some (.int .i64 ((rd_T44 l1 x13_1).f1)) ∧ w'.cell? ⟨(adq441.add (x13_1.toNat * 10)).block, (adq441.add (x13_1.toNat * 10)).off + 2, none⟩ = some (.int .i64 ((rd_T44 l1 x13_1).f2)) ∧ w'.cell? ⟨(adq441.add (x13_1.toNat * 10)).block, (adq441.add (x13_1.toNat * 10)).off + 3, none⟩ = some (.int .i64 ((rd_T44 l1 x13_1).f3)) ∧ w'.cell? ⟨(adq441.add (x13_1.toNat * 10)).block, (adq441.add (x13_1.toNat * 10)).off + 4, none⟩ = some (.int .i64 ((rd_T44 l1 x13_1).f4)) ∧ w'.cell? ⟨(adq441.add (x13_1.toNat * 10)).block, (adq441.add (x13_1.toNat * 10)).off + 5, none⟩ = some (.int .i64 ((rd_T44 l1 x13_1).f5)) ∧ w'.cell? ⟨(adq441.add (x13_1.toNat * 10)).block, (adq441.add (x13_1.toNat * 10)).off + 6, none⟩ = some (.int .i64 ((rd_T44 l1 x13_1).f6)) ∧ w'.cell? ⟨(adq441.add (x13_1.toNat * 10)).block, (adq441.add (x13_1.toNat * 10)).off + 7, none⟩ = some (.int .i64 ((rd_T44 l1 x13_1).f7.f0)) ∧ w'.cell? ⟨(adq441.add (x13_1.toNat * 10)).block, (adq441.add (x13_1.toNat * 10)).off + 8, none⟩ = some (.int .i64 ((rd_T44 l1 x13_1).f7.f1)) ∧ w'.cell? ⟨(adq441.add (x13_1.toNat * 10)).block, (adq441.add (x13_1.toNat * 10)).off + 9, none⟩ = some (.int .i64 ((rd_T44 l1 x13_1).f8))) (ds := []) #[false, false, false, false, false, false, false, false, false, false, false, false, false, false, false, false, false, false, false, false, false, false, false, false] (by kernel_rfl) rfl rfl ⟨(by obtain ⟨a_, e_, h0_, h1_, h2_, h3_, h4_, h5_, h6_, h7_, h8_, h9_⟩ := at_T44 (RO.at_ HR1.out HK.out) x13_1 (of_eq_true pq443) (of_eq_true qq443); obtain rfl := Option.some.inj e_; exact h0_), (by obtain ⟨a_, e_, h0_, h1_, h2_, h3_, h4_, h5_, h6_, h7_, h8_, h9_⟩ := at_T44 (RO.at_ HR1.out HK.out) x13_1 (of_eq_true pq443) (of_eq_true qq443); obtain rfl := Option.some.inj e_; exact h1_), (by obtain ⟨a_, e_, h0_, h1_, h2_, h3_, h4_, h5_, h6_, h7_, h8_, h9_⟩ := at_T44 (RO.at_ HR1.out HK.out) x13_1 (of_eq_true pq443) (of_eq_true qq443); obtain rfl := Option.some.inj e_; exact h2_), (by obtain ⟨a_, e_, h0_, h1_, h2_, h3_, h4_, h5_, h6_, h7_, h8_, h9_⟩ := at_T44 (RO.at_ HR1.out HK.out) x13_1 (of_eq_true pq443) (of_eq_true qq443); obtain rfl := Option.some.inj e_; exact h3_), (by obtain ⟨a_, e_, h0_, h1_, h2_, h3_, h4_, h5_, h6_, h7_, h8_, h9_⟩ := at_T44 (RO.at_ HR1.out HK.out) x13_1 (of_eq_true pq443) (of_eq_true qq443); obtain rfl := Option.some.inj e_; exact h4_), (by obtain ⟨a_, e_, h0_, h1_, h2_, h3_, h4_, h5_, h6_, h7_, h8_, h9_⟩ := at_T44 (RO.at_ HR1.out HK.out) x13_1 (of_eq_true pq443) (of_eq_true qq443); obtain rfl := Option.some.inj e_; exact h5_), (by obtain ⟨a_, e_, h0_, h1_, h2_, h3_, h4_, h5_, h6_, h7_, h8_, h9_⟩ := at_T44 (RO.at_ HR1.out HK.out) x13_1 (of_eq_true pq443) (of_eq_true qq443); obtain rfl := Option.some.inj e_; exact h6_), (by obtain ⟨a_, e_, h0_, h1_, h2_, h3_, h4_, h5_, h6_, h7_, h8_, h9_⟩ := at_T44 (RO.at_ HR1.out HK.out) x13_1 (of_eq_true pq443) (of_eq_true qq443); obtain rfl := Option.some.inj e_; exact h7_), (by obtain ⟨a_, e_, h0_, h1_, h2_, h3_, h4_, h5_, h6_, h7_, h8_, h9_⟩ := at_T44 (RO.at_ HR1.out HK.out) x13_1 (of_eq_true pq443) (of_eq_true qq443); obtain rfl := Option.some.inj e_; exact h8_), (by obtain ⟨a_, e_, h0_, h1_, h2_, h3_, h4_, h5_, h6_, h7_, h8_, h9_⟩ := at_T44 (RO.at_ HR1.out HK.out) x13_1 (of_eq_true pq443) (of_eq_true qq443); obtain rfl := Option.some.inj e_; exact h9_), (((blk_cell (SL.at_ (SL.get1 HS.out)) 15).trans rfl)), (by obtain ⟨a_, e_, h0_, h1_, h2_, h3_, h4_, h5_, h6_, h7_, h8_, h9_⟩ := at_T44 (RO.at_ HR1.out HK.out) x13_1 (of_eq_true pq449) (of_eq_true qq449); obtain rfl := Option.some.inj e_; exact h0_), (by obtain ⟨a_, e_, h0_, h1_, h2_, h3_, h4_, h5_, h6_, h7_, h8_, h9_⟩ := at_T44 (RO.at_ HR1.out HK.out) x13_1 (of_eq_true pq449) (of_eq_true qq449); obtain rfl := Option.some.inj e_; exact h1_), (by obtain ⟨a_, e_, h0_, h1_, h2_, h3_, h4_, h5_, h6_, h7_, h8_, h9_⟩ := at_T44 (RO.at_ HR1.out HK.out) x13_1 (of_eq_true pq449) (of_eq_true qq449); obtain rfl := Option.some.inj e_; exact h2_), (by obtain ⟨a_, e_, h0_, h1_, h2_, h3_, h4_, h5_, h6_, h7_, h8_, h9_⟩ := at_T44 (RO.at_ HR1.out HK.out) x13_1 (of_eq_true pq449) (of_eq_true qq449); obtain rfl := Option.some.inj e_; exact h3_), (by obtain ⟨a_, e_, h0_, h1_, h2_, h3_, h4_, h5_, h6_, h7_, h8_, h9_⟩ := at_T44 (RO.at_ HR1.out HK.out) x13_1 (of_eq_true pq449) (of_eq_true qq449); obtain rfl := Option.some.inj e_; exact h4_), (by obtain ⟨a_, e_, h0_, h1_, h2_, h3_, h4_, h5_, h6_, h7_, h8_, h9_⟩ := at_T44 (RO.at_ HR1.out HK.out) x13_1 (of_eq_true pq449) (of_eq_true qq449); obtain rfl := Option.some.inj e_; exact h5_), (by obtain ⟨a_, e_, h0_, h1_, h2_, h3_, h4_, h5_, h6_, h7_, h8_, h9_⟩ := at_T44 (RO.at_ HR1.out HK.out) x13_1 (of_eq_true pq449) (of_eq_true qq449); obtain rfl := Option.some.inj e_; exact h6_), (by obtain ⟨a_, e_, h0_, h1_, h2_, h3_, h4_, h5_, h6_, h7_, h8_, h9_⟩ := at_T44 (RO.at_ HR1.out HK.out) x13_1 (of_eq_true pq449) (of_eq_true qq449); obtain rfl := Option.some.inj e_; exact h7_), (by obtain ⟨a_, e_, h0_, h1_, h2_, h3_, h4_, h5_, h6_, h7_, h8_, h9_⟩ := at_T44 (RO.at_ HR1.out HK.out) x13_1 (of_eq_true pq449) (of_eq_true qq449); obtain rfl := Option.some.inj e_; exact h8_), (by obtain ⟨a_, e_, h0_, h1_, h2_, h3_, h4_, h5_, h6_, h7_, h8_, h9_⟩ := at_T44 (RO.at_ HR1.out HK.out) x13_1 (of_eq_true pq449) (of_eq_true qq449); obtain rfl := Option.some.inj e_; exact h9_)⟩ (fun hHeld => ?_); refine with_tabW barrowref33_Tick.tab12 barrowref33_Tick.bits12 (fun HT_ HW_ => ?_)
                                replace HK := Aside0.mk (Keep.drew HK.out)
                                replace HS := Aside0.mk (SL.drew HS.out)
                                refine pure_ (i := 0) (N := some 53) (v := ?_) (a' := ?_) #[true, false, false, false, false, false, false, false, false, false, false, false, false, false, false, false, false, false, false, false, false, false, false, false] rfl rfl (any_of HT_.out (by kernel_rfl)) (fun _ _ _ h => h) (Or.inl ⟨by rfl, ?_⟩) ?_ ?_; rotate_left; · (intro w'; go_simp; with_reducible rfl)
                                rotate_left; · (simp only [Act.put, sT, sZ, sS, i64_w, i32_w]; rfl)
                                refine pure_ (i := 1) (N := some 54) (v := ?_) (a' := ?_) #[true, true, false, false, false, false, false, false, false, false, false, false, false, false, false, false, false, false, false, false, false, false, false, false] rfl rfl (any_of HT_.out (by kernel_rfl)) (fun _ _ _ h => h) (Or.inl ⟨by rfl, ?_⟩) ?_ ?_; rotate_left; · (intro w'; go_simp; with_reducible rfl)
                                rotate_left; · (simp only [Act.put, sT, sZ, sS, i64_w, i32_w]; rfl)
                                refine pure_ (i := 2) (N := some 55) (v := ?_) (a' := ?_) #[true, true, true, false, false, false, false, false, false, false, false, false, false, false, false, false, false, false, false, false, false, false, false, false] rfl rfl (any_of HT_.out (by kernel_rfl)) (fun _ _ _ h => h) (Or.inl ⟨by rfl, ?_⟩) ?_ ?_; rotate_left; · (intro w'; go_simp; with_reducible rfl)
                                rotate_left; · (simp only [Act.put, sT, sZ, sS, i64_w, i32_w]; rfl)
                                refine pure_ (i := 3) (N := some 56) (v := ?_) (a' := ?_) #[true, true, true, true, false, false, false, false, false, false, false, false, false, false, false, false, false, false, false, false, false, false, false, false] rfl rfl (any_of HT_.out (by kernel_rfl)) (fun _ _ _ h => h) (Or.inl ⟨by rfl, ?_⟩) ?_ ?_; rotate_left; · (intro w'; go_simp; with_reducible rfl)
                                rotate_left; · (simp only [Act.put, sT, sZ, sS, i64_w, i32_w]; rfl)
                                refine pure_ (i := 4) (N := some 57) (v := ?_) (a' := ?_) #[true, true, true, true, true, false, false, false, false, false, false, false, false, false, false, false, false, false, false, false, false, false, false, false] rfl rfl (any_of HT_.out (by kernel_rfl)) (fun _ _ _ h => h) (Or.inl ⟨by rfl, ?_⟩) ?_ ?_; rotate_left; · (intro w'; go_simp; with_reducible rfl)
                                rotate_left; · (simp only [Act.put, sT, sZ, sS, i64_w, i32_w]; rfl)
                                refine pure_ (i := 5) (N := some 58) (v := ?_) (a' := ?_) #[true, true, true, true, true, true, false, false, false, false, false, false, false, false, false, false, false, false, false, false, false, false, false, false] rfl rfl (any_of HT_.out (by kernel_rfl)) (fun _ _ _ h => h) (Or.inl ⟨by rfl, ?_⟩) ?_ ?_; rotate_left; · (intro w'; go_simp; with_reducible rfl)
                                rotate_left; · (simp only [Act.put, sT, sZ, sS, i64_w, i32_w]; rfl)
                                refine take_ (i := 6) (N := some 59) (v := ?_) (a' := ?_) #[true, true, true, true, true, true, true, false, false, false, false, false, false, false, false, false, false, false, false, false, false, false, false, false] rfl rfl (take_ofW HT_.out HW_.out (by kernel_rfl)) (fun _ _ _ h => h) (Or.inl ⟨by rfl, ?_⟩) hHeld ?_ ?_; rotate_left
                                · rintro w' ⟨s0, s1, s2, s3, s4, s5, s6, s7, s8, s9, s10, s11, s12, s13, s14, s15, s16, s17, s18, s19, s20⟩
                                  go_simp
                                  with_reducible rfl
                                rotate_left; · (simp only [Act.put, sT, sZ, sS, i64_w, i32_w]; rfl)
                                refine pure_ (i := 7) (N := some 60) (v := ?_) (a' := ?_) #[true, true, true, true, true, true, true, true, false, false, false, false, false, false, false, false, false, false, false, false, false, false, false, false] rfl rfl (any_of HT_.out (by kernel_rfl)) (fun _ _ _ h => h) (Or.inl ⟨by rfl, ?_⟩) ?_ ?_; rotate_left; · (intro w'; go_simp; with_reducible rfl)
                                rotate_left; · (simp only [Act.put, sT, sZ, sS, i64_w, i32_w]; rfl)
                                refine pure_ (i := 8) (N := some 61) (v := ?_) (a' := ?_) #[true, true, true, true, true, true, true, true, true, false, false, false, false, false, false, false, false, false, false, false, false, false, false, false] rfl rfl (any_of HT_.out (by kernel_rfl)) (fun _ _ _ h => h) (Or.inl ⟨by rfl, ?_⟩) ?_ ?_; rotate_left; · (intro w'; go_simp; with_reducible rfl)
                                rotate_left; · (simp only [Act.put, sT, sZ, sS, i64_w, i32_w]; rfl)
                                refine pure_ (i := 9) (N := some 62) (v := ?_) (a' := ?_) #[true, true, true, true, true, true, true, true, true, true, false, false, false, false, false, false, false, false, false, false, false, false, false, false] rfl rfl (any_of HT_.out (by kernel_rfl)) (fun _ _ _ h => h) (Or.inl ⟨by rfl, ?_⟩) ?_ ?_; rotate_left; · (intro w'; go_simp; with_reducible rfl)
                                rotate_left; · (simp only [Act.put, sT, sZ, sS, i64_w, i32_w]; rfl)
                                refine pure_ (i := 10) (N := some 63) (v := ?_) (a' := ?_) #[true, true, true, true, true, true, true, true, true, true, true, false, false, false, false, false, false, false, false, false, false, false, false, false] rfl rfl (any_of HT_.out (by kernel_rfl)) (fun _ _ _ h => h) (Or.inl ⟨by rfl, ?_⟩) ?_ ?_; rotate_left; · (intro w'; go_simp; with_reducible rfl)
                                rotate_left; · (simp only [Act.put, sT, sZ, sS, i64_w, i32_w]; rfl)
                                refine take_ (i := 11) (N := some 64) (v := ?_) (a' := ?_) #[true, true, true, true, true, true, true, true, true, true, true, true, false, false, false, false, false, false, false, false, false, false, false, false] rfl rfl (take_ofW HT_.out HW_.out (by kernel_rfl)) (fun _ _ _ h => h) (Or.inl ⟨by rfl, ?_⟩) hHeld ?_ ?_; rotate_left
                                · rintro w' ⟨s0, s1, s2, s3, s4, s5, s6, s7, s8, s9, s10, s11, s12, s13, s14, s15, s16, s17, s18, s19, s20⟩
                                  go_simp
                                  with_reducible rfl
                                rotate_left; · (simp only [Act.put, sT, sZ, sS, i64_w, i32_w]; rfl)
                                refine pure_ (i := 12) (N := some 65) (v := ?_) (a' := ?_) #[true, true, true, true, true, true, true, true, true, true, true, true, true, false, false, false, false, false, false, false, false, false, false, false] rfl rfl (any_of HT_.out (by kernel_rfl)) (fun _ _ _ h => h) (Or.inl ⟨by rfl, ?_⟩) ?_ ?_; rotate_left; · (intro w'; go_simp; with_reducible rfl)
                                rotate_left; · (simp only [Act.put, sT, sZ, sS, i64_w, i32_w]; rfl)
                                refine pure_ (i := 13) (N := some 66) (v := ?_) (a' := ?_) #[true, true, true, true, true, true, true, true, true, true, true, true, true, true, false, false, false, false, false, false, false, false, false, false] rfl rfl (any_of HT_.out (by kernel_rfl)) (fun _ _ _ h => h) (Or.inl ⟨by rfl, ?_⟩) ?_ ?_; rotate_left; · (intro w'; go_simp; with_reducible rfl)
                                rotate_left; · (simp only [Act.put, sT, sZ, sS, i64_w, i32_w]; rfl)
                                refine pure_ (i := 14) (N := some 67) (v := ?_) (a' := ?_) #[true, true, true, true, true, true, true, true, true, true, true, true, true, true, true, false, false, false, false, false, false, false, false, false] rfl rfl (any_of HT_.out (by kernel_rfl)) (fun _ _ _ h => h) (Or.inl ⟨by rfl, ?_⟩) ?_ ?_; rotate_left; · (intro w'; go_simp; with_reducible rfl)
                                rotate_left; · (simp only [Act.put, sT, sZ, sS, i64_w, i32_w]; rfl)
                                refine pure_ (i := 16) (N := some 69) (v := ?_) (a' := ?_) #[true, true, true, true, true, true, true, true, true, true, true, true, true, true, true, false, true, false, false, false, false, false, false, false] rfl rfl (any_of HT_.out (by kernel_rfl)) (fun _ _ _ h => h) (Or.inl ⟨by rfl, ?_⟩) ?_ ?_; rotate_left; · (intro w'; go_simp; with_reducible rfl)
                                rotate_left; · (simp only [Act.put, sT, sZ, sS, i64_w, i32_w]; rfl)
                                refine pure_ (i := 17) (N := some 70) (v := ?_) (a' := ?_) #[true, true, true, true, true, true, true, true, true, true, true, true, true, true, true, false, true, true, false, false, false, false, false, false] rfl rfl (any_of HT_.out (by kernel_rfl)) (fun _ _ _ h => h) (Or.inl ⟨by rfl, ?_⟩) ?_ ?_; rotate_left; · (intro w'; go_simp; with_reducible rfl)
                                rotate_left; · (simp only [Act.put, sT, sZ, sS, i64_w, i32_w]; rfl)
                                refine pure_ (i := 18) (N := some 71) (v := ?_) (a' := ?_) #[true, true, true, true, true, true, true, true, true, true, true, true, true, true, true, false, true, true, true, false, false, false, false, false] rfl rfl (any_of HT_.out (by kernel_rfl)) (fun _ _ _ h => h) (Or.inl ⟨by rfl, ?_⟩) ?_ ?_; rotate_left; · (intro w'; go_simp; with_reducible rfl)
                                rotate_left; · (simp only [Act.put, sT, sZ, sS, i64_w, i32_w]; rfl)
                                refine pure_ (i := 19) (N := some 72) (v := ?_) (a' := ?_) #[true, true, true, true, true, true, true, true, true, true, true, true, true, true, true, false, true, true, true, true, false, false, false, false] rfl rfl (any_of HT_.out (by kernel_rfl)) (fun _ _ _ h => h) (Or.inl ⟨by rfl, ?_⟩) ?_ ?_; rotate_left; · (intro w'; go_simp; with_reducible rfl)
                                rotate_left; · (simp only [Act.put, sT, sZ, sS, i64_w, i32_w]; rfl)
                                refine take_ (i := 15) (N := some 68) (v := ?_) (a' := ?_) #[true, true, true, true, true, true, true, true, true, true, true, true, true, true, true, true, true, true, true, true, false, false, false, false] rfl rfl (take_ofW HT_.out HW_.out (by kernel_rfl)) (fun _ _ _ h => h) (Or.inl ⟨by rfl, ?_⟩) hHeld ?_ ?_; rotate_left
                                · rintro w' ⟨s0, s1, s2, s3, s4, s5, s6, s7, s8, s9, s10, s11, s12, s13, s14, s15, s16, s17, s18, s19, s20⟩
                                  go_simp
                                  with_reducible rfl
                                rotate_left; · (simp only [Act.put, sT, sZ, sS, i64_w, i32_w]; rfl)
                                refine take_ (i := 20) (N := some 73) (v := ?_) (a' := ?_) #[true, true, true, true, true, true, true, true, true, true, true, true, true, true, true, true, true, true, true, true, true, false, false, false] rfl rfl (take_ofW HT_.out HW_.out (by kernel_rfl)) (fun _ _ _ h => h) (Or.inl ⟨by rfl, ?_⟩) hHeld ?_ ?_; rotate_left
                                · rintro w' ⟨s0, s1, s2, s3, s4, s5, s6, s7, s8, s9, s10, s11, s12, s13, s14, s15, s16, s17, s18, s19, s20⟩
                                  go_simp
                                  with_reducible rfl
                                rotate_left; · (simp only [Act.put, sT, sZ, sS, i64_w, i32_w]; rfl)
                                refine pure_ (i := 21) (N := some 74) (v := ?_) (a' := ?_) #[true, true, true, true, true, true, true, true, true, true, true, true, true, true, true, true, true, true, true, true, true, true, false, false] rfl rfl (any_of HT_.out (by kernel_rfl)) (fun _ _ _ h => h) (Or.inl ⟨by rfl, ?_⟩) ?_ ?_; rotate_left; · (intro w'; go_simp; with_reducible rfl)
                                rotate_left; · (simp only [Act.put, sT, sZ, sS, i64_w, i32_w]; rfl)
                                refine pure_ (i := 22) (N := some 75) (v := ?_) (a' := ?_) #[true, true, true, true, true, true, true, true, true, true, true, true, true, true, true, true, true, true, true, true, true, true, true, false] rfl rfl (any_of HT_.out (by kernel_rfl)) (fun _ _ _ h => h) (Or.inl ⟨by rfl, ?_⟩) ?_ ?_; rotate_left; · (intro w'; go_simp; with_reducible rfl)
                                rotate_left; · (simp only [Act.put, sT, sZ, sS, i64_w, i32_w]; rfl)
                                refine pure_ (i := 23) (N := some 76) (v := ?_) (a' := ?_) #[true, true, true, true, true, true, true, true, true, true, true, true, true, true, true, true, true, true, true, true, true, true, true, true] rfl rfl (any_of HT_.out (by kernel_rfl)) (fun _ _ _ h => h) (Or.inl ⟨by rfl, ?_⟩) ?_ ?_; rotate_left; · (intro w'; go_simp; with_reducible rfl)
                                rotate_left; · (simp only [Act.put, sT, sZ, sS, i64_w, i32_w]; rfl)
                                refine done_ (done_of HT_.out (by kernel_rfl)) ?_
                                try go_wp2
                                have pq450 : 0 ≤ (x13_1 : Int) := of_decide_eq_true (by first | (with_reducible assumption) | assumption)
                                have qq450 : x13_1 < ((l1.length : Int) : Int) := of_decide_eq_true (by first | (with_reducible assumption) | assumption)
                                obtain ⟨adq450, eq450, hxq450_0, hxq450_1, hxq450_2, hxq450_3, hxq450_4, hxq450_5, hxq450_6, hxq450_7, hxq450_8, hxq450_9⟩ := at_T44 (RO.at_ HR1.out HK.out) x13_1 pq450 qq450
                                obtain rfl : adq441 = adq450 := (by injection eq450)
                                replace pq450 := eq_true pq450
                                replace qq450 := eq_true qq450
                                refine start_ (n := 12) (S := fun w' => w'.cell? ⟨g3000050, 0, none⟩ = some (.int .i64 ((rd_T37 l0 x10_0).f0)) ∧ w'.cell? (adq441.add (x13_1.toNat * 10)) = some (.int .i64 ((rd_T44 l1 x13_1).f0)) ∧ w'.cell? ⟨(adq441.add (x13_1.toNat * 10)).block, (adq441.add (x13_1.toNat * 10)).off + 1, none⟩ = some (.int .i64 ((rd_T44 l1 x13_1).f1)) ∧ w'.cell? ⟨(adq441.add (x13_1.toNat * 10)).block, (adq441.add (x13_1.toNat * 10)).off + 2, none⟩ = some (.int .i64 ((rd_T44 l1 x13_1).f2)) ∧ w'.cell? ⟨(adq441.add (x13_1.toNat * 10)).block, (adq441.add (x13_1.toNat * 10)).off + 3, none⟩ = some (.int .i64 ((rd_T44 l1 x13_1).f3)) ∧ w'.cell? ⟨(adq441.add (x13_1.toNat * 10)).block, (adq441.add (x13_1.toNat * 10)).off + 4, none⟩ = some (.int .i64 ((rd_T44 l1 x13_1).f4)) ∧ w'.cell? ⟨(adq441.add (x13_1.toNat * 10)).block, (adq441.add (x13_1.toNat * 10)).off + 5, none⟩ = some (.int .i64 ((rd_T44 l1 x13_1).f5)) ∧ w'.cell? ⟨(adq441.add (x13_1.toNat * 10)).block, (adq441.add (x13_1.toNat * 10)).off + 6, none⟩ = some (.int .i64 ((rd_T44 l1 x13_1).f6)) ∧ w'.cell? ⟨(adq441.add (x13_1.toNat * 10)).block, (adq441.add (x13_1.toNat * 10)).off + 7, none⟩ = some (.int .i64 ((rd_T44 l1 x13_1).f7.f0)) ∧ w'.cell? ⟨(adq441.add (x13_1.toNat * 10)).block, (adq441.add (x13_1.toNat * 10)).off + 8, none⟩ = some (.int .i64 ((rd_T44 l1 x13_1).f7.f1)) ∧ w'.cell? ⟨(adq441.add (x13_1.toNat * 10)).block, (adq441.add (x13_1.toNat * 10)).off + 9, none⟩ = some (.int .i64 ((rd_T44 l1 x13_1).f8))) (ds := []) #[false, false, false, false, false, false, false, false, false, false, false, false] (by kernel_rfl) rfl rfl ⟨(((blk_cell (SL.at_ (SL.get1 HS.out)) 0).trans rfl)), (by obtain ⟨a_, e_, h0_, h1_, h2_, h3_, h4_, h5_, h6_, h7_, h8_, h9_⟩ := at_T44 (RO.at_ HR1.out HK.out) x13_1 (of_eq_true pq450) (of_eq_true qq450); obtain rfl := Option.some.inj e_; exact h0_), (by obtain ⟨a_, e_, h0_, h1_, h2_, h3_, h4_, h5_, h6_, h7_, h8_, h9_⟩ := at_T44 (RO.at_ HR1.out HK.out) x13_1 (of_eq_true pq450) (of_eq_true qq450); obtain rfl := Option.some.inj e_; exact h1_), (by obtain ⟨a_, e_, h0_, h1_, h2_, h3_, h4_, h5_, h6_, h7_, h8_, h9_⟩ := at_T44 (RO.at_ HR1.out HK.out) x13_1 (of_eq_true pq450) (of_eq_true qq450); obtain rfl := Option.some.inj e_; exact h2_), (by obtain ⟨a_, e_, h0_, h1_, h2_, h3_, h4_, h5_, h6_, h7_, h8_, h9_⟩ := at_T44 (RO.at_ HR1.out HK.out) x13_1 (of_eq_true pq450) (of_eq_true qq450); obtain rfl := Option.some.inj e_; exact h3_), (by obtain ⟨a_, e_, h0_, h1_, h2_, h3_, h4_, h5_, h6_, h7_, h8_, h9_⟩ := at_T44 (RO.at_ HR1.out HK.out) x13_1 (of_eq_true pq450) (of_eq_true qq450); obtain rfl := Option.some.inj e_; exact h4_), (by obtain ⟨a_, e_, h0_, h1_, h2_, h3_, h4_, h5_, h6_, h7_, h8_, h9_⟩ := at_T44 (RO.at_ HR1.out HK.out) x13_1 (of_eq_true pq450) (of_eq_true qq450); obtain rfl := Option.some.inj e_; exact h5_), (by obtain ⟨a_, e_, h0_, h1_, h2_, h3_, h4_, h5_, h6_, h7_, h8_, h9_⟩ := at_T44 (RO.at_ HR1.out HK.out) x13_1 (of_eq_true pq450) (of_eq_true qq450); obtain rfl := Option.some.inj e_; exact h6_), (by obtain ⟨a_, e_, h0_, h1_, h2_, h3_, h4_, h5_, h6_, h7_, h8_, h9_⟩ := at_T44 (RO.at_ HR1.out HK.out) x13_1 (of_eq_true pq450) (of_eq_true qq450); obtain rfl := Option.some.inj e_; exact h7_), (by obtain ⟨a_, e_, h0_, h1_, h2_, h3_, h4_, h5_, h6_, h7_, h8_, h9_⟩ := at_T44 (RO.at_ HR1.out HK.out) x13_1 (of_eq_true pq450) (of_eq_true qq450); obtain rfl := Option.some.inj e_; exact h8_), (by obtain ⟨a_, e_, h0_, h1_, h2_, h3_, h4_, h5_, h6_, h7_, h8_, h9_⟩ := at_T44 (RO.at_ HR1.out HK.out) x13_1 (of_eq_true pq450) (of_eq_true qq450); obtain rfl := Option.some.inj e_; exact h9_)⟩ (fun hHeld => ?_); refine with_tabW barrowref33_Tick.tab13 barrowref33_Tick.bits13 (fun HT_ HW_ => ?_)
                                replace HK := Aside0.mk (Keep.drew HK.out)
                                replace HS := Aside0.mk (SL.drew HS.out)
                                refine pure_ (i := 0) (N := some 77) (v := ?_) (a' := ?_) #[true, false, false, false, false, false, false, false, false, false, false, false] rfl rfl (any_of HT_.out (by kernel_rfl)) (fun _ _ _ h => h) (Or.inl ⟨by rfl, ?_⟩) ?_ ?_; rotate_left; · (intro w'; go_simp; with_reducible rfl)
                                rotate_left; · (simp only [Act.put, sT, sZ, sS, i64_w, i32_w]; rfl)
                                refine pure_ (i := 1) (N := some 78) (v := ?_) (a' := ?_) #[true, true, false, false, false, false, false, false, false, false, false, false] rfl rfl (any_of HT_.out (by kernel_rfl)) (fun _ _ _ h => h) (Or.inl ⟨by rfl, ?_⟩) ?_ ?_; rotate_left; · (intro w'; go_simp; with_reducible rfl)
                                rotate_left; · (simp only [Act.put, sT, sZ, sS, i64_w, i32_w]; rfl)
                                refine pure_ (i := 3) (N := some 80) (v := ?_) (a' := ?_) #[true, true, false, true, false, false, false, false, false, false, false, false] rfl rfl (any_of HT_.out (by kernel_rfl)) (fun _ _ _ h => h) (Or.inl ⟨by rfl, ?_⟩) ?_ ?_; rotate_left; · (intro w'; go_simp; with_reducible rfl)
                                rotate_left; · (simp only [Act.put, sT, sZ, sS, i64_w, i32_w]; rfl)
                                refine pure_ (i := 4) (N := some 81) (v := ?_) (a' := ?_) #[true, true, false, true, true, false, false, false, false, false, false, false] rfl rfl (any_of HT_.out (by kernel_rfl)) (fun _ _ _ h => h) (Or.inl ⟨by rfl, ?_⟩) ?_ ?_; rotate_left; · (intro w'; go_simp; with_reducible rfl)
                                rotate_left; · (simp only [Act.put, sT, sZ, sS, i64_w, i32_w]; rfl)
                                refine pure_ (i := 5) (N := some 82) (v := ?_) (a' := ?_) #[true, true, false, true, true, true, false, false, false, false, false, false] rfl rfl (any_of HT_.out (by kernel_rfl)) (fun _ _ _ h => h) (Or.inl ⟨by rfl, ?_⟩) ?_ ?_; rotate_left; · (intro w'; go_simp; with_reducible rfl)
                                rotate_left; · (simp only [Act.put, sT, sZ, sS, i64_w, i32_w]; rfl)
                                refine pure_ (i := 6) (N := some 83) (v := ?_) (a' := ?_) #[true, true, false, true, true, true, true, false, false, false, false, false] rfl rfl (any_of HT_.out (by kernel_rfl)) (fun _ _ _ h => h) (Or.inl ⟨by rfl, ?_⟩) ?_ ?_; rotate_left; · (intro w'; go_simp; with_reducible rfl)
                                rotate_left; · (simp only [Act.put, sT, sZ, sS, i64_w, i32_w]; rfl)
                                refine take_ (i := 2) (N := some 79) (v := ?_) (a' := ?_) #[true, true, true, true, true, true, true, false, false, false, false, false] rfl rfl (take_ofW HT_.out HW_.out (by kernel_rfl)) (fun _ _ _ h => h) (Or.inl ⟨by rfl, ?_⟩) hHeld ?_ ?_; rotate_left
                                · rintro w' ⟨s0, s1, s2, s3, s4, s5, s6, s7, s8, s9, s10⟩
                                  go_simp
                                  with_reducible rfl
                                rotate_left; · (simp only [Act.put, sT, sZ, sS, i64_w, i32_w]; rfl)
                                refine take_ (i := 7) (N := some 84) (v := ?_) (a' := ?_) #[true, true, true, true, true, true, true, true, false, false, false, false] rfl rfl (take_ofW HT_.out HW_.out (by kernel_rfl)) (fun _ _ _ h => h) (Or.inl ⟨by rfl, ?_⟩) hHeld ?_ ?_; rotate_left
                                · rintro w' ⟨s0, s1, s2, s3, s4, s5, s6, s7, s8, s9, s10⟩
                                  go_simp
                                  with_reducible rfl
                                rotate_left; · (simp only [Act.put, sT, sZ, sS, i64_w, i32_w]; rfl)
                                refine pure_ (i := 8) (N := some 85) (v := ?_) (a' := ?_) #[true, true, true, true, true, true, true, true, true, false, false, false] rfl rfl (any_of HT_.out (by kernel_rfl)) (fun _ _ _ h => h) (Or.inl ⟨by rfl, ?_⟩) ?_ ?_; rotate_left; · (intro w'; go_simp; with_reducible rfl)
                                rotate_left; · (simp only [Act.put, sT, sZ, sS, i64_w, i32_w]; rfl)
                                refine one_ (i := 9) (N := some 86) #[true, true, true, true, true, true, true, true, true, true, false, false] rfl rfl (one_of HT_.out (by kernel_rfl)) (by decide) (fun K hK => ?_)
                                refine st_of (by rfl) ?_
                                refine op_rowF (S := S) (d := k56) ⟨fun h_ => h_⟩ 56 y451 #[.int .i64 ((rd_T37 l0 x10_0).f0), .int .i64 ((rd_T44 l1 x13_1).f0)] 1 (by rw [← Ny451.out]; exact reps_cons (k56_mkM _ 0 _ (⟨(rd_T37 l0 x10_0).f0, (rd_T44 l1 x13_1).f0⟩ : S56)) rfl (Reps.none _ _)) (by rw [← Ny451.out]; rfl) (by decide) (HF.out.keep HK.out) HS.out (by first | (go_simp; done) | (go_simp; rfl)) ?_
                                intro Az3000051 cz3000051 w20 hs_ hk_
                                replace HS := Aside0.mk ((show SL (row k56 56 (.slice Az3000051 1 cz3000051) y451 :: _) _ _ from hs_))
                                replace HK := Aside0.mk (HK.out.trans hk_)
                                refine hK.out _ _ ⟨(((blk_cell (SL.at_ (SL.get2 HS.out)) 0).trans rfl)), (by obtain ⟨a_, e_, h0_, h1_, h2_, h3_, h4_, h5_, h6_, h7_, h8_, h9_⟩ := at_T44 (RO.at_ HR1.out HK.out) x13_1 (of_eq_true pq450) (of_eq_true qq450); obtain rfl := Option.some.inj e_; exact h0_), (by obtain ⟨a_, e_, h0_, h1_, h2_, h3_, h4_, h5_, h6_, h7_, h8_, h9_⟩ := at_T44 (RO.at_ HR1.out HK.out) x13_1 (of_eq_true pq450) (of_eq_true qq450); obtain rfl := Option.some.inj e_; exact h1_), (by obtain ⟨a_, e_, h0_, h1_, h2_, h3_, h4_, h5_, h6_, h7_, h8_, h9_⟩ := at_T44 (RO.at_ HR1.out HK.out) x13_1 (of_eq_true pq450) (of_eq_true qq450); obtain rfl := Option.some.inj e_; exact h2_), (by obtain ⟨a_, e_, h0_, h1_, h2_, h3_, h4_, h5_, h6_, h7_, h8_, h9_⟩ := at_T44 (RO.at_ HR1.out HK.out) x13_1 (of_eq_true pq450) (of_eq_true qq450); obtain rfl := Option.some.inj e_; exact h3_), (by obtain ⟨a_, e_, h0_, h1_, h2_, h3_, h4_, h5_, h6_, h7_, h8_, h9_⟩ := at_T44 (RO.at_ HR1.out HK.out) x13_1 (of_eq_true pq450) (of_eq_true qq450); obtain rfl := Option.some.inj e_; exact h4_), (by obtain ⟨a_, e_, h0_, h1_, h2_, h3_, h4_, h5_, h6_, h7_, h8_, h9_⟩ := at_T44 (RO.at_ HR1.out HK.out) x13_1 (of_eq_true pq450) (of_eq_true qq450); obtain rfl := Option.some.inj e_; exact h5_), (by obtain ⟨a_, e_, h0_, h1_, h2_, h3_, h4_, h5_, h6_, h7_, h8_, h9_⟩ := at_T44 (RO.at_ HR1.out HK.out) x13_1 (of_eq_true pq450) (of_eq_true qq450); obtain rfl := Option.some.inj e_; exact h6_), (by obtain ⟨a_, e_, h0_, h1_, h2_, h3_, h4_, h5_, h6_, h7_, h8_, h9_⟩ := at_T44 (RO.at_ HR1.out HK.out) x13_1 (of_eq_true pq450) (of_eq_true qq450); obtain rfl := Option.some.inj e_; exact h7_), (by obtain ⟨a_, e_, h0_, h1_, h2_, h3_, h4_, h5_, h6_, h7_, h8_, h9_⟩ := at_T44 (RO.at_ HR1.out HK.out) x13_1 (of_eq_true pq450) (of_eq_true qq450); obtain rfl := Option.some.inj e_; exact h8_), (by obtain ⟨a_, e_, h0_, h1_, h2_, h3_, h4_, h5_, h6_, h7_, h8_, h9_⟩ := at_T44 (RO.at_ HR1.out HK.out) x13_1 (of_eq_true pq450) (of_eq_true qq450); obtain rfl := Option.some.inj e_; exact h9_)⟩ (fun hHeld => ?_)
                                clear hK K
                                refine norm_ (a' := ?_) ?_ ?_; rotate_left
                                · show Act.put _ (some 86) _ = _
                                  simp only [Act.put, sT, sZ, sS, i64_w, i32_w]
                                  rfl
                                refine one_ (i := 10) (N := some 87) #[true, true, true, true, true, true, true, true, true, true, true, false] rfl rfl (one_of HT_.out (by kernel_rfl)) (by decide) (fun K hK => ?_)
                                refine st_of (by rfl) ?_
                                refine op_appendF (S := S) (d := k56) ⟨fun h_ => h_⟩ (.tmp 77) (.tmp 86) 25 56 (.agg #[(.int .i64 0), (.int .i64 0)]) 16 rfl Try.underlying25 info56 rfl (by decide) (by decide) (.slice Ax9_1 x9_1.length cx9_1) rfl rfl (HF.out.keep HK.out) (SL.get1 HS.out) (SL.row_c HS.out).2.2 (by have := LMc18.out; have e_ := (SL.row_c HS.out).1; omega) y452 Ny452.out ?_
                                intro A453 c454 w21 hs_ hk_
                                replace HS := Aside0.mk ((SL.back1 (show SL (row k56 56 (.slice A453 y452.length c454) y452 :: _) _ _ from hs_)))
                                replace HK := Aside0.mk (HK.out.trans hk_)
                                refine hK.out _ _ ⟨(((blk_cell (SL.at_ (SL.get2 HS.out)) 0).trans rfl)), (by obtain ⟨a_, e_, h0_, h1_, h2_, h3_, h4_, h5_, h6_, h7_, h8_, h9_⟩ := at_T44 (RO.at_ HR1.out HK.out) x13_1 (of_eq_true pq450) (of_eq_true qq450); obtain rfl := Option.some.inj e_; exact h0_), (by obtain ⟨a_, e_, h0_, h1_, h2_, h3_, h4_, h5_, h6_, h7_, h8_, h9_⟩ := at_T44 (RO.at_ HR1.out HK.out) x13_1 (of_eq_true pq450) (of_eq_true qq450); obtain rfl := Option.some.inj e_; exact h1_), (by obtain ⟨a_, e_, h0_, h1_, h2_, h3_, h4_, h5_, h6_, h7_, h8_, h9_⟩ := at_T44 (RO.at_ HR1.out HK.out) x13_1 (of_eq_true pq450) (of_eq_true qq450); obtain rfl := Option.some.inj e_; exact h2_), (by obtain ⟨a_, e_, h0_, h1_, h2_, h3_, h4_, h5_, h6_, h7_, h8_, h9_⟩ := at_T44 (RO.at_ HR1.out HK.out) x13_1 (of_eq_true pq450) (of_eq_true qq450); obtain rfl := Option.some.inj e_; exact h3_), (by obtain ⟨a_, e_, h0_, h1_, h2_, h3_, h4_, h5_, h6_, h7_, h8_, h9_⟩ := at_T44 (RO.at_ HR1.out HK.out) x13_1 (of_eq_true pq450) (of_eq_true qq450); obtain rfl := Option.some.inj e_; exact h4_), (by obtain ⟨a_, e_, h0_, h1_, h2_, h3_, h4_, h5_, h6_, h7_, h8_, h9_⟩ := at_T44 (RO.at_ HR1.out HK.out) x13_1 (of_eq_true pq450) (of_eq_true qq450); obtain rfl := Option.some.inj e_; exact h5_), (by obtain ⟨a_, e_, h0_, h1_, h2_, h3_, h4_, h5_, h6_, h7_, h8_, h9_⟩ := at_T44 (RO.at_ HR1.out HK.out) x13_1 (of_eq_true pq450) (of_eq_true qq450); obtain rfl := Option.some.inj e_; exact h6_), (by obtain ⟨a_, e_, h0_, h1_, h2_, h3_, h4_, h5_, h6_, h7_, h8_, h9_⟩ := at_T44 (RO.at_ HR1.out HK.out) x13_1 (of_eq_true pq450) (of_eq_true qq450); obtain rfl := Option.some.inj e_; exact h7_), (by obtain ⟨a_, e_, h0_, h1_, h2_, h3_, h4_, h5_, h6_, h7_, h8_, h9_⟩ := at_T44 (RO.at_ HR1.out HK.out) x13_1 (of_eq_true pq450) (of_eq_true qq450); obtain rfl := Option.some.inj e_; exact h8_), (by obtain ⟨a_, e_, h0_, h1_, h2_, h3_, h4_, h5_, h6_, h7_, h8_, h9_⟩ := at_T44 (RO.at_ HR1.out HK.out) x13_1 (of_eq_true pq450) (of_eq_true qq450); obtain rfl := Option.some.inj e_; exact h9_)⟩ (fun hHeld => ?_)
                                clear hK K
                                refine norm_ (a' := ?_) ?_ ?_; rotate_left
                                · show Act.put _ (some 87) _ = _
                                  simp only [Act.put, sT, sZ, sS, i64_w, i32_w]
                                  rfl
                                refine pure_ (i := 11) (N := some 9) (v := ?_) (a' := ?_) #[true, true, true, true, true, true, true, true, true, true, true, true] rfl rfl (any_of HT_.out (by kernel_rfl)) (fun _ _ _ h => h) (Or.inl ⟨by rfl, ?_⟩) ?_ ?_; rotate_left; · (intro w'; go_simp; with_reducible rfl)
                                rotate_left; · (simp only [Act.put, sT, sZ, sS, i64_w, i32_w]; rfl)
                                refine done_ (done_of HT_.out (by kernel_rfl)) ?_
                                try go_wp2
                                replace HS := Aside0.mk (SL.tail HS.out)
                                go_roundg k2
                                case measure => have := HQ1.out; have := HQ2.out; omega
                                case rel => exact ⟨(y452), (A453), (c454), (wrap64 (x13_1 + 1)), (by first | rfl | (simp; done) | (simp [*]; done)), (by first | rfl | (simp; done) | (simp [*]; done)), H', ⟨by have := HQ1.out; have := HQ2.out; omega⟩, HS, HK⟩
                              · rw [if_neg c18] at H
                                exact absurd H (by simp)
                            · rw [if_neg c17] at H
                              have c17b0 : (((rd_T37 l0 x10_0).f7) == ((rd_T44 l1 x13_1).f1)) = false := beq_eq_false_iff_ne.mpr c17
                              have c17b1 : (((rd_T37 l0 x10_0).f7) != ((rd_T44 l1 x13_1).f1)) = true := bne_iff_ne.mpr c17
                              have H' := Aside0.mk H
                              clear H
                              try go_wp2
                              have pq441 : 0 ≤ (x13_1 : Int) := of_decide_eq_true (by first | (with_reducible assumption) | assumption)
                              have qq441 : x13_1 < ((l1.length : Int) : Int) := of_decide_eq_true (by first | (with_reducible assumption) | assumption)
                              obtain ⟨adq441, eq441, hxq441_0, hxq441_1, hxq441_2, hxq441_3, hxq441_4, hxq441_5, hxq441_6, hxq441_7, hxq441_8, hxq441_9⟩ := at_T44 (RO.at_ HR1.out HK.out) x13_1 pq441 qq441
                              cases eq441
                              replace pq441 := eq_true pq441
                              replace qq441 := eq_true qq441
                              refine start_ (n := 9) (S := fun w' => w'.cell? ⟨g3000050, 1, none⟩ = some (.int .i64 ((rd_T37 l0 x10_0).f1.f0)) ∧ w'.cell? ⟨g3000050, 2, none⟩ = some (.int .i64 ((rd_T37 l0 x10_0).f1.f1.f0)) ∧ w'.cell? ⟨g3000050, 3, none⟩ = some (.int .i64 ((rd_T37 l0 x10_0).f1.f1.f1)) ∧ w'.cell? ⟨g3000050, 4, none⟩ = some (.int .i64 ((rd_T37 l0 x10_0).f1.f2.f0)) ∧ w'.cell? ⟨g3000050, 5, none⟩ = some (.int .i64 ((rd_T37 l0 x10_0).f1.f2.f1)) ∧ w'.cell? ⟨g3000050, 6, none⟩ = some (.int .i64 ((rd_T37 l0 x10_0).f1.f3)) ∧ w'.cell? ⟨g3000050, 7, none⟩ = some (.int .i64 ((rd_T37 l0 x10_0).f1.f4)) ∧ w'.cell? (adq441.add (x13_1.toNat * 10)) = some (.int .i64 ((rd_T44 l1 x13_1).f0)) ∧ w'.cell? ⟨(adq441.add (x13_1.toNat * 10)).block, (adq441.add (x13_1.toNat * 10)).off + 1, none⟩ = some (.int .i64 ((rd_T44 l1 x13_1).f1)) ∧ w'.cell? ⟨(adq441.add (x13_1.toNat * 10)).block, (adq441.add (x13_1.toNat * 10)).off + 2, none⟩ = some (.int .i64 ((rd_T44 l1 x13_1).f2)) ∧ w'.cell? ⟨(adq441.add (x13_1.toNat * 10)).block, (adq441.add (x13_1.toNat * 10)).off + 3, none⟩ = some (.int .i64 ((rd_T44 l1 x13_1).f3)) ∧ w'.cell? ⟨(adq441.add (x13_1.toNat * 10)).block, (adq441.add (x13_1.toNat * 10)).off + 4, none⟩ = some (.int .i64 ((rd_T44 l1 x13_1).f4)) ∧ w'.cell? ⟨(adq441.add (x13_1.toNat * 10)).block, (adq441.add (x13_1.toNat * 10)).off + 5, none⟩ = some (.int .i64 ((rd_T44 l1 x13_1).f5)) ∧ w'.cell? ⟨(adq441.add (x13_1.toNat * 10)).block, (adq441.add (x13_1.toNat * 10)).off + 6, none⟩ = some (.int .i64 ((rd_T44 l1 x13_1).f6)) ∧ w'.cell? ⟨(adq441.add (x13_1.toNat * 10)).block, (adq441.add (x13_1.toNat * 10)).off + 7, none⟩ = some (.int .i64 ((rd_T44 l1 x13_1).f7.f0)) ∧ w'.cell? ⟨(adq441.add (x13_1.toNat * 10)).block, (adq441.add (x13_1.toNat * 10)).off + 8, none⟩ = some (.int .i64 ((rd_T44 l1 x13_1).f7.f1)) ∧ w'.cell? ⟨(adq441.add (x13_1.toNat * 10)).block, (adq441.add (x13_1.toNat * 10)).off + 9, none⟩ = some (.int .i64 ((rd_T44 l1 x13_1).f8))) (ds := []) #[false, false, false, false, false, false, false, false, false] (by kernel_rfl) rfl rfl ⟨(((blk_cell (SL.at_ (SL.get1 HS.out)) 1).trans rfl)), (((blk_cell (SL.at_ (SL.get1 HS.out)) 2).trans rfl)), (((blk_cell (SL.at_ (SL.get1 HS.out)) 3).trans rfl)), (((blk_cell (SL.at_ (SL.get1 HS.out)) 4).trans rfl)), (((blk_cell (SL.at_ (SL.get1 HS.out)) 5).trans rfl)), (((blk_cell (SL.at_ (SL.get1 HS.out)) 6).trans rfl)), (((blk_cell (SL.at_ (SL.get1 HS.out)) 7).trans rfl)), (by obtain ⟨a_, e_, h0_, h1_, h2_, h3_, h4_, h5_, h6_, h7_, h8_, h9_⟩ := at_T44 (RO.at_ HR1.out HK.out) x13_1 (of_eq_true pq441) (of_eq_true qq441); obtain rfl := Option.some.inj e_; exact h0_), (by obtain ⟨a_, e_, h0_, h1_, h2_, h3_, h4_, h5_, h6_, h7_, h8_, h9_⟩ := at_T44 (RO.at_ HR1.out HK.out) x13_1 (of_eq_true pq441) (of_eq_true qq441); obtain rfl := Option.some.inj e_; exact h1_), (by obtain ⟨a_, e_, h0_, h1_, h2_, h3_, h4_, h5_, h6_, h7_, h8_, h9_⟩ := at_T44 (RO.at_ HR1.out HK.out) x13_1 (of_eq_true pq441) (of_eq_true qq441); obtain rfl := Option.some.inj e_; exact h2_), (by obtain ⟨a_, e_, h0_, h1_, h2_, h3_, h4_, h5_, h6_, h7_, h8_, h9_⟩ := at_T44 (RO.at_ HR1.out HK.out) x13_1 (of_eq_true pq441) (of_eq_true qq441); obtain rfl := Option.some.inj e_; exact h3_), (by obtain ⟨a_, e_, h0_, h1_, h2_, h3_, h4_, h5_, h6_, h7_, h8_, h9_⟩ := at_T44 (RO.at_ HR1.out HK.out) x13_1 (of_eq_true pq441) (of_eq_true qq441); obtain rfl := Option.some.inj e_; exact h4_), (by obtain ⟨a_, e_, h0_, h1_, h2_, h3_, h4_, h5_, h6_, h7_, h8_, h9_⟩ := at_T44 (RO.at_ HR1.out HK.out) x13_1 (of_eq_true pq441) (of_eq_true qq441); obtain rfl := Option.some.inj e_; exact h5_), (by obtain ⟨a_, e_, h0_, h1_, h2_, h3_, h4_, h5_, h6_, h7_, h8_, h9_⟩ := at_T44 (RO.at_ HR1.out HK.out) x13_1 (of_eq_true pq441) (of_eq_true qq441); obtain rfl := Option.some.inj e_; exact h6_), (by obtain ⟨a_, e_, h0_, h1_, h2_, h3_, h4_, h5_, h6_, h7_, h8_, h9_⟩ := at_T44 (RO.at_ HR1.out HK.out) x13_1 (of_eq_true pq441) (of_eq_true qq441); obtain rfl := Option.some.inj e_; exact h7_), (by obtain ⟨a_, e_, h0_, h1_, h2_, h3_, h4_, h5_, h6_, h7_, h8_, h9_⟩ := at_T44 (RO.at_ HR1.out HK.out) x13_1 (of_eq_true pq441) (of_eq_true qq441); obtain rfl := Option.some.inj e_; exact h8_), (by obtain ⟨a_, e_, h0_, h1_, h2_, h3_, h4_, h5_, h6_, h7_, h8_, h9_⟩ := at_T44 (RO.at_ HR1.out HK.out) x13_1 (of_eq_true pq441) (of_eq_true qq441); obtain rfl := Option.some.inj e_; exact h9_)⟩ (fun hHeld => ?_); refine with_tabW barrowref33_Tick.tab11 barrowref33_Tick.bits11 (fun HT_ HW_ => ?_)
                              replace HK := Aside0.mk (Keep.drew HK.out)
                              replace HS := Aside0.mk (SL.drew HS.out)
                              refine pure_ (i := 0) (N := some 45) (v := ?_) (a' := ?_) #[true, false, false, false, false, false, false, false, false] rfl rfl (any_of HT_.out (by kernel_rfl)) (fun _ _ _ h => h) (Or.inl ⟨by rfl, ?_⟩) ?_ ?_; rotate_left; · (intro w'; go_simp; with_reducible rfl)
                              rotate_left; · (simp only [Act.put, sT, sZ, sS, i64_w, i32_w]; rfl)
                              refine pure_ (i := 2) (N := some 47) (v := ?_) (a' := ?_) #[true, false, true, false, false, false, false, false, false] rfl rfl (any_of HT_.out (by kernel_rfl)) (fun _ _ _ h => h) (Or.inl ⟨by rfl, ?_⟩) ?_ ?_; rotate_left; · (intro w'; go_simp; with_reducible rfl)
                              rotate_left; · (simp only [Act.put, sT, sZ, sS, i64_w, i32_w]; rfl)
                              refine pure_ (i := 3) (N := some 48) (v := ?_) (a' := ?_) #[true, false, true, true, false, false, false, false, false] rfl rfl (any_of HT_.out (by kernel_rfl)) (fun _ _ _ h => h) (Or.inl ⟨by rfl, ?_⟩) ?_ ?_; rotate_left; · (intro w'; go_simp; with_reducible rfl)
                              rotate_left; · (simp only [Act.put, sT, sZ, sS, i64_w, i32_w]; rfl)
                              refine pure_ (i := 4) (N := some 49) (v := ?_) (a' := ?_) #[true, false, true, true, true, false, false, false, false] rfl rfl (any_of HT_.out (by kernel_rfl)) (fun _ _ _ h => h) (Or.inl ⟨by rfl, ?_⟩) ?_ ?_; rotate_left; · (intro w'; go_simp; with_reducible rfl)
                              rotate_left; · (simp only [Act.put, sT, sZ, sS, i64_w, i32_w]; rfl)
                              refine pure_ (i := 5) (N := some 50) (v := ?_) (a' := ?_) #[true, false, true, true, true, true, false, false, false] rfl rfl (any_of HT_.out (by kernel_rfl)) (fun _ _ _ h => h) (Or.inl ⟨by rfl, ?_⟩) ?_ ?_; rotate_left; · (intro w'; go_simp; with_reducible rfl)
                              rotate_left; · (simp only [Act.put, sT, sZ, sS, i64_w, i32_w]; rfl)
                              refine take_ (i := 1) (N := some 46) (v := ?_) (a' := ?_) #[true, true, true, true, true, true, false, false, false] rfl rfl (take_ofW HT_.out HW_.out (by kernel_rfl)) (fun _ _ _ h => h) (Or.inl ⟨by rfl, ?_⟩) hHeld ?_ ?_; rotate_left
                              · rintro w' ⟨s0, s1, s2, s3, s4, s5, s6, s7, s8, s9, s10, s11, s12, s13, s14, s15, s16⟩
                                go_simp
                                with_reducible rfl
                              rotate_left; · (simp only [Act.put, sT, sZ, sS, i64_w, i32_w]; rfl)
                              refine take_ (i := 6) (N := some 51) (v := ?_) (a' := ?_) #[true, true, true, true, true, true, true, false, false] rfl rfl (take_ofW HT_.out HW_.out (by kernel_rfl)) (fun _ _ _ h => h) (Or.inl ⟨by rfl, ?_⟩) hHeld ?_ ?_; rotate_left
                              · rintro w' ⟨s0, s1, s2, s3, s4, s5, s6, s7, s8, s9, s10, s11, s12, s13, s14, s15, s16⟩
                                go_simp
                                with_reducible rfl
                              rotate_left; · (simp only [Act.put, sT, sZ, sS, i64_w, i32_w]; rfl)
                              refine one_ (i := 7) (N := some 52) #[true, true, true, true, true, true, true, true, false] rfl rfl (one_of HT_.out (by kernel_rfl)) (by decide) (fun K hK => ?_)
                              refine goes_ Try.func27 (by kernel_rfl) rfl #[.agg #[.int .i64 ((rd_T37 l0 x10_0).f1.f0), .int .i64 ((rd_T37 l0 x10_0).f1.f1.f0), .int .i64 ((rd_T37 l0 x10_0).f1.f1.f1), .int .i64 ((rd_T37 l0 x10_0).f1.f2.f0), .int .i64 ((rd_T37 l0 x10_0).f1.f2.f1), .int .i64 ((rd_T37 l0 x10_0).f1.f3), .int .i64 ((rd_T37 l0 x10_0).f1.f4)], .agg #[.int .i64 ((rd_T44 l1 x13_1).f7.f0), .int .i64 ((rd_T44 l1 x13_1).f7.f1)]] (by rfl) rfl rfl (by (try simp only [List.map_toArray, List.map_cons, List.map_nil]); first | done | rfl | (simp; done)) ?_
                              (with_reducible refine (barrowref32_In.calls k2 _ _ _ _ _ _ _ _ _ _ _  Hc9.out).mono ?_)
                              rintro e_ w22 ⟨rfl, hb_⟩
                              refine ⟨_, rfl, ?_⟩
                              replace HS := Aside0.mk (HS.out.below hb_)
                              replace HK := Aside0.mk (HK.out.trans (Keep.below hb_))
                              refine hK.out _ _ ⟨(((blk_cell (SL.at_ (SL.get1 HS.out)) 1).trans rfl)), (((blk_cell (SL.at_ (SL.get1 HS.out)) 2).trans rfl)), (((blk_cell (SL.at_ (SL.get1 HS.out)) 3).trans rfl)), (((blk_cell (SL.at_ (SL.get1 HS.out)) 4).trans rfl)), (((blk_cell (SL.at_ (SL.get1 HS.out)) 5).trans rfl)), (((blk_cell (SL.at_ (SL.get1 HS.out)) 6).trans rfl)), (((blk_cell (SL.at_ (SL.get1 HS.out)) 7).trans rfl)), (by obtain ⟨a_, e_, h0_, h1_, h2_, h3_, h4_, h5_, h6_, h7_, h8_, h9_⟩ := at_T44 (RO.at_ HR1.out HK.out) x13_1 (of_eq_true pq441) (of_eq_true qq441); obtain rfl := Option.some.inj e_; exact h0_), (by obtain ⟨a_, e_, h0_, h1_, h2_, h3_, h4_, h5_, h6_, h7_, h8_, h9_⟩ := at_T44 (RO.at_ HR1.out HK.out) x13_1 (of_eq_true pq441) (of_eq_true qq441); obtain rfl := Option.some.inj e_; exact h1_), (by obtain ⟨a_, e_, h0_, h1_, h2_, h3_, h4_, h5_, h6_, h7_, h8_, h9_⟩ := at_T44 (RO.at_ HR1.out HK.out) x13_1 (of_eq_true pq441) (of_eq_true qq441); obtain rfl := Option.some.inj e_; exact h2_), (by obtain ⟨a_, e_, h0_, h1_, h2_, h3_, h4_, h5_, h6_, h7_, h8_, h9_⟩ := at_T44 (RO.at_ HR1.out HK.out) x13_1 (of_eq_true pq441) (of_eq_true qq441); obtain rfl := Option.some.inj e_; exact h3_), (by obtain ⟨a_, e_, h0_, h1_, h2_, h3_, h4_, h5_, h6_, h7_, h8_, h9_⟩ := at_T44 (RO.at_ HR1.out HK.out) x13_1 (of_eq_true pq441) (of_eq_true qq441); obtain rfl := Option.some.inj e_; exact h4_), (by obtain ⟨a_, e_, h0_, h1_, h2_, h3_, h4_, h5_, h6_, h7_, h8_, h9_⟩ := at_T44 (RO.at_ HR1.out HK.out) x13_1 (of_eq_true pq441) (of_eq_true qq441); obtain rfl := Option.some.inj e_; exact h5_), (by obtain ⟨a_, e_, h0_, h1_, h2_, h3_, h4_, h5_, h6_, h7_, h8_, h9_⟩ := at_T44 (RO.at_ HR1.out HK.out) x13_1 (of_eq_true pq441) (of_eq_true qq441); obtain rfl := Option.some.inj e_; exact h6_), (by obtain ⟨a_, e_, h0_, h1_, h2_, h3_, h4_, h5_, h6_, h7_, h8_, h9_⟩ := at_T44 (RO.at_ HR1.out HK.out) x13_1 (of_eq_true pq441) (of_eq_true qq441); obtain rfl := Option.some.inj e_; exact h7_), (by obtain ⟨a_, e_, h0_, h1_, h2_, h3_, h4_, h5_, h6_, h7_, h8_, h9_⟩ := at_T44 (RO.at_ HR1.out HK.out) x13_1 (of_eq_true pq441) (of_eq_true qq441); obtain rfl := Option.some.inj e_; exact h8_), (by obtain ⟨a_, e_, h0_, h1_, h2_, h3_, h4_, h5_, h6_, h7_, h8_, h9_⟩ := at_T44 (RO.at_ HR1.out HK.out) x13_1 (of_eq_true pq441) (of_eq_true qq441); obtain rfl := Option.some.inj e_; exact h9_)⟩ (fun hHeld => ?_)
                              clear hK K
                              refine norm_ (a' := ?_) ?_ ?_; rotate_left
                              · show Act.put _ (some 52) _ = _
                                simp only [Act.put, sT, sZ, sS, i64_w, i32_w]
                                rfl
                              refine pure_ (i := 8) (N := some 14) (v := ?_) (a' := ?_) #[true, true, true, true, true, true, true, true, true] rfl rfl (any_of HT_.out (by kernel_rfl)) (fun _ _ _ h => h) (Or.inl ⟨by rfl, ?_⟩) ?_ ?_; rotate_left; · (intro w'; go_simp; with_reducible rfl)
                              rotate_left; · (simp only [Act.put, sT, sZ, sS, i64_w, i32_w]; rfl)
                              refine done_ (done_of HT_.out (by kernel_rfl)) ?_
                              try go_wp2
                              have pq443 : 0 ≤ (x13_1 : Int) := of_decide_eq_true (by first | (with_reducible assumption) | assumption)
                              have qq443 : x13_1 < ((l1.length : Int) : Int) := of_decide_eq_true (by first | (with_reducible assumption) | assumption)
                              obtain ⟨adq443, eq443, hxq443_0, hxq443_1, hxq443_2, hxq443_3, hxq443_4, hxq443_5, hxq443_6, hxq443_7, hxq443_8, hxq443_9⟩ := at_T44 (RO.at_ HR1.out HK.out) x13_1 pq443 qq443
                              obtain rfl : adq441 = adq443 := (by injection eq443)
                              replace pq443 := eq_true pq443
                              replace qq443 := eq_true qq443
                              have pq449 : 0 ≤ (x13_1 : Int) := of_decide_eq_true (by first | (with_reducible assumption) | assumption)
                              have qq449 : x13_1 < ((l1.length : Int) : Int) := of_decide_eq_true (by first | (with_reducible assumption) | assumption)
                              obtain ⟨adq449, eq449, hxq449_0, hxq449_1, hxq449_2, hxq449_3, hxq449_4, hxq449_5, hxq449_6, hxq449_7, hxq449_8, hxq449_9⟩ := at_T44 (RO.at_ HR1.out HK.out) x13_1 pq449 qq449
                              obtain rfl : adq441 = adq449 := (by injection eq449)
                              replace pq449 := eq_true pq449
                              replace qq449 := eq_true qq449
                              refine start_ (n := 24) (S := fun w' => w'.cell? (adq441.add (x13_1.toNat * 10)) = some (.int .i64 ((rd_T44 l1 x13_1).f0)) ∧ w'.cell? ⟨(adq441.add (x13_1.toNat * 10)).block, (adq441.add (x13_1.toNat * 10)).off + 1, none⟩ = some (.int .i64 ((rd_T44 l1 x13_1).f1)) ∧ w'.cell? ⟨(adq441.add (x13_1.toNat * 10)).block, (adq441.add (x13_1.toNat * 10)).off + 2, none⟩ = some (.int .i64 ((rd_T44 l1 x13_1).f2)) ∧ w'.cell? ⟨(adq441.add (x13_1.toNat * 10)).block, (adq441.add (x13_1.toNat * 10)).off + 3, none⟩ = some (.int .i64 ((rd_T44 l1 x13_1).f3)) ∧ w'.cell? ⟨(adq441.add (x13_1.toNat * 10)).block, (adq441.add (x13_1.toNat * 10)).off + 4, none⟩ = some (.int .i64 ((rd_T44 l1 x13_1).f4)) ∧ w'.cell? ⟨(adq441.add (x13_1.toNat * 10)).block, (adq441.add (x13_1.toNat * 10)).off + 5, none⟩ = some (.int .i64 ((rd_T44 l1 x13_1).f5)) ∧ w'.cell? ⟨(adq441.add (x13_1.toNat * 10)).block, (adq441.add (x13_1.toNat * 10)).off + 6, none⟩ = some (.int .i64 ((rd_T44 l1 x13_1).f6)) ∧ w'.cell? ⟨(adq441.add (x13_1.toNat * 10)).block, (adq441.add (x13_1.toNat * 10)).off + 7, none⟩ = some (.int .i64 ((rd_T44 l1 x13_1).f7.f0)) ∧ w'.cell? ⟨(adq441.add (x13_1.toNat * 10)).block, (adq441.add (x13_1.toNat * 10)).off + 8, none⟩ = some (.int .i64 ((rd_T44 l1 x13_1).f7.f1)) ∧ w'.cell? ⟨(adq441.add (x13_1.toNat * 10)).block, (adq441.add (x13_1.toNat * 10)).off + 9, none⟩ = some (.int .i64 ((rd_T44 l1 x13_1).f8)) ∧ w'.cell? ⟨g3000050, 15, none⟩ = some (.int .i64 ((rd_T37 l0 x10_0).f7)) ∧ w'.cell? (adq441.add (x13_1.toNat * 10)) = some (.int .i64 ((rd_T44 l1 x13_1).f0)) ∧ w'.cell? ⟨(adq441.add (x13_1.toNat * 10)).block, (adq441.add (x13_1.toNat * 10)).off + 1, none⟩ = some (.int .i64 ((rd_T44 l1 x13_1).f1)) ∧ w'.cell? ⟨(adq441.add (x13_1.toNat * 10)).block, (adq441.add (x13_1.toNat * 10)).off + 2, none⟩ = some (.int .i64 ((rd_T44 l1 x13_1).f2)) ∧ w'.cell? ⟨(adq441.add (x13_1.toNat * 10)).block, (adq441.add (x13_1.toNat * 10)).off + 3, none⟩ = some (.int .i64 ((rd_T44 l1 x13_1).f3)) ∧ w'.cell? ⟨(adq441.add (x13_1.toNat * 10)).block, (adq441.add (x13_1.toNat * 10)).off + 4, none⟩ = some (.int .i64 ((rd_T44 l1 x13_1).f4)) ∧ w'.cell? ⟨(adq441.add (x13_1.toNat * 10)).block, (adq441.add (x13_1.toNat * 10)).off + 5, none⟩ = some (.int .i64 ((rd_T44 l1 x13_1).f5)) ∧ w'.cell? ⟨(adq441.add (x13_1.toNat * 10)).block, (adq441.add (x13_1.toNat * 10)).off + 6, none⟩ = some (.int .i64 ((rd_T44 l1 x13_1).f6)) ∧ w'.cell? ⟨(adq441.add (x13_1.toNat * 10)).block, (adq441.add (x13_1.toNat * 10)).off + 7, none⟩ = some (.int .i64 ((rd_T44 l1 x13_1).f7.f0)) ∧ w'.cell? ⟨(adq441.add (x13_1.toNat * 10)).block, (adq441.add (x13_1.toNat * 10)).off + 8, none⟩ = some (.int .i64 ((rd_T44 l1 x13_1).f7.f1)) ∧ w'.cell? ⟨(adq441.add (x13_1.toNat * 10)).block, (adq441.add (x13_1.toNat * 10)).off + 9, none⟩ = some (.int .i64 ((rd_T44 l1 x13_1).f8))) (ds := []) #[false, false, false, false, false, false, false, false, false, false, false, false, false, false, false, false, false, false, false, false, false, false, false, false] (by kernel_rfl) rfl rfl ⟨(by obtain ⟨a_, e_, h0_, h1_, h2_, h3_, h4_, h5_, h6_, h7_, h8_, h9_⟩ := at_T44 (RO.at_ HR1.out HK.out) x13_1 (of_eq_true pq443) (of_eq_true qq443); obtain rfl := Option.some.inj e_; exact h0_), (by obtain ⟨a_, e_, h0_, h1_, h2_, h3_, h4_, h5_, h6_, h7_, h8_, h9_⟩ := at_T44 (RO.at_ HR1.out HK.out) x13_1 (of_eq_true pq443) (of_eq_true qq443); obtain rfl := Option.some.inj e_; exact h1_), (by obtain ⟨a_, e_, h0_, h1_, h2_, h3_, h4_, h5_, h6_, h7_, h8_, h9_⟩ := at_T44 (RO.at_ HR1.out HK.out) x13_1 (of_eq_true pq443) (of_eq_true qq443); obtain rfl := Option.some.inj e_; exact h2_), (by obtain ⟨a_, e_, h0_, h1_, h2_, h3_, h4_, h5_, h6_, h7_, h8_, h9_⟩ := at_T44 (RO.at_ HR1.out HK.out) x13_1 (of_eq_true pq443) (of_eq_true qq443); obtain rfl := Option.some.inj e_; exact h3_), (by obtain ⟨a_, e_, h0_, h1_, h2_, h3_, h4_, h5_, h6_, h7_, h8_, h9_⟩ := at_T44 (RO.at_ HR1.out HK.out) x13_1 (of_eq_true pq443) (of_eq_true qq443); obtain rfl := Option.some.inj e_; exact h4_), (by obtain ⟨a_, e_, h0_, h1_, h2_, h3_, h4_, h5_, h6_, h7_, h8_, h9_⟩ := at_T44 (RO.at_ HR1.out HK.out) x13_1 (of_eq_true pq443) (of_eq_true qq443); obtain rfl := Option.some.inj e_; exact h5_), (by obtain ⟨a_, e_, h0_, h1_, h2_, h3_, h4_, h5_, h6_, h7_, h8_, h9_⟩ := at_T44 (RO.at_ HR1.out HK.out) x13_1 (of_eq_true pq443) (of_eq_true qq443); obtain rfl := Option.some.inj e_; exact h6_), (by obtain ⟨a_, e_, h0_, h1_, h2_, h3_, h4_, h5_, h6_, h7_, h8_, h9_⟩ := at_T44 (RO.at_ HR1.out HK.out) x13_1 (of_eq_true pq443) (of_eq_true qq443); obtain rfl := Option.some.inj e_; exact h7_), (by obtain ⟨a_, e_, h0_, h1_, h2_, h3_, h4_, h5_, h6_, h7_, h8_, h9_⟩ := at_T44 (RO.at_ HR1.out HK.out) x13_1 (of_eq_true pq443) (of_eq_true qq443); obtain rfl := Option.some.inj e_; exact h8_), (by obtain ⟨a_, e_, h0_, h1_, h2_, h3_, h4_, h5_, h6_, h7_, h8_, h9_⟩ := at_T44 (RO.at_ HR1.out HK.out) x13_1 (of_eq_true pq443) (of_eq_true qq443); obtain rfl := Option.some.inj e_; exact h9_), (((blk_cell (SL.at_ (SL.get1 HS.out)) 15).trans rfl)), (by obtain ⟨a_, e_, h0_, h1_, h2_, h3_, h4_, h5_, h6_, h7_, h8_, h9_⟩ := at_T44 (RO.at_ HR1.out HK.out) x13_1 (of_eq_true pq449) (of_eq_true qq449); obtain rfl := Option.some.inj e_; exact h0_), (by obtain ⟨a_, e_, h0_, h1_, h2_, h3_, h4_, h5_, h6_, h7_, h8_, h9_⟩ := at_T44 (RO.at_ HR1.out HK.out) x13_1 (of_eq_true pq449) (of_eq_true qq449); obtain rfl := Option.some.inj e_; exact h1_), (by obtain ⟨a_, e_, h0_, h1_, h2_, h3_, h4_, h5_, h6_, h7_, h8_, h9_⟩ := at_T44 (RO.at_ HR1.out HK.out) x13_1 (of_eq_true pq449) (of_eq_true qq449); obtain rfl := Option.some.inj e_; exact h2_), (by obtain ⟨a_, e_, h0_, h1_, h2_, h3_, h4_, h5_, h6_, h7_, h8_, h9_⟩ := at_T44 (RO.at_ HR1.out HK.out) x13_1 (of_eq_true pq449) (of_eq_true qq449); obtain rfl := Option.some.inj e_; exact h3_), (by obtain ⟨a_, e_, h0_, h1_, h2_, h3_, h4_, h5_, h6_, h7_, h8_, h9_⟩ := at_T44 (RO.at_ HR1.out HK.out) x13_1 (of_eq_true pq449) (of_eq_true qq449); obtain rfl := Option.some.inj e_; exact h4_), (by obtain ⟨a_, e_, h0_, h1_, h2_, h3_, h4_, h5_, h6_, h7_, h8_, h9_⟩ := at_T44 (RO.at_ HR1.out HK.out) x13_1 (of_eq_true pq449) (of_eq_true qq449); obtain rfl := Option.some.inj e_; exact h5_), (by obtain ⟨a_, e_, h0_, h1_, h2_, h3_, h4_, h5_, h6_, h7_, h8_, h9_⟩ := at_T44 (RO.at_ HR1.out HK.out) x13_1 (of_eq_true pq449) (of_eq_true qq449); obtain rfl := Option.some.inj e_; exact h6_), (by obtain ⟨a_, e_, h0_, h1_, h2_, h3_, h4_, h5_, h6_, h7_, h8_, h9_⟩ := at_T44 (RO.at_ HR1.out HK.out) x13_1 (of_eq_true pq449) (of_eq_true qq449); obtain rfl := Option.some.inj e_; exact h7_), (by obtain ⟨a_, e_, h0_, h1_, h2_, h3_, h4_, h5_, h6_, h7_, h8_, h9_⟩ := at_T44 (RO.at_ HR1.out HK.out) x13_1 (of_eq_true pq449) (of_eq_true qq449); obtain rfl := Option.some.inj e_; exact h8_), (by obtain ⟨a_, e_, h0_, h1_, h2_, h3_, h4_, h5_, h6_, h7_, h8_, h9_⟩ := at_T44 (RO.at_ HR1.out HK.out) x13_1 (of_eq_true pq449) (of_eq_true qq449); obtain rfl := Option.some.inj e_; exact h9_)⟩ (fun hHeld => ?_); refine with_tabW barrowref33_Tick.tab12 barrowref33_Tick.bits12 (fun HT_ HW_ => ?_)
                              replace HK := Aside0.mk (Keep.drew HK.out)
                              replace HS := Aside0.mk (SL.drew HS.out)
                              refine pure_ (i := 0) (N := some 53) (v := ?_) (a' := ?_) #[true, false, false, false, false, false, false, false, false, false, false, false, false, false, false, false, false, false, false, false, false, false, false, false] rfl rfl (any_of HT_.out (by kernel_rfl)) (fun _ _ _ h => h) (Or.inl ⟨by rfl, ?_⟩) ?_ ?_; rotate_left; · (intro w'; go_simp; with_reducible rfl)
                              rotate_left; · (simp only [Act.put, sT, sZ, sS, i64_w, i32_w]; rfl)
                              refine pure_ (i := 1) (N := some 54) (v := ?_) (a' := ?_) #[true, true, false, false, false, false, false, false, false, false, false, false, false, false, false, false, false, false, false, false, false, false, false, false] rfl rfl (any_of HT_.out (by kernel_rfl)) (fun _ _ _ h => h) (Or.inl ⟨by rfl, ?_⟩) ?_ ?_; rotate_left; · (intro w'; go_simp; with_reducible rfl)
                              rotate_left; · (simp only [Act.put, sT, sZ, sS, i64_w, i32_w]; rfl)
                              refine pure_ (i := 2) (N := some 55) (v := ?_) (a' := ?_) #[true, true, true, false, false, false, false, false, false, false, false, false, false, false, false, false, false, false, false, false, false, false, false, false] rfl rfl (any_of HT_.out (by kernel_rfl)) (fun _ _ _ h => h) (Or.inl ⟨by rfl, ?_⟩) ?_ ?_; rotate_left; · (intro w'; go_simp; with_reducible rfl)
                              rotate_left; · (simp only [Act.put, sT, sZ, sS, i64_w, i32_w]; rfl)
                              refine pure_ (i := 3) (N := some 56) (v := ?_) (a' := ?_) #[true, true, true, true, false, false, false, false, false, false, false, false, false, false, false, false, false, false, false, false, false, false, false, false] rfl rfl (any_of HT_.out (by kernel_rfl)) (fun _ _ _ h => h) (Or.inl ⟨by rfl, ?_⟩) ?_ ?_; rotate_left; · (intro w'; go_simp; with_reducible rfl)
                              rotate_left; · (simp only [Act.put, sT, sZ, sS, i64_w, i32_w]; rfl)
                              refine pure_ (i := 4) (N := some 57) (v := ?_) (a' := ?_) #[true, true, true, true, true, false, false, false, false, false, false, false, false, false, false, false, false, false, false, false, false, false, false, false] rfl rfl (any_of HT_.out (by kernel_rfl)) (fun _ _ _ h => h) (Or.inl ⟨by rfl, ?_⟩) ?_ ?_; rotate_left; · (intro w'; go_simp; with_reducible rfl)
                              rotate_left; · (simp only [Act.put, sT, sZ, sS, i64_w, i32_w]; rfl)
                              refine pure_ (i := 5) (N := some 58) (v := ?_) (a' := ?_) #[true, true, true, true, true, true, false, false, false, false, false, false, false, false, false, false, false, false, false, false, false, false, false, false] rfl rfl (any_of HT_.out (by kernel_rfl)) (fun _ _ _ h => h) (Or.inl ⟨by rfl, ?_⟩) ?_ ?_; rotate_left; · (intro w'; go_simp; with_reducible rfl)
                              rotate_left; · (simp only [Act.put, sT, sZ, sS, i64_w, i32_w]; rfl)
                              refine take_ (i := 6) (N := some 59) (v := ?_) (a' := ?_) #[true, true, true, true, true, true, true, false, false, false, false, false, false, false, false, false, false, false, false, false, false, false, false, false] rfl rfl (take_ofW HT_.out HW_.out (by kernel_rfl)) (fun _ _ _ h => h) (Or.inl ⟨by rfl, ?_⟩) hHeld ?_ ?_; rotate_left
                              · rintro w' ⟨s0, s1, s2, s3, s4, s5, s6, s7, s8, s9, s10, s11, s12, s13, s14, s15, s16, s17, s18, s19, s20⟩
                                go_simp
                                with_reducible rfl
                              rotate_left; · (simp only [Act.put, sT, sZ, sS, i64_w, i32_w]; rfl)
                              refine pure_ (i := 7) (N := some 60) (v := ?_) (a' := ?_) #[true, true, true, true, true, true, true, true, false, false, false, false, false, false, false, false, false, false, false, false, false, false, false, false] rfl rfl (any_of HT_.out (by kernel_rfl)) (fun _ _ _ h => h) (Or.inl ⟨by rfl, ?_⟩) ?_ ?_; rotate_left; · (intro w'; go_simp; with_reducible rfl)
                              rotate_left; · (simp only [Act.put, sT, sZ, sS, i64_w, i32_w]; rfl)
                              refine pure_ (i := 8) (N := some 61) (v := ?_) (a' := ?_) #[true, true, true, true, true, true, true, true, true, false, false, false, false, false, false, false, false, false, false, false, false, false, false, false] rfl rfl (any_of HT_.out (by kernel_rfl)) (fun _ _ _ h => h) (Or.inl ⟨by rfl, ?_⟩) ?_ ?_; rotate_left; · (intro w'; go_simp; with_reducible rfl)
                              rotate_left; · (simp only [Act.put, sT, sZ, sS, i64_w, i32_w]; rfl)
                              refine pure_ (i := 9) (N := some 62) (v := ?_) (a' := ?_) #[true, true, true, true, true, true, true, true, true, true, false, false, false, false, false, false, false, false, false, false, false, false, false, false] rfl rfl (any_of HT_.out (by kernel_rfl)) (fun _ _ _ h => h) (Or.inl ⟨by rfl, ?_⟩) ?_ ?_; rotate_left; · (intro w'; go_simp; with_reducible rfl)
                              rotate_left; · (simp only [Act.put, sT, sZ, sS, i64_w, i32_w]; rfl)
                              refine pure_ (i := 10) (N := some 63) (v := ?_) (a' := ?_) #[true, true, true, true, true, true, true, true, true, true, true, false, false, false, false, false, false, false, false, false, false, false, false, false] rfl rfl (any_of HT_.out (by kernel_rfl)) (fun _ _ _ h => h) (Or.inl ⟨by rfl, ?_⟩) ?_ ?_; rotate_left; · (intro w'; go_simp; with_reducible rfl)
                              rotate_left; · (simp only [Act.put, sT, sZ, sS, i64_w, i32_w]; rfl)
                              refine take_ (i := 11) (N := some 64) (v := ?_) (a' := ?_) #[true, true, true, true, true, true, true, true, true, true, true, true, false, false, false, false, false, false, false, false, false, false, false, false] rfl rfl (take_ofW HT_.out HW_.out (by kernel_rfl)) (fun _ _ _ h => h) (Or.inl ⟨by rfl, ?_⟩) hHeld ?_ ?_; rotate_left
                              · rintro w' ⟨s0, s1, s2, s3, s4, s5, s6, s7, s8, s9, s10, s11, s12, s13, s14, s15, s16, s17, s18, s19, s20⟩
                                go_simp
                                with_reducible rfl
                              rotate_left; · (simp only [Act.put, sT, sZ, sS, i64_w, i32_w]; rfl)
                              refine pure_ (i := 12) (N := some 65) (v := ?_) (a' := ?_) #[true, true, true, true, true, true, true, true, true, true, true, true, true, false, false, false, false, false, false, false, false, false, false, false] rfl rfl (any_of HT_.out (by kernel_rfl)) (fun _ _ _ h => h) (Or.inl ⟨by rfl, ?_⟩) ?_ ?_; rotate_left; · (intro w'; go_simp; with_reducible rfl)
                              rotate_left; · (simp only [Act.put, sT, sZ, sS, i64_w, i32_w]; rfl)
                              refine pure_ (i := 13) (N := some 66) (v := ?_) (a' := ?_) #[true, true, true, true, true, true, true, true, true, true, true, true, true, true, false, false, false, false, false, false, false, false, false, false] rfl rfl (any_of HT_.out (by kernel_rfl)) (fun _ _ _ h => h) (Or.inl ⟨by rfl, ?_⟩) ?_ ?_; rotate_left; · (intro w'; go_simp; with_reducible rfl)
                              rotate_left; · (simp only [Act.put, sT, sZ, sS, i64_w, i32_w]; rfl)
                              refine pure_ (i := 14) (N := some 67) (v := ?_) (a' := ?_) #[true, true, true, true, true, true, true, true, true, true, true, true, true, true, true, false, false, false, false, false, false, false, false, false] rfl rfl (any_of HT_.out (by kernel_rfl)) (fun _ _ _ h => h) (Or.inl ⟨by rfl, ?_⟩) ?_ ?_; rotate_left; · (intro w'; go_simp; with_reducible rfl)
                              rotate_left; · (simp only [Act.put, sT, sZ, sS, i64_w, i32_w]; rfl)
                              refine pure_ (i := 16) (N := some 69) (v := ?_) (a' := ?_) #[true, true, true, true, true, true, true, true, true, true, true, true, true, true, true, false, true, false, false, false, false, false, false, false] rfl rfl (any_of HT_.out (by kernel_rfl)) (fun _ _ _ h => h) (Or.inl ⟨by rfl, ?_⟩) ?_ ?_; rotate_left; · (intro w'; go_simp; with_reducible rfl)
                              rotate_left; · (simp only [Act.put, sT, sZ, sS, i64_w, i32_w]; rfl)
                              refine pure_ (i := 17) (N := some 70) (v := ?_) (a' := ?_) #[true, true, true, true, true, true, true, true, true, true, true, true, true, true, true, false, true, true, false, false, false, false, false, false] rfl rfl (any_of HT_.out (by kernel_rfl)) (fun _ _ _ h => h) (Or.inl ⟨by rfl, ?_⟩) ?_ ?_; rotate_left; · (intro w'; go_simp; with_reducible rfl)
                              rotate_left; · (simp only [Act.put, sT, sZ, sS, i64_w, i32_w]; rfl)
                              refine pure_ (i := 18) (N := some 71) (v := ?_) (a' := ?_) #[true, true, true, true, true, true, true, true, true, true, true, true, true, true, true, false, true, true, true, false, false, false, false, false] rfl rfl (any_of HT_.out (by kernel_rfl)) (fun _ _ _ h => h) (Or.inl ⟨by rfl, ?_⟩) ?_ ?_; rotate_left; · (intro w'; go_simp; with_reducible rfl)
                              rotate_left; · (simp only [Act.put, sT, sZ, sS, i64_w, i32_w]; rfl)
                              refine pure_ (i := 19) (N := some 72) (v := ?_) (a' := ?_) #[true, true, true, true, true, true, true, true, true, true, true, true, true, true, true, false, true, true, true, true, false, false, false, false] rfl rfl (any_of HT_.out (by kernel_rfl)) (fun _ _ _ h => h) (Or.inl ⟨by rfl, ?_⟩) ?_ ?_; rotate_left; · (intro w'; go_simp; with_reducible rfl)
                              rotate_left; · (simp only [Act.put, sT, sZ, sS, i64_w, i32_w]; rfl)
                              refine take_ (i := 15) (N := some 68) (v := ?_) (a' := ?_) #[true, true, true, true, true, true, true, true, true, true, true, true, true, true, true, true, true, true, true, true, false, false, false, false] rfl rfl (take_ofW HT_.out HW_.out (by kernel_rfl)) (fun _ _ _ h => h) (Or.inl ⟨by rfl, ?_⟩) hHeld ?_ ?_; rotate_left
                              · rintro w' ⟨s0, s1, s2, s3, s4, s5, s6, s7, s8, s9, s10, s11, s12, s13, s14, s15, s16, s17, s18, s19, s20⟩
                                go_simp
                                with_reducible rfl
                              rotate_left; · (simp only [Act.put, sT, sZ, sS, i64_w, i32_w]; rfl)
                              refine take_ (i := 20) (N := some 73) (v := ?_) (a' := ?_) #[true, true, true, true, true, true, true, true, true, true, true, true, true, true, true, true, true, true, true, true, true, false, false, false] rfl rfl (take_ofW HT_.out HW_.out (by kernel_rfl)) (fun _ _ _ h => h) (Or.inl ⟨by rfl, ?_⟩) hHeld ?_ ?_; rotate_left
                              · rintro w' ⟨s0, s1, s2, s3, s4, s5, s6, s7, s8, s9, s10, s11, s12, s13, s14, s15, s16, s17, s18, s19, s20⟩
                                go_simp
                                with_reducible rfl
                              rotate_left; · (simp only [Act.put, sT, sZ, sS, i64_w, i32_w]; rfl)
                              refine pure_ (i := 21) (N := some 74) (v := ?_) (a' := ?_) #[true, true, true, true, true, true, true, true, true, true, true, true, true, true, true, true, true, true, true, true, true, true, false, false] rfl rfl (any_of HT_.out (by kernel_rfl)) (fun _ _ _ h => h) (Or.inl ⟨by rfl, ?_⟩) ?_ ?_; rotate_left; · (intro w'; go_simp; with_reducible rfl)
                              rotate_left; · (simp only [Act.put, sT, sZ, sS, i64_w, i32_w]; rfl)
                              refine pure_ (i := 22) (N := some 75) (v := ?_) (a' := ?_) #[true, true, true, true, true, true, true, true, true, true, true, true, true, true, true, true, true, true, true, true, true, true, true, false] rfl rfl (any_of HT_.out (by kernel_rfl)) (fun _ _ _ h => h) (Or.inl ⟨by rfl, ?_⟩) ?_ ?_; rotate_left; · (intro w'; go_simp; with_reducible rfl)
                              rotate_left; · (simp only [Act.put, sT, sZ, sS, i64_w, i32_w]; rfl)
                              refine pure_ (i := 23) (N := some 76) (v := ?_) (a' := ?_) #[true, true, true, true, true, true, true, true, true, true, true, true, true, true, true, true, true, true, true, true, true, true, true, true] rfl rfl (any_of HT_.out (by kernel_rfl)) (fun _ _ _ h => h) (Or.inl ⟨by rfl, ?_⟩) ?_ ?_; rotate_left; · (intro w'; go_simp; with_reducible rfl)
                              rotate_left; · (simp only [Act.put, sT, sZ, sS, i64_w, i32_w]; rfl)
                              refine done_ (done_of HT_.out (by kernel_rfl)) ?_
                              try go_wp2
                              go_roundg k2
                              case measure => have := HQ1.out; have := HQ2.out; omega
                              case rel => exact ⟨(x9_1), (Ax9_1), (cx9_1), (wrap64 (x13_1 + 1)), (by first | rfl | (simp; done) | (simp [*]; done)), (by first | rfl | (simp; done) | (simp [*]; done)), H', ⟨by have := HQ1.out; have := HQ2.out; omega⟩, HS, HK⟩
                        · rw [if_neg c11] at H
                          have c11b0 : decide (0 < ((rd_T44 l1 x13_1).f3)) = false := decide_eq_false c11
                          clear c11
                          have H' := Aside0.mk H
                          clear H
                          try go_wp2
                          have pq441 : 0 ≤ (x13_1 : Int) := of_decide_eq_true (by first | (with_reducible assumption) | assumption)
                          have qq441 : x13_1 < ((l1.length : Int) : Int) := of_decide_eq_true (by first | (with_reducible assumption) | assumption)
                          obtain ⟨adq441, eq441, hxq441_0, hxq441_1, hxq441_2, hxq441_3, hxq441_4, hxq441_5, hxq441_6, hxq441_7, hxq441_8, hxq441_9⟩ := at_T44 (RO.at_ HR1.out HK.out) x13_1 pq441 qq441
                          cases eq441
                          replace pq441 := eq_true pq441
                          replace qq441 := eq_true qq441
                          refine start_ (n := 9) (S := fun w' => w'.cell? ⟨g3000050, 1, none⟩ = some (.int .i64 ((rd_T37 l0 x10_0).f1.f0)) ∧ w'.cell? ⟨g3000050, 2, none⟩ = some (.int .i64 ((rd_T37 l0 x10_0).f1.f1.f0)) ∧ w'.cell? ⟨g3000050, 3, none⟩ = some (.int .i64 ((rd_T37 l0 x10_0).f1.f1.f1)) ∧ w'.cell? ⟨g3000050, 4, none⟩ = some (.int .i64 ((rd_T37 l0 x10_0).f1.f2.f0)) ∧ w'.cell? ⟨g3000050, 5, none⟩ = some (.int .i64 ((rd_T37 l0 x10_0).f1.f2.f1)) ∧ w'.cell? ⟨g3000050, 6, none⟩ = some (.int .i64 ((rd_T37 l0 x10_0).f1.f3)) ∧ w'.cell? ⟨g3000050, 7, none⟩ = some (.int .i64 ((rd_T37 l0 x10_0).f1.f4)) ∧ w'.cell? (adq441.add (x13_1.toNat * 10)) = some (.int .i64 ((rd_T44 l1 x13_1).f0)) ∧ w'.cell? ⟨(adq441.add (x13_1.toNat * 10)).block, (adq441.add (x13_1.toNat * 10)).off + 1, none⟩ = some (.int .i64 ((rd_T44 l1 x13_1).f1)) ∧ w'.cell? ⟨(adq441.add (x13_1.toNat * 10)).block, (adq441.add (x13_1.toNat * 10)).off + 2, none⟩ = some (.int .i64 ((rd_T44 l1 x13_1).f2)) ∧ w'.cell? ⟨(adq441.add (x13_1.toNat * 10)).block, (adq441.add (x13_1.toNat * 10)).off + 3, none⟩ = some (.int .i64 ((rd_T44 l1 x13_1).f3)) ∧ w'.cell? ⟨(adq441.add (x13_1.toNat * 10)).block, (adq441.add (x13_1.toNat * 10)).off + 4, none⟩ = some (.int .i64 ((rd_T44 l1 x13_1).f4)) ∧ w'.cell? ⟨(adq441.add (x13_1.toNat * 10)).block, (adq441.add (x13_1.toNat * 10)).off + 5, none⟩ = some (.int .i64 ((rd_T44 l1 x13_1).f5)) ∧ w'.cell? ⟨(adq441.add (x13_1.toNat * 10)).block, (adq441.add (x13_1.toNat * 10)).off + 6, none⟩ = some (.int .i64 ((rd_T44 l1 x13_1).f6)) ∧ w'.cell? ⟨(adq441.add (x13_1.toNat * 10)).block, (adq441.add (x13_1.toNat * 10)).off + 7, none⟩ = some (.int .i64 ((rd_T44 l1 x13_1).f7.f0)) ∧ w'.cell? ⟨(adq441.add (x13_1.toNat * 10)).block, (adq441.add (x13_1.toNat * 10)).off + 8, none⟩ = some (.int .i64 ((rd_T44 l1 x13_1).f7.f1)) ∧ w'.cell? ⟨(adq441.add (x13_1.toNat * 10)).block, (adq441.add (x13_1.toNat * 10)).off + 9, none⟩ = some (.int .i64 ((rd_T44 l1 x13_1).f8))) (ds := []) #[false, false, false, false, false, false, false, false, false] (by kernel_rfl) rfl rfl ⟨(((blk_cell (SL.at_ (SL.get1 HS.out)) 1).trans rfl)), (((blk_cell (SL.at_ (SL.get1 HS.out)) 2).trans rfl)), (((blk_cell (SL.at_ (SL.get1 HS.out)) 3).trans rfl)), (((blk_cell (SL.at_ (SL.get1 HS.out)) 4).trans rfl)), (((blk_cell (SL.at_ (SL.get1 HS.out)) 5).trans rfl)), (((blk_cell (SL.at_ (SL.get1 HS.out)) 6).trans rfl)), (((blk_cell (SL.at_ (SL.get1 HS.out)) 7).trans rfl)), (by obtain ⟨a_, e_, h0_, h1_, h2_, h3_, h4_, h5_, h6_, h7_, h8_, h9_⟩ := at_T44 (RO.at_ HR1.out HK.out) x13_1 (of_eq_true pq441) (of_eq_true qq441); obtain rfl := Option.some.inj e_; exact h0_), (by obtain ⟨a_, e_, h0_, h1_, h2_, h3_, h4_, h5_, h6_, h7_, h8_, h9_⟩ := at_T44 (RO.at_ HR1.out HK.out) x13_1 (of_eq_true pq441) (of_eq_true qq441); obtain rfl := Option.some.inj e_; exact h1_), (by obtain ⟨a_, e_, h0_, h1_, h2_, h3_, h4_, h5_, h6_, h7_, h8_, h9_⟩ := at_T44 (RO.at_ HR1.out HK.out) x13_1 (of_eq_true pq441) (of_eq_true qq441); obtain rfl := Option.some.inj e_; exact h2_), (by obtain ⟨a_, e_, h0_, h1_, h2_, h3_, h4_, h5_, h6_, h7_, h8_, h9_⟩ := at_T44 (RO.at_ HR1.out HK.out) x13_1 (of_eq_true pq441) (of_eq_true qq441); obtain rfl := Option.some.inj e_; exact h3_), (by obtain ⟨a_, e_, h0_, h1_, h2_, h3_, h4_, h5_, h6_, h7_, h8_, h9_⟩ := at_T44 (RO.at_ HR1.out HK.out) x13_1 (of_eq_true pq441) (of_eq_true qq441); obtain rfl := Option.some.inj e_; exact h4_), (by obtain ⟨a_, e_, h0_, h1_, h2_, h3_, h4_, h5_, h6_, h7_, h8_, h9_⟩ := at_T44 (RO.at_ HR1.out HK.out) x13_1 (of_eq_true pq441) (of_eq_true qq441); obtain rfl := Option.some.inj e_; exact h5_), (by obtain ⟨a_, e_, h0_, h1_, h2_, h3_, h4_, h5_, h6_, h7_, h8_, h9_⟩ := at_T44 (RO.at_ HR1.out HK.out) x13_1 (of_eq_true pq441) (of_eq_true qq441); obtain rfl := Option.some.inj e_; exact h6_), (by obtain ⟨a_, e_, h0_, h1_, h2_, h3_, h4_, h5_, h6_, h7_, h8_, h9_⟩ := at_T44 (RO.at_ HR1.out HK.out) x13_1 (of_eq_true pq441) (of_eq_true qq441); obtain rfl := Option.some.inj e_; exact h7_), (by obtain ⟨a_, e_, h0_, h1_, h2_, h3_, h4_, h5_, h6_, h7_, h8_, h9_⟩ := at_T44 (RO.at_ HR1.out HK.out) x13_1 (of_eq_true pq441) (of_eq_true qq441); obtain rfl := Option.some.inj e_; exact h8_), (by obtain ⟨a_, e_, h0_, h1_, h2_, h3_, h4_, h5_, h6_, h7_, h8_, h9_⟩ := at_T44 (RO.at_ HR1.out HK.out) x13_1 (of_eq_true pq441) (of_eq_true qq441); obtain rfl := Option.some.inj e_; exact h9_)⟩ (fun hHeld => ?_); refine with_tabW barrowref33_Tick.tab11 barrowref33_Tick.bits11 (fun HT_ HW_ => ?_)
                          replace HK := Aside0.mk (Keep.drew HK.out)
                          replace HS := Aside0.mk (SL.drew HS.out)
                          refine pure_ (i := 0) (N := some 45) (v := ?_) (a' := ?_) #[true, false, false, false, false, false, false, false, false] rfl rfl (any_of HT_.out (by kernel_rfl)) (fun _ _ _ h => h) (Or.inl ⟨by rfl, ?_⟩) ?_ ?_; rotate_left; · (intro w'; go_simp; with_reducible rfl)
                          rotate_left; · (simp only [Act.put, sT, sZ, sS, i64_w, i32_w]; rfl)
                          refine pure_ (i := 2) (N := some 47) (v := ?_) (a' := ?_) #[true, false, true, false, false, false, false, false, false] rfl rfl (any_of HT_.out (by kernel_rfl)) (fun _ _ _ h => h) (Or.inl ⟨by rfl, ?_⟩) ?_ ?_; rotate_left; · (intro w'; go_simp; with_reducible rfl)
                          rotate_left; · (simp only [Act.put, sT, sZ, sS, i64_w, i32_w]; rfl)
                          refine pure_ (i := 3) (N := some 48) (v := ?_) (a' := ?_) #[true, false, true, true, false, false, false, false, false] rfl rfl (any_of HT_.out (by kernel_rfl)) (fun _ _ _ h => h) (Or.inl ⟨by rfl, ?_⟩) ?_ ?_; rotate_left; · (intro w'; go_simp; with_reducible rfl)
                          rotate_left; · (simp only [Act.put, sT, sZ, sS, i64_w, i32_w]; rfl)
                          refine pure_ (i := 4) (N := some 49) (v := ?_) (a' := ?_) #[true, false, true, true, true, false, false, false, false] rfl rfl (any_of HT_.out (by kernel_rfl)) (fun _ _ _ h => h) (Or.inl ⟨by rfl, ?_⟩) ?_ ?_; rotate_left; · (intro w'; go_simp; with_reducible rfl)
                          rotate_left; · (simp only [Act.put, sT, sZ, sS, i64_w, i32_w]; rfl)
                          refine pure_ (i := 5) (N := some 50) (v := ?_) (a' := ?_) #[true, false, true, true, true, true, false, false, false] rfl rfl (any_of HT_.out (by kernel_rfl)) (fun _ _ _ h => h) (Or.inl ⟨by rfl, ?_⟩) ?_ ?_; rotate_left; · (intro w'; go_simp; with_reducible rfl)
                          rotate_left; · (simp only [Act.put, sT, sZ, sS, i64_w, i32_w]; rfl)
                          refine take_ (i := 1) (N := some 46) (v := ?_) (a' := ?_) #[true, true, true, true, true, true, false, false, false] rfl rfl (take_ofW HT_.out HW_.out (by kernel_rfl)) (fun _ _ _ h => h) (Or.inl ⟨by rfl, ?_⟩) hHeld ?_ ?_; rotate_left
                          · rintro w' ⟨s0, s1, s2, s3, s4, s5, s6, s7, s8, s9, s10, s11, s12, s13, s14, s15, s16⟩
                            go_simp
                            with_reducible rfl
                          rotate_left; · (simp only [Act.put, sT, sZ, sS, i64_w, i32_w]; rfl)
                          refine take_ (i := 6) (N := some 51) (v := ?_) (a' := ?_) #[true, true, true, true, true, true, true, false, false] rfl rfl (take_ofW HT_.out HW_.out (by kernel_rfl)) (fun _ _ _ h => h) (Or.inl ⟨by rfl, ?_⟩) hHeld ?_ ?_; rotate_left
                          · rintro w' ⟨s0, s1, s2, s3, s4, s5, s6, s7, s8, s9, s10, s11, s12, s13, s14, s15, s16⟩
                            go_simp
                            with_reducible rfl
                          rotate_left; · (simp only [Act.put, sT, sZ, sS, i64_w, i32_w]; rfl)
                          refine one_ (i := 7) (N := some 52) #[true, true, true, true, true, true, true, true, false] rfl rfl (one_of HT_.out (by kernel_rfl)) (by decide) (fun K hK => ?_)
                          refine goes_ Try.func27 (by kernel_rfl) rfl #[.agg #[.int .i64 ((rd_T37 l0 x10_0).f1.f0), .int .i64 ((rd_T37 l0 x10_0).f1.f1.f0), .int .i64 ((rd_T37 l0 x10_0).f1.f1.f1), .int .i64 ((rd_T37 l0 x10_0).f1.f2.f0), .int .i64 ((rd_T37 l0 x10_0).f1.f2.f1), .int .i64 ((rd_T37 l0 x10_0).f1.f3), .int .i64 ((rd_T37 l0 x10_0).f1.f4)], .agg #[.int .i64 ((rd_T44 l1 x13_1).f7.f0), .int .i64 ((rd_T44 l1 x13_1).f7.f1)]] (by rfl) rfl rfl (by (try simp only [List.map_toArray, List.map_cons, List.map_nil]); first | done | rfl | (simp; done)) ?_
                          (with_reducible refine (barrowref32_In.calls k2 _ _ _ _ _ _ _ _ _ _ _  Hc9.out).mono ?_)
                          rintro e_ w23 ⟨rfl, hb_⟩
                          refine ⟨_, rfl, ?_⟩
                          replace HS := Aside0.mk (HS.out.below hb_)
                          replace HK := Aside0.mk (HK.out.trans (Keep.below hb_))
                          refine hK.out _ _ ⟨(((blk_cell (SL.at_ (SL.get1 HS.out)) 1).trans rfl)), (((blk_cell (SL.at_ (SL.get1 HS.out)) 2).trans rfl)), (((blk_cell (SL.at_ (SL.get1 HS.out)) 3).trans rfl)), (((blk_cell (SL.at_ (SL.get1 HS.out)) 4).trans rfl)), (((blk_cell (SL.at_ (SL.get1 HS.out)) 5).trans rfl)), (((blk_cell (SL.at_ (SL.get1 HS.out)) 6).trans rfl)), (((blk_cell (SL.at_ (SL.get1 HS.out)) 7).trans rfl)), (by obtain ⟨a_, e_, h0_, h1_, h2_, h3_, h4_, h5_, h6_, h7_, h8_, h9_⟩ := at_T44 (RO.at_ HR1.out HK.out) x13_1 (of_eq_true pq441) (of_eq_true qq441); obtain rfl := Option.some.inj e_; exact h0_), (by obtain ⟨a_, e_, h0_, h1_, h2_, h3_, h4_, h5_, h6_, h7_, h8_, h9_⟩ := at_T44 (RO.at_ HR1.out HK.out) x13_1 (of_eq_true pq441) (of_eq_true qq441); obtain rfl := Option.some.inj e_; exact h1_), (by obtain ⟨a_, e_, h0_, h1_, h2_, h3_, h4_, h5_, h6_, h7_, h8_, h9_⟩ := at_T44 (RO.at_ HR1.out HK.out) x13_1 (of_eq_true pq441) (of_eq_true qq441); obtain rfl := Option.some.inj e_; exact h2_), (by obtain ⟨a_, e_, h0_, h1_, h2_, h3_, h4_, h5_, h6_, h7_, h8_, h9_⟩ := at_T44 (RO.at_ HR1.out HK.out) x13_1 (of_eq_true pq441) (of_eq_true qq441); obtain rfl := Option.some.inj e_; exact h3_), (by obtain ⟨a_, e_, h0_, h1_, h2_, h3_, h4_, h5_, h6_, h7_, h8_, h9_⟩ := at_T44 (RO.at_ HR1.out HK.out) x13_1 (of_eq_true pq441) (of_eq_true qq441); obtain rfl := Option.some.inj e_; exact h4_), (by obtain ⟨a_, e_, h0_, h1_, h2_, h3_, h4_, h5_, h6_, h7_, h8_, h9_⟩ := at_T44 (RO.at_ HR1.out HK.out) x13_1 (of_eq_true pq441) (of_eq_true qq441); obtain rfl := Option.some.inj e_; exact h5_), (by obtain ⟨a_, e_, h0_, h1_, h2_, h3_, h4_, h5_, h6_, h7_, h8_, h9_⟩ := at_T44 (RO.at_ HR1.out HK.out) x13_1 (of_eq_true pq441) (of_eq_true qq441); obtain rfl := Option.some.inj e_; exact h6_), (by obtain ⟨a_, e_, h0_, h1_, h2_, h3_, h4_, h5_, h6_, h7_, h8_, h9_⟩ := at_T44 (RO.at_ HR1.out HK.out) x13_1 (of_eq_true pq441) (of_eq_true qq441); obtain rfl := Option.some.inj e_; exact h7_), (by obtain ⟨a_, e_, h0_, h1_, h2_, h3_, h4_, h5_, h6_, h7_, h8_, h9_⟩ := at_T44 (RO.at_ HR1.out HK.out) x13_1 (of_eq_true pq441) (of_eq_true qq441); obtain rfl := Option.some.inj e_; exact h8_), (by obtain ⟨a_, e_, h0_, h1_, h2_, h3_, h4_, h5_, h6_, h7_, h8_, h9_⟩ := at_T44 (RO.at_ HR1.out HK.out) x13_1 (of_eq_true pq441) (of_eq_true qq441); obtain rfl := Option.some.inj e_; exact h9_)⟩ (fun hHeld => ?_)
                          clear hK K
                          refine norm_ (a' := ?_) ?_ ?_; rotate_left
                          · show Act.put _ (some 52) _ = _
                            simp only [Act.put, sT, sZ, sS, i64_w, i32_w]
                            rfl
                          refine pure_ (i := 8) (N := some 14) (v := ?_) (a' := ?_) #[true, true, true, true, true, true, true, true, true] rfl rfl (any_of HT_.out (by kernel_rfl)) (fun _ _ _ h => h) (Or.inl ⟨by rfl, ?_⟩) ?_ ?_; rotate_left; · (intro w'; go_simp; with_reducible rfl)
                          rotate_left; · (simp only [Act.put, sT, sZ, sS, i64_w, i32_w]; rfl)
                          refine done_ (done_of HT_.out (by kernel_rfl)) ?_
                          try go_wp2
                          have pq443 : 0 ≤ (x13_1 : Int) := of_decide_eq_true (by first | (with_reducible assumption) | assumption)
                          have qq443 : x13_1 < ((l1.length : Int) : Int) := of_decide_eq_true (by first | (with_reducible assumption) | assumption)
                          obtain ⟨adq443, eq443, hxq443_0, hxq443_1, hxq443_2, hxq443_3, hxq443_4, hxq443_5, hxq443_6, hxq443_7, hxq443_8, hxq443_9⟩ := at_T44 (RO.at_ HR1.out HK.out) x13_1 pq443 qq443
                          obtain rfl : adq441 = adq443 := (by injection eq443)
                          replace pq443 := eq_true pq443
                          replace qq443 := eq_true qq443
                          refine start_ (n := 24) (S := fun w' => w'.cell? (adq441.add (x13_1.toNat * 10)) = some (.int .i64 ((rd_T44 l1 x13_1).f0)) ∧ w'.cell? ⟨(adq441.add (x13_1.toNat * 10)).block, (adq441.add (x13_1.toNat * 10)).off + 1, none⟩ = some (.int .i64 ((rd_T44 l1 x13_1).f1)) ∧ w'.cell? ⟨(adq441.add (x13_1.toNat * 10)).block, (adq441.add (x13_1.toNat * 10)).off + 2, none⟩ = some (.int .i64 ((rd_T44 l1 x13_1).f2)) ∧ w'.cell? ⟨(adq441.add (x13_1.toNat * 10)).block, (adq441.add (x13_1.toNat * 10)).off + 3, none⟩ = some (.int .i64 ((rd_T44 l1 x13_1).f3)) ∧ w'.cell? ⟨(adq441.add (x13_1.toNat * 10)).block, (adq441.add (x13_1.toNat * 10)).off + 4, none⟩ = some (.int .i64 ((rd_T44 l1 x13_1).f4)) ∧ w'.cell? ⟨(adq441.add (x13_1.toNat * 10)).block, (adq441.add (x13_1.toNat * 10)).off + 5, none⟩ = some (.int .i64 ((rd_T44 l1 x13_1).f5)) ∧ w'.cell? ⟨(adq441.add (x13_1.toNat * 10)).block, (adq441.add (x13_1.toNat * 10)).off + 6, none⟩ = some (.int .i64 ((rd_T44 l1 x13_1).f6)) ∧ w'.cell? ⟨(adq441.add (x13_1.toNat * 10)).block, (adq441.add (x13_1.toNat * 10)).off + 7, none⟩ = some (.int .i64 ((rd_T44 l1 x13_1).f7.f0)) ∧ w'.cell? ⟨(adq441.add (x13_1.toNat * 10)).block, (adq441.add (x13_1.toNat * 10)).off + 8, none⟩ = some (.int .i64 ((rd_T44 l1 x13_1).f7.f1)) ∧ w'.cell? ⟨(adq441.add (x13_1.toNat * 10)).block, (adq441.add (x13_1.toNat * 10)).off + 9, none⟩ = some (.int .i64 ((rd_T44 l1 x13_1).f8))) (ds := []) #[false, false, false, false, false, false, false, false, false, false, false, false, false, false, false, false, false, false, false, false, false, false, false, false] (by kernel_rfl) rfl rfl ⟨(by obtain ⟨a_, e_, h0_, h1_, h2_, h3_, h4_, h5_, h6_, h7_, h8_, h9_⟩ := at_T44 (RO.at_ HR1.out HK.out) x13_1 (of_eq_true pq443) (of_eq_true qq443); obtain rfl := Option.some.inj e_; exact h0_), (by obtain ⟨a_, e_, h0_, h1_, h2_, h3_, h4_, h5_, h6_, h7_, h8_, h9_⟩ := at_T44 (RO.at_ HR1.out HK.out) x13_1 (of_eq_true pq443) (of_eq_true qq443); obtain rfl := Option.some.inj e_; exact h1_), (by obtain ⟨a_, e_, h0_, h1_, h2_, h3_, h4_, h5_, h6_, h7_, h8_, h9_⟩ := at_T44 (RO.at_ HR1.out HK.out) x13_1 (of_eq_true pq443) (of_eq_true qq443); obtain rfl := Option.some.inj e_; exact h2_), (by obtain ⟨a_, e_, h0_, h1_, h2_, h3_, h4_, h5_, h6_, h7_, h8_, h9_⟩ := at_T44 (RO.at_ HR1.out HK.out) x13_1 (of_eq_true pq443) (of_eq_true qq443); obtain rfl := Option.some.inj e_; exact h3_), (by obtain ⟨a_, e_, h0_, h1_, h2_, h3_, h4_, h5_, h6_, h7_, h8_, h9_⟩ := at_T44 (RO.at_ HR1.out HK.out) x13_1 (of_eq_true pq443) (of_eq_true qq443); obtain rfl := Option.some.inj e_; exact h4_), (by obtain ⟨a_, e_, h0_, h1_, h2_, h3_, h4_, h5_, h6_, h7_, h8_, h9_⟩ := at_T44 (RO.at_ HR1.out HK.out) x13_1 (of_eq_true pq443) (of_eq_true qq443); obtain rfl := Option.some.inj e_; exact h5_), (by obtain ⟨a_, e_, h0_, h1_, h2_, h3_, h4_, h5_, h6_, h7_, h8_, h9_⟩ := at_T44 (RO.at_ HR1.out HK.out) x13_1 (of_eq_true pq443) (of_eq_true qq443); obtain rfl := Option.some.inj e_; exact h6_), (by obtain ⟨a_, e_, h0_, h1_, h2_, h3_, h4_, h5_, h6_, h7_, h8_, h9_⟩ := at_T44 (RO.at_ HR1.out HK.out) x13_1 (of_eq_true pq443) (of_eq_true qq443); obtain rfl := Option.some.inj e_; exact h7_), (by obtain ⟨a_, e_, h0_, h1_, h2_, h3_, h4_, h5_, h6_, h7_, h8_, h9_⟩ := at_T44 (RO.at_ HR1.out HK.out) x13_1 (of_eq_true pq443) (of_eq_true qq443); obtain rfl := Option.some.inj e_; exact h8_), (by obtain ⟨a_, e_, h0_, h1_, h2_, h3_, h4_, h5_, h6_, h7_, h8_, h9_⟩ := at_T44 (RO.at_ HR1.out HK.out) x13_1 (of_eq_true pq443) (of_eq_true qq443); obtain rfl := Option.some.inj e_; exact h9_)⟩ (fun hHeld => ?_); refine with_tabW barrowref33_Tick.tab12 barrowref33_Tick.bits12 (fun HT_ HW_ => ?_)
                          replace HK := Aside0.mk (Keep.drew HK.out)
                          replace HS := Aside0.mk (SL.drew HS.out)
                          refine pure_ (i := 0) (N := some 53) (v := ?_) (a' := ?_) #[true, false, false, false, false, false, false, false, false, false, false, false, false, false, false, false, false, false, false, false, false, false, false, false] rfl rfl (any_of HT_.out (by kernel_rfl)) (fun _ _ _ h => h) (Or.inl ⟨by rfl, ?_⟩) ?_ ?_; rotate_left; · (intro w'; go_simp; with_reducible rfl)
                          rotate_left; · (simp only [Act.put, sT, sZ, sS, i64_w, i32_w]; rfl)
                          refine pure_ (i := 1) (N := some 54) (v := ?_) (a' := ?_) #[true, true, false, false, false, false, false, false, false, false, false, false, false, false, false, false, false, false, false, false, false, false, false, false] rfl rfl (any_of HT_.out (by kernel_rfl)) (fun _ _ _ h => h) (Or.inl ⟨by rfl, ?_⟩) ?_ ?_; rotate_left; · (intro w'; go_simp; with_reducible rfl)
                          rotate_left; · (simp only [Act.put, sT, sZ, sS, i64_w, i32_w]; rfl)
                          refine pure_ (i := 2) (N := some 55) (v := ?_) (a' := ?_) #[true, true, true, false, false, false, false, false, false, false, false, false, false, false, false, false, false, false, false, false, false, false, false, false] rfl rfl (any_of HT_.out (by kernel_rfl)) (fun _ _ _ h => h) (Or.inl ⟨by rfl, ?_⟩) ?_ ?_; rotate_left; · (intro w'; go_simp; with_reducible rfl)
                          rotate_left; · (simp only [Act.put, sT, sZ, sS, i64_w, i32_w]; rfl)
                          refine pure_ (i := 3) (N := some 56) (v := ?_) (a' := ?_) #[true, true, true, true, false, false, false, false, false, false, false, false, false, false, false, false, false, false, false, false, false, false, false, false] rfl rfl (any_of HT_.out (by kernel_rfl)) (fun _ _ _ h => h) (Or.inl ⟨by rfl, ?_⟩) ?_ ?_; rotate_left; · (intro w'; go_simp; with_reducible rfl)
                          rotate_left; · (simp only [Act.put, sT, sZ, sS, i64_w, i32_w]; rfl)
                          refine pure_ (i := 4) (N := some 57) (v := ?_) (a' := ?_) #[true, true, true, true, true, false, false, false, false, false, false, false, false, false, false, false, false, false, false, false, false, false, false, false] rfl rfl (any_of HT_.out (by kernel_rfl)) (fun _ _ _ h => h) (Or.inl ⟨by rfl, ?_⟩) ?_ ?_; rotate_left; · (intro w'; go_simp; with_reducible rfl)
                          rotate_left; · (simp only [Act.put, sT, sZ, sS, i64_w, i32_w]; rfl)
                          refine pure_ (i := 5) (N := some 58) (v := ?_) (a' := ?_) #[true, true, true, true, true, true, false, false, false, false, false, false, false, false, false, false, false, false, false, false, false, false, false, false] rfl rfl (any_of HT_.out (by kernel_rfl)) (fun _ _ _ h => h) (Or.inl ⟨by rfl, ?_⟩) ?_ ?_; rotate_left; · (intro w'; go_simp; with_reducible rfl)
                          rotate_left; · (simp only [Act.put, sT, sZ, sS, i64_w, i32_w]; rfl)
                          refine take_ (i := 6) (N := some 59) (v := ?_) (a' := ?_) #[true, true, true, true, true, true, true, false, false, false, false, false, false, false, false, false, false, false, false, false, false, false, false, false] rfl rfl (take_ofW HT_.out HW_.out (by kernel_rfl)) (fun _ _ _ h => h) (Or.inl ⟨by rfl, ?_⟩) hHeld ?_ ?_; rotate_left
                          · rintro w' ⟨s0, s1, s2, s3, s4, s5, s6, s7, s8, s9⟩
                            go_simp
                            with_reducible rfl
                          rotate_left; · (simp only [Act.put, sT, sZ, sS, i64_w, i32_w]; rfl)
                          refine pure_ (i := 7) (N := some 60) (v := ?_) (a' := ?_) #[true, true, true, true, true, true, true, true, false, false, false, false, false, false, false, false, false, false, false, false, false, false, false, false] rfl rfl (any_of HT_.out (by kernel_rfl)) (fun _ _ _ h => h) (Or.inl ⟨by rfl, ?_⟩) ?_ ?_; rotate_left; · (intro w'; go_simp; with_reducible rfl)
                          rotate_left; · (simp only [Act.put, sT, sZ, sS, i64_w, i32_w]; rfl)
                          refine pure_ (i := 8) (N := some 61) (v := ?_) (a' := ?_) #[true, true, true, true, true, true, true, true, true, false, false, false, false, false, false, false, false, false, false, false, false, false, false, false] rfl rfl (any_of HT_.out (by kernel_rfl)) (fun _ _ _ h => h) (Or.inl ⟨by rfl, ?_⟩) ?_ ?_; rotate_left; · (intro w'; go_simp; with_reducible rfl)
                          rotate_left; · (simp only [Act.put, sT, sZ, sS, i64_w, i32_w]; rfl)
                          refine pure_ (i := 9) (N := some 62) (v := ?_) (a' := ?_) #[true, true, true, true, true, true, true, true, true, true, false, false, false, false, false, false, false, false, false, false, false, false, false, false] rfl rfl (any_of HT_.out (by kernel_rfl)) (fun _ _ _ h => h) (Or.inl ⟨by rfl, ?_⟩) ?_ ?_; rotate_left; · (intro w'; go_simp; with_reducible rfl)
                          rotate_left; · (simp only [Act.put, sT, sZ, sS, i64_w, i32_w]; rfl)
                          refine pure_ (i := 10) (N := some 63) (v := undef) (a' := ?_) #[true, true, true, true, true, true, true, true, true, true, true, false, false, false, false, false, false, false, false, false, false, false, false, false] rfl rfl (any_of HT_.out (by kernel_rfl)) (fun _ _ _ h => h) (Or.inr ⟨by rfl, rfl⟩) ?_ ?_; rotate_left; · (simp only [Act.put, sT, sZ, sS, i64_w, i32_w]; rfl)
                          refine pure_ (i := 11) (N := some 64) (v := undef) (a' := ?_) #[true, true, true, true, true, true, true, true, true, true, true, true, false, false, false, false, false, false, false, false, false, false, false, false] rfl rfl (any_of HT_.out (by kernel_rfl)) (fun _ _ _ h => h) (Or.inr ⟨by rfl, rfl⟩) ?_ ?_; rotate_left; · (simp only [Act.put, sT, sZ, sS, i64_w, i32_w]; rfl)
                          refine pure_ (i := 12) (N := some 65) (v := undef) (a' := ?_) #[true, true, true, true, true, true, true, true, true, true, true, true, true, false, false, false, false, false, false, false, false, false, false, false] rfl rfl (any_of HT_.out (by kernel_rfl)) (fun _ _ _ h => h) (Or.inr ⟨by rfl, rfl⟩) ?_ ?_; rotate_left; · (simp only [Act.put, sT, sZ, sS, i64_w, i32_w]; rfl)
                          refine pure_ (i := 13) (N := some 66) (v := undef) (a' := ?_) #[true, true, true, true, true, true, true, true, true, true, true, true, true, true, false, false, false, false, false, false, false, false, false, false] rfl rfl (any_of HT_.out (by kernel_rfl)) (fun _ _ _ h => h) (Or.inr ⟨by rfl, rfl⟩) ?_ ?_; rotate_left; · (simp only [Act.put, sT, sZ, sS, i64_w, i32_w]; rfl)
                          refine pure_ (i := 14) (N := some 67) (v := undef) (a' := ?_) #[true, true, true, true, true, true, true, true, true, true, true, true, true, true, true, false, false, false, false, false, false, false, false, false] rfl rfl (any_of HT_.out (by kernel_rfl)) (fun _ _ _ h => h) (Or.inr ⟨by rfl, rfl⟩) ?_ ?_; rotate_left; · (simp only [Act.put, sT, sZ, sS, i64_w, i32_w]; rfl)
                          refine pure_ (i := 15) (N := some 68) (v := undef) (a' := ?_) #[true, true, true, true, true, true, true, true, true, true, true, true, true, true, true, true, false, false, false, false, false, false, false, false] rfl rfl (any_of HT_.out (by kernel_rfl)) (fun _ _ _ h => h) (Or.inr ⟨by rfl, rfl⟩) ?_ ?_; rotate_left; · (simp only [Act.put, sT, sZ, sS, i64_w, i32_w]; rfl)
                          refine pure_ (i := 16) (N := some 69) (v := undef) (a' := ?_) #[true, true, true, true, true, true, true, true, true, true, true, true, true, true, true, true, true, false, false, false, false, false, false, false] rfl rfl (any_of HT_.out (by kernel_rfl)) (fun _ _ _ h => h) (Or.inr ⟨by rfl, rfl⟩) ?_ ?_; rotate_left; · (simp only [Act.put, sT, sZ, sS, i64_w, i32_w]; rfl)
                          refine pure_ (i := 17) (N := some 70) (v := undef) (a' := ?_) #[true, true, true, true, true, true, true, true, true, true, true, true, true, true, true, true, true, true, false, false, false, false, false, false] rfl rfl (any_of HT_.out (by kernel_rfl)) (fun _ _ _ h => h) (Or.inr ⟨by rfl, rfl⟩) ?_ ?_; rotate_left; · (simp only [Act.put, sT, sZ, sS, i64_w, i32_w]; rfl)
                          refine pure_ (i := 18) (N := some 71) (v := undef) (a' := ?_) #[true, true, true, true, true, true, true, true, true, true, true, true, true, true, true, true, true, true, true, false, false, false, false, false] rfl rfl (any_of HT_.out (by kernel_rfl)) (fun _ _ _ h => h) (Or.inr ⟨by rfl, rfl⟩) ?_ ?_; rotate_left; · (simp only [Act.put, sT, sZ, sS, i64_w, i32_w]; rfl)
                          refine pure_ (i := 19) (N := some 72) (v := undef) (a' := ?_) #[true, true, true, true, true, true, true, true, true, true, true, true, true, true, true, true, true, true, true, true, false, false, false, false] rfl rfl (any_of HT_.out (by kernel_rfl)) (fun _ _ _ h => h) (Or.inr ⟨by rfl, rfl⟩) ?_ ?_; rotate_left; · (simp only [Act.put, sT, sZ, sS, i64_w, i32_w]; rfl)
                          refine pure_ (i := 20) (N := some 73) (v := undef) (a' := ?_) #[true, true, true, true, true, true, true, true, true, true, true, true, true, true, true, true, true, true, true, true, true, false, false, false] rfl rfl (any_of HT_.out (by kernel_rfl)) (fun _ _ _ h => h) (Or.inr ⟨by rfl, rfl⟩) ?_ ?_; rotate_left; · (simp only [Act.put, sT, sZ, sS, i64_w, i32_w]; rfl)
                          refine pure_ (i := 21) (N := some 74) (v := undef) (a' := ?_) #[true, true, true, true, true, true, true, true, true, true, true, true, true, true, true, true, true, true, true, true, true, true, false, false] rfl rfl (any_of HT_.out (by kernel_rfl)) (fun _ _ _ h => h) (Or.inr ⟨by rfl, rfl⟩) ?_ ?_; rotate_left; · (simp only [Act.put, sT, sZ, sS, i64_w, i32_w]; rfl)
                          refine pure_ (i := 22) (N := some 75) (v := undef) (a' := ?_) #[true, true, true, true, true, true, true, true, true, true, true, true, true, true, true, true, true, true, true, true, true, true, true, false] rfl rfl (any_of HT_.out (by kernel_rfl)) (fun _ _ _ h => h) (Or.inr ⟨by rfl, rfl⟩) ?_ ?_; rotate_left; · (simp only [Act.put, sT, sZ, sS, i64_w, i32_w]; rfl)
                          refine pure_ (i := 23) (N := some 76) (v := ?_) (a' := ?_) #[true, true, true, true, true, true, true, true, true, true, true, true, true, true, true, true, true, true, true, true, true, true, true, true] rfl rfl (any_of HT_.out (by kernel_rfl)) (fun _ _ _ h => h) (Or.inl ⟨by rfl, ?_⟩) ?_ ?_; rotate_left; · (intro w'; go_simp; with_reducible rfl)
                          rotate_left; · (simp only [Act.put, sT, sZ, sS, i64_w, i32_w]; rfl)
                          refine done_ (done_of HT_.out (by kernel_rfl)) ?_
                          try go_wp2
                          go_roundg k2
                          case measure => have := HQ1.out; have := HQ2.out; omega
                          case rel => exact ⟨(x9_1), (Ax9_1), (cx9_1), (wrap64 (x13_1 + 1)), (by first | rfl | (simp; done) | (simp [*]; done)), (by first | rfl | (simp; done) | (simp [*]; done)), H', ⟨by have := HQ1.out; have := HQ2.out; omega⟩, HS, HK⟩
                      · replace c10 := Bool.eq_false_iff.mpr c10
                        subst c10
                        rw [if_neg (show ¬ (false = true) by decide)] at H
                        have H' := Aside0.mk H
                        clear H
                        try go_wp2
                        have pq441 : 0 ≤ (x13_1 : Int) := of_decide_eq_true (by first | (with_reducible assumption) | assumption)
                        have qq441 : x13_1 < ((l1.length : Int) : Int) := of_decide_eq_true (by first | (with_reducible assumption) | assumption)
                        obtain ⟨adq441, eq441, hxq441_0, hxq441_1, hxq441_2, hxq441_3, hxq441_4, hxq441_5, hxq441_6, hxq441_7, hxq441_8, hxq441_9⟩ := at_T44 (RO.at_ HR1.out HK.out) x13_1 pq441 qq441
                        cases eq441
                        replace pq441 := eq_true pq441
                        replace qq441 := eq_true qq441
                        refine start_ (n := 9) (S := fun w' => w'.cell? ⟨g3000050, 1, none⟩ = some (.int .i64 ((rd_T37 l0 x10_0).f1.f0)) ∧ w'.cell? ⟨g3000050, 2, none⟩ = some (.int .i64 ((rd_T37 l0 x10_0).f1.f1.f0)) ∧ w'.cell? ⟨g3000050, 3, none⟩ = some (.int .i64 ((rd_T37 l0 x10_0).f1.f1.f1)) ∧ w'.cell? ⟨g3000050, 4, none⟩ = some (.int .i64 ((rd_T37 l0 x10_0).f1.f2.f0)) ∧ w'.cell? ⟨g3000050, 5, none⟩ = some (.int .i64 ((rd_T37 l0 x10_0).f1.f2.f1)) ∧ w'.cell? ⟨g3000050, 6, none⟩ = some (.int .i64 ((rd_T37 l0 x10_0).f1.f3)) ∧ w'.cell? ⟨g3000050, 7, none⟩ = some (.int .i64 ((rd_T37 l0 x10_0).f1.f4)) ∧ w'.cell? (adq441.add (x13_1.toNat * 10)) = some (.int .i64 ((rd_T44 l1 x13_1).f0)) ∧ w'.cell? ⟨(adq441.add (x13_1.toNat * 10)).block, (adq441.add (x13_1.toNat * 10)).off + 1, none⟩ = some (.int .i64 ((rd_T44 l1 x13_1).f1)) ∧ w'.cell? ⟨(adq441.add (x13_1.toNat * 10)).block, (adq441.add (x13_1.toNat * 10)).off + 2, none⟩ = some (.int .i64 ((rd_T44 l1 x13_1).f2)) ∧ w'.cell? ⟨(adq441.add (x13_1.toNat * 10)).block, (adq441.add (x13_1.toNat * 10)).off + 3, none⟩ = some (.int .i64 ((rd_T44 l1 x13_1).f3)) ∧ w'.cell? ⟨(adq441.add (x13_1.toNat * 10)).block, (adq441.add (x13_1.toNat * 10)).off + 4, none⟩ = some (.int .i64 ((rd_T44 l1 x13_1).f4)) ∧ w'.cell? ⟨(adq441.add (x13_1.toNat * 10)).block, (adq441.add (x13_1.toNat * 10)).off + 5, none⟩ = some (.int .i64 ((rd_T44 l1 x13_1).f5)) ∧ w'.cell? ⟨(adq441.add (x13_1.toNat * 10)).block, (adq441.add (x13_1.toNat * 10)).off + 6, none⟩ = some (.int .i64 ((rd_T44 l1 x13_1).f6)) ∧ w'.cell? ⟨(adq441.add (x13_1.toNat * 10)).block, (adq441.add (x13_1.toNat * 10)).off + 7, none⟩ = some (.int .i64 ((rd_T44 l1 x13_1).f7.f0)) ∧ w'.cell? ⟨(adq441.add (x13_1.toNat * 10)).block, (adq441.add (x13_1.toNat * 10)).off + 8, none⟩ = some (.int .i64 ((rd_T44 l1 x13_1).f7.f1)) ∧ w'.cell? ⟨(adq441.add (x13_1.toNat * 10)).block, (adq441.add (x13_1.toNat * 10)).off + 9, none⟩ = some (.int .i64 ((rd_T44 l1 x13_1).f8))) (ds := []) #[false, false, false, false, false, false, false, false, false] (by kernel_rfl) rfl rfl ⟨(((blk_cell (SL.at_ (SL.get1 HS.out)) 1).trans rfl)), (((blk_cell (SL.at_ (SL.get1 HS.out)) 2).trans rfl)), (((blk_cell (SL.at_ (SL.get1 HS.out)) 3).trans rfl)), (((blk_cell (SL.at_ (SL.get1 HS.out)) 4).trans rfl)), (((blk_cell (SL.at_ (SL.get1 HS.out)) 5).trans rfl)), (((blk_cell (SL.at_ (SL.get1 HS.out)) 6).trans rfl)), (((blk_cell (SL.at_ (SL.get1 HS.out)) 7).trans rfl)), (by obtain ⟨a_, e_, h0_, h1_, h2_, h3_, h4_, h5_, h6_, h7_, h8_, h9_⟩ := at_T44 (RO.at_ HR1.out HK.out) x13_1 (of_eq_true pq441) (of_eq_true qq441); obtain rfl := Option.some.inj e_; exact h0_), (by obtain ⟨a_, e_, h0_, h1_, h2_, h3_, h4_, h5_, h6_, h7_, h8_, h9_⟩ := at_T44 (RO.at_ HR1.out HK.out) x13_1 (of_eq_true pq441) (of_eq_true qq441); obtain rfl := Option.some.inj e_; exact h1_), (by obtain ⟨a_, e_, h0_, h1_, h2_, h3_, h4_, h5_, h6_, h7_, h8_, h9_⟩ := at_T44 (RO.at_ HR1.out HK.out) x13_1 (of_eq_true pq441) (of_eq_true qq441); obtain rfl := Option.some.inj e_; exact h2_), (by obtain ⟨a_, e_, h0_, h1_, h2_, h3_, h4_, h5_, h6_, h7_, h8_, h9_⟩ := at_T44 (RO.at_ HR1.out HK.out) x13_1 (of_eq_true pq441) (of_eq_true qq441); obtain rfl := Option.some.inj e_; exact h3_), (by obtain ⟨a_, e_, h0_, h1_, h2_, h3_, h4_, h5_, h6_, h7_, h8_, h9_⟩ := at_T44 (RO.at_ HR1.out HK.out) x13_1 (of_eq_true pq441) (of_eq_true qq441); obtain rfl := Option.some.inj e_; exact h4_), (by obtain ⟨a_, e_, h0_, h1_, h2_, h3_, h4_, h5_, h6_, h7_, h8_, h9_⟩ := at_T44 (RO.at_ HR1.out HK.out) x13_1 (of_eq_true pq441) (of_eq_true qq441); obtain rfl := Option.some.inj e_; exact h5_), (by obtain ⟨a_, e_, h0_, h1_, h2_, h3_, h4_, h5_, h6_, h7_, h8_, h9_⟩ := at_T44 (RO.at_ HR1.out HK.out) x13_1 (of_eq_true pq441) (of_eq_true qq441); obtain rfl := Option.some.inj e_; exact h6_), (by obtain ⟨a_, e_, h0_, h1_, h2_, h3_, h4_, h5_, h6_, h7_, h8_, h9_⟩ := at_T44 (RO.at_ HR1.out HK.out) x13_1 (of_eq_true pq441) (of_eq_true qq441); obtain rfl := Option.some.inj e_; exact h7_), (by obtain ⟨a_, e_, h0_, h1_, h2_, h3_, h4_, h5_, h6_, h7_, h8_, h9_⟩ := at_T44 (RO.at_ HR1.out HK.out) x13_1 (of_eq_true pq441) (of_eq_true qq441); obtain rfl := Option.some.inj e_; exact h8_), (by obtain ⟨a_, e_, h0_, h1_, h2_, h3_, h4_, h5_, h6_, h7_, h8_, h9_⟩ := at_T44 (RO.at_ HR1.out HK.out) x13_1 (of_eq_true pq441) (of_eq_true qq441); obtain rfl := Option.some.inj e_; exact h9_)⟩ (fun hHeld => ?_); refine with_tabW barrowref33_Tick.tab11 barrowref33_Tick.bits11 (fun HT_ HW_ => ?_)
                        replace HK := Aside0.mk (Keep.drew HK.out)
                        replace HS := Aside0.mk (SL.drew HS.out)
                        refine pure_ (i := 0) (N := some 45) (v := ?_) (a' := ?_) #[true, false, false, false, false, false, false, false, false] rfl rfl (any_of HT_.out (by kernel_rfl)) (fun _ _ _ h => h) (Or.inl ⟨by rfl, ?_⟩) ?_ ?_; rotate_left; · (intro w'; go_simp; with_reducible rfl)
                        rotate_left; · (simp only [Act.put, sT, sZ, sS, i64_w, i32_w]; rfl)
                        refine pure_ (i := 2) (N := some 47) (v := ?_) (a' := ?_) #[true, false, true, false, false, false, false, false, false] rfl rfl (any_of HT_.out (by kernel_rfl)) (fun _ _ _ h => h) (Or.inl ⟨by rfl, ?_⟩) ?_ ?_; rotate_left; · (intro w'; go_simp; with_reducible rfl)
                        rotate_left; · (simp only [Act.put, sT, sZ, sS, i64_w, i32_w]; rfl)
                        refine pure_ (i := 3) (N := some 48) (v := ?_) (a' := ?_) #[true, false, true, true, false, false, false, false, false] rfl rfl (any_of HT_.out (by kernel_rfl)) (fun _ _ _ h => h) (Or.inl ⟨by rfl, ?_⟩) ?_ ?_; rotate_left; · (intro w'; go_simp; with_reducible rfl)
                        rotate_left; · (simp only [Act.put, sT, sZ, sS, i64_w, i32_w]; rfl)
                        refine pure_ (i := 4) (N := some 49) (v := ?_) (a' := ?_) #[true, false, true, true, true, false, false, false, false] rfl rfl (any_of HT_.out (by kernel_rfl)) (fun _ _ _ h => h) (Or.inl ⟨by rfl, ?_⟩) ?_ ?_; rotate_left; · (intro w'; go_simp; with_reducible rfl)
                        rotate_left; · (simp only [Act.put, sT, sZ, sS, i64_w, i32_w]; rfl)
                        refine pure_ (i := 5) (N := some 50) (v := ?_) (a' := ?_) #[true, false, true, true, true, true, false, false, false] rfl rfl (any_of HT_.out (by kernel_rfl)) (fun _ _ _ h => h) (Or.inl ⟨by rfl, ?_⟩) ?_ ?_; rotate_left; · (intro w'; go_simp; with_reducible rfl)
                        rotate_left; · (simp only [Act.put, sT, sZ, sS, i64_w, i32_w]; rfl)
                        refine take_ (i := 1) (N := some 46) (v := ?_) (a' := ?_) #[true, true, true, true, true, true, false, false, false] rfl rfl (take_ofW HT_.out HW_.out (by kernel_rfl)) (fun _ _ _ h => h) (Or.inl ⟨by rfl, ?_⟩) hHeld ?_ ?_; rotate_left
                        · rintro w' ⟨s0, s1, s2, s3, s4, s5, s6, s7, s8, s9, s10, s11, s12, s13, s14, s15, s16⟩
                          go_simp
                          with_reducible rfl
                        rotate_left; · (simp only [Act.put, sT, sZ, sS, i64_w, i32_w]; rfl)
                        refine take_ (i := 6) (N := some 51) (v := ?_) (a' := ?_) #[true, true, true, true, true, true, true, false, false] rfl rfl (take_ofW HT_.out HW_.out (by kernel_rfl)) (fun _ _ _ h => h) (Or.inl ⟨by rfl, ?_⟩) hHeld ?_ ?_; rotate_left
                        · rintro w' ⟨s0, s1, s2, s3, s4, s5, s6, s7, s8, s9, s10, s11, s12, s13, s14, s15, s16⟩
                          go_simp
                          with_reducible rfl
                        rotate_left; · (simp only [Act.put, sT, sZ, sS, i64_w, i32_w]; rfl)
                        refine one_ (i := 7) (N := some 52) #[true, true, true, true, true, true, true, true, false] rfl rfl (one_of HT_.out (by kernel_rfl)) (by decide) (fun K hK => ?_)
                        refine goes_ Try.func27 (by kernel_rfl) rfl #[.agg #[.int .i64 ((rd_T37 l0 x10_0).f1.f0), .int .i64 ((rd_T37 l0 x10_0).f1.f1.f0), .int .i64 ((rd_T37 l0 x10_0).f1.f1.f1), .int .i64 ((rd_T37 l0 x10_0).f1.f2.f0), .int .i64 ((rd_T37 l0 x10_0).f1.f2.f1), .int .i64 ((rd_T37 l0 x10_0).f1.f3), .int .i64 ((rd_T37 l0 x10_0).f1.f4)], .agg #[.int .i64 ((rd_T44 l1 x13_1).f7.f0), .int .i64 ((rd_T44 l1 x13_1).f7.f1)]] (by rfl) rfl rfl (by (try simp only [List.map_toArray, List.map_cons, List.map_nil]); first | done | rfl | (simp; done)) ?_
                        (with_reducible refine (barrowref32_In.calls k2 _ _ _ _ _ _ _ _ _ _ _  Hc9.out).mono ?_)
                        rintro e_ w24 ⟨rfl, hb_⟩
                        refine ⟨_, rfl, ?_⟩
                        replace HS := Aside0.mk (HS.out.below hb_)
                        replace HK := Aside0.mk (HK.out.trans (Keep.below hb_))
                        refine hK.out _ _ ⟨(((blk_cell (SL.at_ (SL.get1 HS.out)) 1).trans rfl)), (((blk_cell (SL.at_ (SL.get1 HS.out)) 2).trans rfl)), (((blk_cell (SL.at_ (SL.get1 HS.out)) 3).trans rfl)), (((blk_cell (SL.at_ (SL.get1 HS.out)) 4).trans rfl)), (((blk_cell (SL.at_ (SL.get1 HS.out)) 5).trans rfl)), (((blk_cell (SL.at_ (SL.get1 HS.out)) 6).trans rfl)), (((blk_cell (SL.at_ (SL.get1 HS.out)) 7).trans rfl)), (by obtain ⟨a_, e_, h0_, h1_, h2_, h3_, h4_, h5_, h6_, h7_, h8_, h9_⟩ := at_T44 (RO.at_ HR1.out HK.out) x13_1 (of_eq_true pq441) (of_eq_true qq441); obtain rfl := Option.some.inj e_; exact h0_), (by obtain ⟨a_, e_, h0_, h1_, h2_, h3_, h4_, h5_, h6_, h7_, h8_, h9_⟩ := at_T44 (RO.at_ HR1.out HK.out) x13_1 (of_eq_true pq441) (of_eq_true qq441); obtain rfl := Option.some.inj e_; exact h1_), (by obtain ⟨a_, e_, h0_, h1_, h2_, h3_, h4_, h5_, h6_, h7_, h8_, h9_⟩ := at_T44 (RO.at_ HR1.out HK.out) x13_1 (of_eq_true pq441) (of_eq_true qq441); obtain rfl := Option.some.inj e_; exact h2_), (by obtain ⟨a_, e_, h0_, h1_, h2_, h3_, h4_, h5_, h6_, h7_, h8_, h9_⟩ := at_T44 (RO.at_ HR1.out HK.out) x13_1 (of_eq_true pq441) (of_eq_true qq441); obtain rfl := Option.some.inj e_; exact h3_), (by obtain ⟨a_, e_, h0_, h1_, h2_, h3_, h4_, h5_, h6_, h7_, h8_, h9_⟩ := at_T44 (RO.at_ HR1.out HK.out) x13_1 (of_eq_true pq441) (of_eq_true qq441); obtain rfl := Option.some.inj e_; exact h4_), (by obtain ⟨a_, e_, h0_, h1_, h2_, h3_, h4_, h5_, h6_, h7_, h8_, h9_⟩ := at_T44 (RO.at_ HR1.out HK.out) x13_1 (of_eq_true pq441) (of_eq_true qq441); obtain rfl := Option.some.inj e_; exact h5_), (by obtain ⟨a_, e_, h0_, h1_, h2_, h3_, h4_, h5_, h6_, h7_, h8_, h9_⟩ := at_T44 (RO.at_ HR1.out HK.out) x13_1 (of_eq_true pq441) (of_eq_true qq441); obtain rfl := Option.some.inj e_; exact h6_), (by obtain ⟨a_, e_, h0_, h1_, h2_, h3_, h4_, h5_, h6_, h7_, h8_, h9_⟩ := at_T44 (RO.at_ HR1.out HK.out) x13_1 (of_eq_true pq441) (of_eq_true qq441); obtain rfl := Option.some.inj e_; exact h7_), (by obtain ⟨a_, e_, h0_, h1_, h2_, h3_, h4_, h5_, h6_, h7_, h8_, h9_⟩ := at_T44 (RO.at_ HR1.out HK.out) x13_1 (of_eq_true pq441) (of_eq_true qq441); obtain rfl := Option.some.inj e_; exact h8_), (by obtain ⟨a_, e_, h0_, h1_, h2_, h3_, h4_, h5_, h6_, h7_, h8_, h9_⟩ := at_T44 (RO.at_ HR1.out HK.out) x13_1 (of_eq_true pq441) (of_eq_true qq441); obtain rfl := Option.some.inj e_; exact h9_)⟩ (fun hHeld => ?_)
                        clear hK K
                        refine norm_ (a' := ?_) ?_ ?_; rotate_left
                        · show Act.put _ (some 52) _ = _
                          simp only [Act.put, sT, sZ, sS, i64_w, i32_w]
                          rfl
                        refine pure_ (i := 8) (N := some 14) (v := ?_) (a' := ?_) #[true, true, true, true, true, true, true, true, true] rfl rfl (any_of HT_.out (by kernel_rfl)) (fun _ _ _ h => h) (Or.inl ⟨by rfl, ?_⟩) ?_ ?_; rotate_left; · (intro w'; go_simp; with_reducible rfl)
                        rotate_left; · (simp only [Act.put, sT, sZ, sS, i64_w, i32_w]; rfl)
                        refine done_ (done_of HT_.out (by kernel_rfl)) ?_
                        try go_wp2
                        refine start_ (n := 24) (S := fun w' => True) (ds := []) #[false, false, false, false, false, false, false, false, false, false, false, false, false, false, false, false, false, false, false, false, false, false, false, false] (by kernel_rfl) rfl rfl trivial (fun hHeld => ?_); refine with_tabW barrowref33_Tick.tab12 barrowref33_Tick.bits12 (fun HT_ HW_ => ?_)
                        replace HK := Aside0.mk (Keep.drew HK.out)
                        replace HS := Aside0.mk (SL.drew HS.out)
                        refine pure_ (i := 0) (N := some 53) (v := ?_) (a' := ?_) #[true, false, false, false, false, false, false, false, false, false, false, false, false, false, false, false, false, false, false, false, false, false, false, false] rfl rfl (any_of HT_.out (by kernel_rfl)) (fun _ _ _ h => h) (Or.inl ⟨by rfl, ?_⟩) ?_ ?_; rotate_left; · (intro w'; go_simp; with_reducible rfl)
                        rotate_left; · (simp only [Act.put, sT, sZ, sS, i64_w, i32_w]; rfl)
                        refine pure_ (i := 1) (N := some 54) (v := ?_) (a' := ?_) #[true, true, false, false, false, false, false, false, false, false, false, false, false, false, false, false, false, false, false, false, false, false, false, false] rfl rfl (any_of HT_.out (by kernel_rfl)) (fun _ _ _ h => h) (Or.inl ⟨by rfl, ?_⟩) ?_ ?_; rotate_left; · (intro w'; go_simp; with_reducible rfl)
                        rotate_left; · (simp only [Act.put, sT, sZ, sS, i64_w, i32_w]; rfl)
                        refine pure_ (i := 2) (N := some 55) (v := undef) (a' := ?_) #[true, true, true, false, false, false, false, false, false, false, false, false, false, false, false, false, false, false, false, false, false, false, false, false] rfl rfl (any_of HT_.out (by kernel_rfl)) (fun _ _ _ h => h) (Or.inr ⟨by rfl, rfl⟩) ?_ ?_; rotate_left; · (simp only [Act.put, sT, sZ, sS, i64_w, i32_w]; rfl)
                        refine pure_ (i := 3) (N := some 56) (v := undef) (a' := ?_) #[true, true, true, true, false, false, false, false, false, false, false, false, false, false, false, false, false, false, false, false, false, false, false, false] rfl rfl (any_of HT_.out (by kernel_rfl)) (fun _ _ _ h => h) (Or.inr ⟨by rfl, rfl⟩) ?_ ?_; rotate_left; · (simp only [Act.put, sT, sZ, sS, i64_w, i32_w]; rfl)
                        refine pure_ (i := 4) (N := some 57) (v := undef) (a' := ?_) #[true, true, true, true, true, false, false, false, false, false, false, false, false, false, false, false, false, false, false, false, false, false, false, false] rfl rfl (any_of HT_.out (by kernel_rfl)) (fun _ _ _ h => h) (Or.inr ⟨by rfl, rfl⟩) ?_ ?_; rotate_left; · (simp only [Act.put, sT, sZ, sS, i64_w, i32_w]; rfl)
                        refine pure_ (i := 5) (N := some 58) (v := undef) (a' := ?_) #[true, true, true, true, true, true, false, false, false, false, false, false, false, false, false, false, false, false, false, false, false, false, false, false] rfl rfl (any_of HT_.out (by kernel_rfl)) (fun _ _ _ h => h) (Or.inr ⟨by rfl, rfl⟩) ?_ ?_; rotate_left; · (simp only [Act.put, sT, sZ, sS, i64_w, i32_w]; rfl)
                        refine pure_ (i := 6) (N := some 59) (v := undef) (a' := ?_) #[true, true, true, true, true, true, true, false, false, false, false, false, false, false, false, false, false, false, false, false, false, false, false, false] rfl rfl (any_of HT_.out (by kernel_rfl)) (fun _ _ _ h => h) (Or.inr ⟨by rfl, rfl⟩) ?_ ?_; rotate_left; · (simp only [Act.put, sT, sZ, sS, i64_w, i32_w]; rfl)
                        refine pure_ (i := 7) (N := some 60) (v := undef) (a' := ?_) #[true, true, true, true, true, true, true, true, false, false, false, false, false, false, false, false, false, false, false, false, false, false, false, false] rfl rfl (any_of HT_.out (by kernel_rfl)) (fun _ _ _ h => h) (Or.inr ⟨by rfl, rfl⟩) ?_ ?_; rotate_left; · (simp only [Act.put, sT, sZ, sS, i64_w, i32_w]; rfl)
                        refine pure_ (i := 8) (N := some 61) (v := ?_) (a' := ?_) #[true, true, true, true, true, true, true, true, true, false, false, false, false, false, false, false, false, false, false, false, false, false, false, false] rfl rfl (any_of HT_.out (by kernel_rfl)) (fun _ _ _ h => h) (Or.inl ⟨by rfl, ?_⟩) ?_ ?_; rotate_left; · (intro w'; go_simp; with_reducible rfl)
                        rotate_left; · (simp only [Act.put, sT, sZ, sS, i64_w, i32_w]; rfl)
                        refine pure_ (i := 9) (N := some 62) (v := ?_) (a' := ?_) #[true, true, true, true, true, true, true, true, true, true, false, false, false, false, false, false, false, false, false, false, false, false, false, false] rfl rfl (any_of HT_.out (by kernel_rfl)) (fun _ _ _ h => h) (Or.inl ⟨by rfl, ?_⟩) ?_ ?_; rotate_left; · (intro w'; go_simp; with_reducible rfl)
                        rotate_left; · (simp only [Act.put, sT, sZ, sS, i64_w, i32_w]; rfl)
                        refine pure_ (i := 10) (N := some 63) (v := undef) (a' := ?_) #[true, true, true, true, true, true, true, true, true, true, true, false, false, false, false, false, false, false, false, false, false, false, false, false] rfl rfl (any_of HT_.out (by kernel_rfl)) (fun _ _ _ h => h) (Or.inr ⟨by rfl, rfl⟩) ?_ ?_; rotate_left; · (simp only [Act.put, sT, sZ, sS, i64_w, i32_w]; rfl)
                        refine pure_ (i := 11) (N := some 64) (v := undef) (a' := ?_) #[true, true, true, true, true, true, true, true, true, true, true, true, false, false, false, false, false, false, false, false, false, false, false, false] rfl rfl (any_of HT_.out (by kernel_rfl)) (fun _ _ _ h => h) (Or.inr ⟨by rfl, rfl⟩) ?_ ?_; rotate_left; · (simp only [Act.put, sT, sZ, sS, i64_w, i32_w]; rfl)
                        refine pure_ (i := 12) (N := some 65) (v := undef) (a' := ?_) #[true, true, true, true, true, true, true, true, true, true, true, true, true, false, false, false, false, false, false, false, false, false, false, false] rfl rfl (any_of HT_.out (by kernel_rfl)) (fun _ _ _ h => h) (Or.inr ⟨by rfl, rfl⟩) ?_ ?_; rotate_left; · (simp only [Act.put, sT, sZ, sS, i64_w, i32_w]; rfl)
                        refine pure_ (i := 13) (N := some 66) (v := undef) (a' := ?_) #[true, true, true, true, true, true, true, true, true, true, true, true, true, true, false, false, false, false, false, false, false, false, false, false] rfl rfl (any_of HT_.out (by kernel_rfl)) (fun _ _ _ h => h) (Or.inr ⟨by rfl, rfl⟩) ?_ ?_; rotate_left; · (simp only [Act.put, sT, sZ, sS, i64_w, i32_w]; rfl)
                        refine pure_ (i := 14) (N := some 67) (v := undef) (a' := ?_) #[true, true, true, true, true, true, true, true, true, true, true, true, true, true, true, false, false, false, false, false, false, false, false, false] rfl rfl (any_of HT_.out (by kernel_rfl)) (fun _ _ _ h => h) (Or.inr ⟨by rfl, rfl⟩) ?_ ?_; rotate_left; · (simp only [Act.put, sT, sZ, sS, i64_w, i32_w]; rfl)
                        refine pure_ (i := 15) (N := some 68) (v := undef) (a' := ?_) #[true, true, true, true, true, true, true, true, true, true, true, true, true, true, true, true, false, false, false, false, false, false, false, false] rfl rfl (any_of HT_.out (by kernel_rfl)) (fun _ _ _ h => h) (Or.inr ⟨by rfl, rfl⟩) ?_ ?_; rotate_left; · (simp only [Act.put, sT, sZ, sS, i64_w, i32_w]; rfl)
                        refine pure_ (i := 16) (N := some 69) (v := undef) (a' := ?_) #[true, true, true, true, true, true, true, true, true, true, true, true, true, true, true, true, true, false, false, false, false, false, false, false] rfl rfl (any_of HT_.out (by kernel_rfl)) (fun _ _ _ h => h) (Or.inr ⟨by rfl, rfl⟩) ?_ ?_; rotate_left; · (simp only [Act.put, sT, sZ, sS, i64_w, i32_w]; rfl)
                        refine pure_ (i := 17) (N := some 70) (v := undef) (a' := ?_) #[true, true, true, true, true, true, true, true, true, true, true, true, true, true, true, true, true, true, false, false, false, false, false, false] rfl rfl (any_of HT_.out (by kernel_rfl)) (fun _ _ _ h => h) (Or.inr ⟨by rfl, rfl⟩) ?_ ?_; rotate_left; · (simp only [Act.put, sT, sZ, sS, i64_w, i32_w]; rfl)
                        refine pure_ (i := 18) (N := some 71) (v := undef) (a' := ?_) #[true, true, true, true, true, true, true, true, true, true, true, true, true, true, true, true, true, true, true, false, false, false, false, false] rfl rfl (any_of HT_.out (by kernel_rfl)) (fun _ _ _ h => h) (Or.inr ⟨by rfl, rfl⟩) ?_ ?_; rotate_left; · (simp only [Act.put, sT, sZ, sS, i64_w, i32_w]; rfl)
                        refine pure_ (i := 19) (N := some 72) (v := undef) (a' := ?_) #[true, true, true, true, true, true, true, true, true, true, true, true, true, true, true, true, true, true, true, true, false, false, false, false] rfl rfl (any_of HT_.out (by kernel_rfl)) (fun _ _ _ h => h) (Or.inr ⟨by rfl, rfl⟩) ?_ ?_; rotate_left; · (simp only [Act.put, sT, sZ, sS, i64_w, i32_w]; rfl)
                        refine pure_ (i := 20) (N := some 73) (v := undef) (a' := ?_) #[true, true, true, true, true, true, true, true, true, true, true, true, true, true, true, true, true, true, true, true, true, false, false, false] rfl rfl (any_of HT_.out (by kernel_rfl)) (fun _ _ _ h => h) (Or.inr ⟨by rfl, rfl⟩) ?_ ?_; rotate_left; · (simp only [Act.put, sT, sZ, sS, i64_w, i32_w]; rfl)
                        refine pure_ (i := 21) (N := some 74) (v := undef) (a' := ?_) #[true, true, true, true, true, true, true, true, true, true, true, true, true, true, true, true, true, true, true, true, true, true, false, false] rfl rfl (any_of HT_.out (by kernel_rfl)) (fun _ _ _ h => h) (Or.inr ⟨by rfl, rfl⟩) ?_ ?_; rotate_left; · (simp only [Act.put, sT, sZ, sS, i64_w, i32_w]; rfl)
                        refine pure_ (i := 22) (N := some 75) (v := undef) (a' := ?_) #[true, true, true, true, true, true, true, true, true, true, true, true, true, true, true, true, true, true, true, true, true, true, true, false] rfl rfl (any_of HT_.out (by kernel_rfl)) (fun _ _ _ h => h) (Or.inr ⟨by rfl, rfl⟩) ?_ ?_; rotate_left; · (simp only [Act.put, sT, sZ, sS, i64_w, i32_w]; rfl)
                        refine pure_ (i := 23) (N := some 76) (v := ?_) (a' := ?_) #[true, true, true, true, true, true, true, true, true, true, true, true, true, true, true, true, true, true, true, true, true, true, true, true] rfl rfl (any_of HT_.out (by kernel_rfl)) (fun _ _ _ h => h) (Or.inl ⟨by rfl, ?_⟩) ?_ ?_; rotate_left; · (intro w'; go_simp; with_reducible rfl)
                        rotate_left; · (simp only [Act.put, sT, sZ, sS, i64_w, i32_w]; rfl)
                        refine done_ (done_of HT_.out (by kernel_rfl)) ?_
                        try go_wp2
                        go_roundg k2
                        case measure => have := HQ1.out; have := HQ2.out; omega
                        case rel => exact ⟨(x9_1), (Ax9_1), (cx9_1), (wrap64 (x13_1 + 1)), (by first | rfl | (simp; done) | (simp [*]; done)), (by first | rfl | (simp; done) | (simp [*]; done)), H', ⟨by have := HQ1.out; have := HQ2.out; omega⟩, HS, HK⟩
                    · rw [if_neg c8] at H
                      exact absurd H (by simp)
                  · rw [if_neg c7] at H
                    have c7b0 : decide (x13_1 < (l1.length : Int)) = false := decide_eq_false c7
                    clear c7
                    replace H := Option.bind_eq_some_iff.1 H
                    obtain ⟨t455, Hc250, H⟩ := H
                    try dsimp only at H
                    have Hc25 := Aside0.mk Hc250
                    clear Hc250
                    by_cases c26 : ((rd_T37 l0 x10_0).f2) > a2
                    · rw [if_pos c26] at H
                      have c26b0 : decide (a2 < ((rd_T37 l0 x10_0).f2)) = true := decide_eq_true c26
                      clear c26
                      replace H := Option.bind_eq_some_iff.1 H
                      obtain ⟨y456, hy4560, H⟩ := H
                      try dsimp only at H
                      have hy456 := Option.some.inj hy4560
                      clear hy4560
                      have Ny456 := Aside0.mk hy456
                      clear hy456
                      by_cases c27 : x8_0.length + y456.length < 1099511627776
                      · rw [if_pos c27] at H
                        have LMc27 := Aside0.mk c27
                        clear c27
                        replace H := Option.bind_eq_some_iff.1 H
                        obtain ⟨y457, hy4570, H⟩ := H
                        try dsimp only at H
                        have hy457 := Option.some.inj hy4570
                        clear hy4570
                        have Ny457 := Aside0.mk hy457
                        clear hy457
                        have H' := Aside0.mk H
                        clear H
                        have hb_ := SL.at_ (SL.get1 HS.out)
                        have hz3000050_0_0 := ((blk_cell hb_ 0).trans rfl : _ = some (.int .i64 ((rd_T37 l0 x10_0).f0)))
                        have hz3000050_1_0 := ((blk_cell hb_ 1).trans rfl : _ = some (.int .i64 ((rd_T37 l0 x10_0).f1.f0)))
                        have hz3000050_2_0 := ((blk_cell hb_ 2).trans rfl : _ = some (.int .i64 ((rd_T37 l0 x10_0).f1.f1.f0)))
                        have hz3000050_3_0 := ((blk_cell hb_ 3).trans rfl : _ = some (.int .i64 ((rd_T37 l0 x10_0).f1.f1.f1)))
                        have hz3000050_4_0 := ((blk_cell hb_ 4).trans rfl : _ = some (.int .i64 ((rd_T37 l0 x10_0).f1.f2.f0)))
                        have hz3000050_5_0 := ((blk_cell hb_ 5).trans rfl : _ = some (.int .i64 ((rd_T37 l0 x10_0).f1.f2.f1)))
                        have hz3000050_6_0 := ((blk_cell hb_ 6).trans rfl : _ = some (.int .i64 ((rd_T37 l0 x10_0).f1.f3)))
                        have hz3000050_7_0 := ((blk_cell hb_ 7).trans rfl : _ = some (.int .i64 ((rd_T37 l0 x10_0).f1.f4)))
                        have hz3000050_8_0 := ((blk_cell hb_ 8).trans rfl : _ = some (.int .i64 ((rd_T37 l0 x10_0).f2)))
                        have hz3000050_9_0 := ((blk_cell hb_ 9).trans rfl : _ = some (.int .i64 ((rd_T37 l0 x10_0).f3)))
                        have hz3000050_10_0 := ((blk_cell hb_ 10).trans rfl : _ = some (.int .i64 ((rd_T37 l0 x10_0).f4)))
                        have hz3000050_11_0 := ((blk_cell hb_ 11).trans rfl : _ = some (.int .i64 ((rd_T37 l0 x10_0).f5.f0)))
                        have hz3000050_12_0 := ((blk_cell hb_ 12).trans rfl : _ = some (.int .i64 ((rd_T37 l0 x10_0).f5.f1)))
                        have hz3000050_13_0 := ((blk_cell hb_ 13).trans rfl : _ = some (.int .i64 ((rd_T37 l0 x10_0).f5.f2)))
                        have hz3000050_14_0 := ((blk_cell hb_ 14).trans rfl : _ = some (.int .i64 ((rd_T37 l0 x10_0).f6)))
                        have hz3000050_15_0 := ((blk_cell hb_ 15).trans rfl : _ = some (.int .i64 ((rd_T37 l0 x10_0).f7)))
                        clear hb_
                        go_wp2_with (first | ((with_reducible refine gate_dst (N := 93) rfl ?_); refine goesL_ (some 93) rfl rfl Try.func28 (by kernel_rfl) rfl #[.int .i64 ((rd_T37 l0 x10_0).f4), .int .i64 ((rd_T37 l0 x10_0).f3)] rfl (by (try simp only [List.map_toArray, List.map_cons, List.map_nil]); first | done | rfl | (simp; done)) ?_; (with_reducible refine (barrowref01_Add.calls k2 _ _ _ _  Hc25.out).mono ?_); rintro e_ w28 ⟨rfl, hb_⟩; refine ⟨_, rfl, ?_⟩; replace hb_ := Drawn0.below hb_; replace HS := Aside0.mk (HS.out.below hb_); replace HK := Aside0.mk (HK.out.trans (Keep.below hb_)); (try clear hz3000050_0_0 hz3000050_1_0 hz3000050_2_0 hz3000050_3_0 hz3000050_4_0 hz3000050_5_0 hz3000050_6_0 hz3000050_7_0 hz3000050_8_0 hz3000050_9_0 hz3000050_10_0 hz3000050_11_0 hz3000050_12_0 hz3000050_13_0 hz3000050_14_0 hz3000050_15_0)) | ((with_reducible refine gate_store (t := 3) (p := 94) (v := (.tmp 93)) rfl ?_); refine wpList_plain rfl (fun K_ hK_ => ?_); refine op_store (S := S) 3 (.tmp 94) (.tmp 93) rfl g3000050 10 (.int .i64 t455) [.int .i64 t455] rfl rfl rfl (by kernel_rfl) (by simp [Value.oneCell']) (SL.get1 HS.out) (by simp) ?_; intro w29 hs_ hk_; refine hK_ _ _ ?_; clear hK_ K_; replace HS := Aside0.mk ((SL.back1 (show SL (cells g3000050 37 [.int .i64 ((rd_T37 l0 x10_0).f0), .int .i64 ((rd_T37 l0 x10_0).f1.f0), .int .i64 ((rd_T37 l0 x10_0).f1.f1.f0), .int .i64 ((rd_T37 l0 x10_0).f1.f1.f1), .int .i64 ((rd_T37 l0 x10_0).f1.f2.f0), .int .i64 ((rd_T37 l0 x10_0).f1.f2.f1), .int .i64 ((rd_T37 l0 x10_0).f1.f3), .int .i64 ((rd_T37 l0 x10_0).f1.f4), .int .i64 ((rd_T37 l0 x10_0).f2), .int .i64 ((rd_T37 l0 x10_0).f3), .int .i64 t455, .int .i64 ((rd_T37 l0 x10_0).f5.f0), .int .i64 ((rd_T37 l0 x10_0).f5.f1), .int .i64 ((rd_T37 l0 x10_0).f5.f2), .int .i64 ((rd_T37 l0 x10_0).f6), .int .i64 ((rd_T37 l0 x10_0).f7)].toArray :: _) _ _ from hs_))); replace HK := Aside0.mk (HK.out.trans hk_); have hb_ := SL.at_ (SL.get1 HS.out); have hz3000050_0_2 := ((blk_cell hb_ 0).trans rfl : _ = some (.int .i64 ((rd_T37 l0 x10_0).f0))); have hz3000050_1_2 := ((blk_cell hb_ 1).trans rfl : _ = some (.int .i64 ((rd_T37 l0 x10_0).f1.f0))); have hz3000050_2_2 := ((blk_cell hb_ 2).trans rfl : _ = some (.int .i64 ((rd_T37 l0 x10_0).f1.f1.f0))); have hz3000050_3_2 := ((blk_cell hb_ 3).trans rfl : _ = some (.int .i64 ((rd_T37 l0 x10_0).f1.f1.f1))); have hz3000050_4_2 := ((blk_cell hb_ 4).trans rfl : _ = some (.int .i64 ((rd_T37 l0 x10_0).f1.f2.f0))); have hz3000050_5_2 := ((blk_cell hb_ 5).trans rfl : _ = some (.int .i64 ((rd_T37 l0 x10_0).f1.f2.f1))); have hz3000050_6_2 := ((blk_cell hb_ 6).trans rfl : _ = some (.int .i64 ((rd_T37 l0 x10_0).f1.f3))); have hz3000050_7_2 := ((blk_cell hb_ 7).trans rfl : _ = some (.int .i64 ((rd_T37 l0 x10_0).f1.f4))); have hz3000050_8_2 := ((blk_cell hb_ 8).trans rfl : _ = some (.int .i64 ((rd_T37 l0 x10_0).f2))); have hz3000050_9_2 := ((blk_cell hb_ 9).trans rfl : _ = some (.int .i64 ((rd_T37 l0 x10_0).f3))); have hz3000050_10_2 := ((blk_cell hb_ 10).trans rfl : _ = some (.int .i64 t455)); have hz3000050_11_2 := ((blk_cell hb_ 11).trans rfl : _ = some (.int .i64 ((rd_T37 l0 x10_0).f5.f0))); have hz3000050_12_2 := ((blk_cell hb_ 12).trans rfl : _ = some (.int .i64 ((rd_T37 l0 x10_0).f5.f1))); have hz3000050_13_2 := ((blk_cell hb_ 13).trans rfl : _ = some (.int .i64 ((rd_T37 l0 x10_0).f5.f2))); have hz3000050_14_2 := ((blk_cell hb_ 14).trans rfl : _ = some (.int .i64 ((rd_T37 l0 x10_0).f6))); have hz3000050_15_2 := ((blk_cell hb_ 15).trans rfl : _ = some (.int .i64 ((rd_T37 l0 x10_0).f7))); clear hb_) | ((with_reducible refine gate_dst (N := 100) rfl ?_); refine wpList_loadA rfl 37 (.tmp 11) rfl _ rfl [.int .i64 ((rd_T37 l0 x10_0).f0), .int .i64 ((rd_T37 l0 x10_0).f1.f0), .int .i64 ((rd_T37 l0 x10_0).f1.f1.f0), .int .i64 ((rd_T37 l0 x10_0).f1.f1.f1), .int .i64 ((rd_T37 l0 x10_0).f1.f2.f0), .int .i64 ((rd_T37 l0 x10_0).f1.f2.f1), .int .i64 ((rd_T37 l0 x10_0).f1.f3), .int .i64 ((rd_T37 l0 x10_0).f1.f4), .int .i64 ((rd_T37 l0 x10_0).f2), .int .i64 ((rd_T37 l0 x10_0).f3), .int .i64 t455, .int .i64 ((rd_T37 l0 x10_0).f5.f0), .int .i64 ((rd_T37 l0 x10_0).f5.f1), .int .i64 ((rd_T37 l0 x10_0).f5.f2), .int .i64 ((rd_T37 l0 x10_0).f6), .int .i64 ((rd_T37 l0 x10_0).f7)] _ (cells_at (SL.at_ (SL.get1 HS.out)) 0 _ rfl) Try.underlying37 rfl (by kernel_rfl) ?_) | ((with_reducible refine gate_dst (N := 101) rfl ?_); refine wpList_plain rfl (fun K_ hK_ => ?_); refine op_rowF (S := S) (d := k37) ⟨fun h_ => h_⟩ 37 y456 #[.int .i64 ((rd_T37 l0 x10_0).f0), .int .i64 ((rd_T37 l0 x10_0).f1.f0), .int .i64 ((rd_T37 l0 x10_0).f1.f1.f0), .int .i64 ((rd_T37 l0 x10_0).f1.f1.f1), .int .i64 ((rd_T37 l0 x10_0).f1.f2.f0), .int .i64 ((rd_T37 l0 x10_0).f1.f2.f1), .int .i64 ((rd_T37 l0 x10_0).f1.f3), .int .i64 ((rd_T37 l0 x10_0).f1.f4), .int .i64 ((rd_T37 l0 x10_0).f2), .int .i64 ((rd_T37 l0 x10_0).f3), .int .i64 t455, .int .i64 ((rd_T37 l0 x10_0).f5.f0), .int .i64 ((rd_T37 l0 x10_0).f5.f1), .int .i64 ((rd_T37 l0 x10_0).f5.f2), .int .i64 ((rd_T37 l0 x10_0).f6), .int .i64 ((rd_T37 l0 x10_0).f7)] 1 (by rw [← Ny456.out]; exact reps_cons (k37_mkM _ 0 _ (⟨(rd_T37 l0 x10_0).f0, (⟨(rd_T37 l0 x10_0).f1.f0, (⟨(rd_T37 l0 x10_0).f1.f1.f0, (rd_T37 l0 x10_0).f1.f1.f1⟩ : S31), (⟨(rd_T37 l0 x10_0).f1.f2.f0, (rd_T37 l0 x10_0).f1.f2.f1⟩ : S31), (rd_T37 l0 x10_0).f1.f3, (rd_T37 l0 x10_0).f1.f4⟩ : S33), (rd_T37 l0 x10_0).f2, (rd_T37 l0 x10_0).f3, t455, (⟨(rd_T37 l0 x10_0).f5.f0, (rd_T37 l0 x10_0).f5.f1, (rd_T37 l0 x10_0).f5.f2⟩ : S35), (rd_T37 l0 x10_0).f6, (rd_T37 l0 x10_0).f7⟩ : S37)) rfl (Reps.none _ _)) (by rw [← Ny456.out]; rfl) (by decide) (HF.out.keep HK.out) HS.out (by first | (go_simp; done) | (go_simp; rfl)) ?_; intro Az3000052 cz3000052 w30 hs_ hk_; refine hK_ _ _ ?_; clear hK_ K_; replace HS := Aside0.mk ((show SL (row k37 37 (.slice Az3000052 1 cz3000052) y456 :: _) _ _ from hs_)); replace HK := Aside0.mk (HK.out.trans hk_); (try clear hz3000050_0_2 hz3000050_1_2 hz3000050_2_2 hz3000050_3_2 hz3000050_4_2 hz3000050_5_2 hz3000050_6_2 hz3000050_7_2 hz3000050_8_2 hz3000050_9_2 hz3000050_10_2 hz3000050_11_2 hz3000050_12_2 hz3000050_13_2 hz3000050_14_2 hz3000050_15_2)) | ((with_reducible refine gate_dst (N := 102) rfl ?_); refine wpList_plain rfl (fun K_ hK_ => ?_); refine op_appendF (S := S) (d := k37) ⟨fun h_ => h_⟩ (.tmp 99) (.tmp 101) 22 37 (.agg #[(.int .i64 0), (.int .i64 0), (.int .i64 0), (.int .i64 0), (.int .i64 0), (.int .i64 0), (.int .i64 0), (.int .i64 0), (.int .i64 0), (.int .i64 0), (.int .i64 0), (.int .i64 0), (.int .i64 0), (.int .i64 0), (.int .i64 0), (.int .i64 0)]) 128 rfl Try.underlying22 info37 rfl (by decide) (by decide) (.slice Ax8_0 x8_0.length cx8_0) rfl rfl (HF.out.keep HK.out) (SL.get3 HS.out) (SL.row_c HS.out).2.2 (by have := LMc27.out; have e_ := (SL.row_c HS.out).1; omega) y457 Ny457.out ?_; intro A458 c459 w31 hs_ hk_; refine hK_ _ _ ?_; clear hK_ K_; replace HS := Aside0.mk ((SL.back3 (show SL (row k37 37 (.slice A458 y457.length c459) y457 :: _) _ _ from hs_))); replace HK := Aside0.mk (HK.out.trans hk_)))
                        replace HS := Aside0.mk (SL.tail (SL.get1 (SL.tail HS.out)))
                        go_roundg k2
                        case measure => have := HQ1.out; have := HQ2.out; omega
                        case rel => exact ⟨(x9_1), (Ax9_1), (cx9_1), (y457), (A458), (c459), (wrap64 (x10_0 + 1)), (by first | rfl | (simp; done) | (simp [*]; done)), (by first | rfl | (simp; done) | (simp [*]; done)), (by first | rfl | (simp; done) | (simp [*]; done)), H', ⟨by have := HQ1.out; have := HQ2.out; omega⟩, HS, HK⟩
                      · rw [if_neg c27] at H
                        exact absurd H (by simp)
                    · rw [if_neg c26] at H
                      have c26b0 : decide (a2 < ((rd_T37 l0 x10_0).f2)) = false := decide_eq_false c26
                      clear c26
                      have H' := Aside0.mk H
                      clear H
                      have hb_ := SL.at_ (SL.get1 HS.out)
                      have hz3000050_0_0 := ((blk_cell hb_ 0).trans rfl : _ = some (.int .i64 ((rd_T37 l0 x10_0).f0)))
                      have hz3000050_1_0 := ((blk_cell hb_ 1).trans rfl : _ = some (.int .i64 ((rd_T37 l0 x10_0).f1.f0)))
                      have hz3000050_2_0 := ((blk_cell hb_ 2).trans rfl : _ = some (.int .i64 ((rd_T37 l0 x10_0).f1.f1.f0)))
                      have hz3000050_3_0 := ((blk_cell hb_ 3).trans rfl : _ = some (.int .i64 ((rd_T37 l0 x10_0).f1.f1.f1)))
                      have hz3000050_4_0 := ((blk_cell hb_ 4).trans rfl : _ = some (.int .i64 ((rd_T37 l0 x10_0).f1.f2.f0)))
                      have hz3000050_5_0 := ((blk_cell hb_ 5).trans rfl : _ = some (.int .i64 ((rd_T37 l0 x10_0).f1.f2.f1)))
                      have hz3000050_6_0 := ((blk_cell hb_ 6).trans rfl : _ = some (.int .i64 ((rd_T37 l0 x10_0).f1.f3)))
                      have hz3000050_7_0 := ((blk_cell hb_ 7).trans rfl : _ = some (.int .i64 ((rd_T37 l0 x10_0).f1.f4)))
                      have hz3000050_8_0 := ((blk_cell hb_ 8).trans rfl : _ = some (.int .i64 ((rd_T37 l0 x10_0).f2)))
                      have hz3000050_9_0 := ((blk_cell hb_ 9).trans rfl : _ = some (.int .i64 ((rd_T37 l0 x10_0).f3)))
                      have hz3000050_10_0 := ((blk_cell hb_ 10).trans rfl : _ = some (.int .i64 ((rd_T37 l0 x10_0).f4)))
                      have hz3000050_11_0 := ((blk_cell hb_ 11).trans rfl : _ = some (.int .i64 ((rd_T37 l0 x10_0).f5.f0)))
                      have hz3000050_12_0 := ((blk_cell hb_ 12).trans rfl : _ = some (.int .i64 ((rd_T37 l0 x10_0).f5.f1)))
                      have hz3000050_13_0 := ((blk_cell hb_ 13).trans rfl : _ = some (.int .i64 ((rd_T37 l0 x10_0).f5.f2)))
                      have hz3000050_14_0 := ((blk_cell hb_ 14).trans rfl : _ = some (.int .i64 ((rd_T37 l0 x10_0).f6)))
                      have hz3000050_15_0 := ((blk_cell hb_ 15).trans rfl : _ = some (.int .i64 ((rd_T37 l0 x10_0).f7)))
                      clear hb_
                      go_wp2_with (first | ((with_reducible refine gate_dst (N := 93) rfl ?_); refine goesL_ (some 93) rfl rfl Try.func28 (by kernel_rfl) rfl #[.int .i64 ((rd_T37 l0 x10_0).f4), .int .i64 ((rd_T37 l0 x10_0).f3)] rfl (by (try simp only [List.map_toArray, List.map_cons, List.map_nil]); first | done | rfl | (simp; done)) ?_; (with_reducible refine (barrowref01_Add.calls k2 _ _ _ _  Hc25.out).mono ?_); rintro e_ w32 ⟨rfl, hb_⟩; refine ⟨_, rfl, ?_⟩; replace hb_ := Drawn0.below hb_; replace HS := Aside0.mk (HS.out.below hb_); replace HK := Aside0.mk (HK.out.trans (Keep.below hb_)); (try clear hz3000050_0_0 hz3000050_1_0 hz3000050_2_0 hz3000050_3_0 hz3000050_4_0 hz3000050_5_0 hz3000050_6_0 hz3000050_7_0 hz3000050_8_0 hz3000050_9_0 hz3000050_10_0 hz3000050_11_0 hz3000050_12_0 hz3000050_13_0 hz3000050_14_0 hz3000050_15_0)) | ((with_reducible refine gate_store (t := 3) (p := 94) (v := (.tmp 93)) rfl ?_); refine wpList_plain rfl (fun K_ hK_ => ?_); refine op_store (S := S) 3 (.tmp 94) (.tmp 93) rfl g3000050 10 (.int .i64 t455) [.int .i64 t455] rfl rfl rfl (by kernel_rfl) (by simp [Value.oneCell']) (SL.get1 HS.out) (by simp) ?_; intro w33 hs_ hk_; refine hK_ _ _ ?_; clear hK_ K_; replace HS := Aside0.mk ((SL.back1 (show SL (cells g3000050 37 [.int .i64 ((rd_T37 l0 x10_0).f0), .int .i64 ((rd_T37 l0 x10_0).f1.f0), .int .i64 ((rd_T37 l0 x10_0).f1.f1.f0), .int .i64 ((rd_T37 l0 x10_0).f1.f1.f1), .int .i64 ((rd_T37 l0 x10_0).f1.f2.f0), .int .i64 ((rd_T37 l0 x10_0).f1.f2.f1), .int .i64 ((rd_T37 l0 x10_0).f1.f3), .int .i64 ((rd_T37 l0 x10_0).f1.f4), .int .i64 ((rd_T37 l0 x10_0).f2), .int .i64 ((rd_T37 l0 x10_0).f3), .int .i64 t455, .int .i64 ((rd_T37 l0 x10_0).f5.f0), .int .i64 ((rd_T37 l0 x10_0).f5.f1), .int .i64 ((rd_T37 l0 x10_0).f5.f2), .int .i64 ((rd_T37 l0 x10_0).f6), .int .i64 ((rd_T37 l0 x10_0).f7)].toArray :: _) _ _ from hs_))); replace HK := Aside0.mk (HK.out.trans hk_); have hb_ := SL.at_ (SL.get1 HS.out); have hz3000050_0_2 := ((blk_cell hb_ 0).trans rfl : _ = some (.int .i64 ((rd_T37 l0 x10_0).f0))); have hz3000050_1_2 := ((blk_cell hb_ 1).trans rfl : _ = some (.int .i64 ((rd_T37 l0 x10_0).f1.f0))); have hz3000050_2_2 := ((blk_cell hb_ 2).trans rfl : _ = some (.int .i64 ((rd_T37 l0 x10_0).f1.f1.f0))); have hz3000050_3_2 := ((blk_cell hb_ 3).trans rfl : _ = some (.int .i64 ((rd_T37 l0 x10_0).f1.f1.f1))); have hz3000050_4_2 := ((blk_cell hb_ 4).trans rfl : _ = some (.int .i64 ((rd_T37 l0 x10_0).f1.f2.f0))); have hz3000050_5_2 := ((blk_cell hb_ 5).trans rfl : _ = some (.int .i64 ((rd_T37 l0 x10_0).f1.f2.f1))); have hz3000050_6_2 := ((blk_cell hb_ 6).trans rfl : _ = some (.int .i64 ((rd_T37 l0 x10_0).f1.f3))); have hz3000050_7_2 := ((blk_cell hb_ 7).trans rfl : _ = some (.int .i64 ((rd_T37 l0 x10_0).f1.f4))); have hz3000050_8_2 := ((blk_cell hb_ 8).trans rfl : _ = some (.int .i64 ((rd_T37 l0 x10_0).f2))); have hz3000050_9_2 := ((blk_cell hb_ 9).trans rfl : _ = some (.int .i64 ((rd_T37 l0 x10_0).f3))); have hz3000050_10_2 := ((blk_cell hb_ 10).trans rfl : _ = some (.int .i64 t455)); have hz3000050_11_2 := ((blk_cell hb_ 11).trans rfl : _ = some (.int .i64 ((rd_T37 l0 x10_0).f5.f0))); have hz3000050_12_2 := ((blk_cell hb_ 12).trans rfl : _ = some (.int .i64 ((rd_T37 l0 x10_0).f5.f1))); have hz3000050_13_2 := ((blk_cell hb_ 13).trans rfl : _ = some (.int .i64 ((rd_T37 l0 x10_0).f5.f2))); have hz3000050_14_2 := ((blk_cell hb_ 14).trans rfl : _ = some (.int .i64 ((rd_T37 l0 x10_0).f6))); have hz3000050_15_2 := ((blk_cell hb_ 15).trans rfl : _ = some (.int .i64 ((rd_T37 l0 x10_0).f7))); clear hb_))
                      replace HS := Aside0.mk (SL.tail (SL.get1 HS.out))
                      go_roundg k2
                      case measure => have := HQ1.out; have := HQ2.out; omega
                      case rel => exact ⟨(x9_1), (Ax9_1), (cx9_1), (x8_0), (Ax8_0), (cx8_0), (wrap64 (x10_0 + 1)), (by first | rfl | (simp; done) | (simp [*]; done)), (by first | rfl | (simp; done) | (simp [*]; done)), (by first | rfl | (simp; done) | (simp [*]; done)), H', ⟨by have := HQ1.out; have := HQ2.out; omega⟩, HS, HK⟩
            · rw [if_neg c4] at H
              have c4b0 : decide (((rd_T37 l0 x10_0).f4) ≤ ((rd_T37 l0 x10_0).f2)) = false := decide_eq_false c4
              clear c4
              have H' := Aside0.mk H
              clear H
              have pq440 : 0 ≤ (x10_0 : Int) := of_decide_eq_true (by first | (with_reducible assumption) | assumption)
              have qq440 : x10_0 < ((l0.length : Int) : Int) := of_decide_eq_true (by first | (with_reducible assumption) | assumption)
              obtain ⟨adq440, eq440, hxq440_0, hxq440_1, hxq440_2, hxq440_3, hxq440_4, hxq440_5, hxq440_6, hxq440_7, hxq440_8, hxq440_9, hxq440_10, hxq440_11, hxq440_12, hxq440_13, hxq440_14, hxq440_15⟩ := at_T37 (RO.at_ HR0.out HK.out) x10_0 pq440 qq440
              cases eq440
              replace pq440 := eq_true pq440
              replace qq440 := eq_true qq440
              go_wp2_with (first | ((with_reducible refine gate_dst (N := 24) rfl ?_); refine wpList_loadA rfl 37 (.tmp 23) rfl _ rfl _ _ (ats_of hxq440_0 (atk_cons hxq440_1 (atk_cons hxq440_2 (atk_cons hxq440_3 (atk_cons hxq440_4 (atk_cons hxq440_5 (atk_cons hxq440_6 (atk_cons hxq440_7 (atk_cons hxq440_8 (atk_cons hxq440_9 (atk_cons hxq440_10 (atk_cons hxq440_11 (atk_cons hxq440_12 (atk_cons hxq440_13 (atk_cons hxq440_14 (atk_cons hxq440_15 atk_nil)))))))))))))))) Try.underlying37 rfl (by kernel_rfl) ?_) | ((with_reducible refine gate_dst (N := 11) rfl ?_); refine wpList_plain rfl (fun K_ hK_ => ?_); refine op_box (S := S) (cs := #[.int .i64 0, .int .i64 0, .int .i64 0, .int .i64 0, .int .i64 0, .int .i64 0, .int .i64 0, .int .i64 0, .int .i64 0, .int .i64 0, .int .i64 0, .int .i64 0, .int .i64 0, .int .i64 0, .int .i64 0, .int .i64 0]) (t := 37) (HF.out.keep HK.out) HS.out (by first | (go_simp; done) | (go_simp; rfl)) ?_; intro g3000050 w34 hs_ hk_; refine hK_ _ _ ?_; clear hK_ K_; replace HS := Aside0.mk (hs_); replace HK := Aside0.mk (HK.out.trans hk_)) | ((with_reducible refine gate_store (t := 37) (p := 11) (v := (.tmp 24)) rfl ?_); refine wpList_plain rfl (fun K_ hK_ => ?_); refine op_store (S := S) 37 (.tmp 11) (.tmp 24) rfl g3000050 0 (.agg #[.int .i64 ((rd_T37 l0 x10_0).f0), .int .i64 ((rd_T37 l0 x10_0).f1.f0), .int .i64 ((rd_T37 l0 x10_0).f1.f1.f0), .int .i64 ((rd_T37 l0 x10_0).f1.f1.f1), .int .i64 ((rd_T37 l0 x10_0).f1.f2.f0), .int .i64 ((rd_T37 l0 x10_0).f1.f2.f1), .int .i64 ((rd_T37 l0 x10_0).f1.f3), .int .i64 ((rd_T37 l0 x10_0).f1.f4), .int .i64 ((rd_T37 l0 x10_0).f2), .int .i64 ((rd_T37 l0 x10_0).f3), .int .i64 ((rd_T37 l0 x10_0).f4), .int .i64 ((rd_T37 l0 x10_0).f5.f0), .int .i64 ((rd_T37 l0 x10_0).f5.f1), .int .i64 ((rd_T37 l0 x10_0).f5.f2), .int .i64 ((rd_T37 l0 x10_0).f6), .int .i64 ((rd_T37 l0 x10_0).f7)]) [.int .i64 ((rd_T37 l0 x10_0).f0), .int .i64 ((rd_T37 l0 x10_0).f1.f0), .int .i64 ((rd_T37 l0 x10_0).f1.f1.f0), .int .i64 ((rd_T37 l0 x10_0).f1.f1.f1), .int .i64 ((rd_T37 l0 x10_0).f1.f2.f0), .int .i64 ((rd_T37 l0 x10_0).f1.f2.f1), .int .i64 ((rd_T37 l0 x10_0).f1.f3), .int .i64 ((rd_T37 l0 x10_0).f1.f4), .int .i64 ((rd_T37 l0 x10_0).f2), .int .i64 ((rd_T37 l0 x10_0).f3), .int .i64 ((rd_T37 l0 x10_0).f4), .int .i64 ((rd_T37 l0 x10_0).f5.f0), .int .i64 ((rd_T37 l0 x10_0).f5.f1), .int .i64 ((rd_T37 l0 x10_0).f5.f2), .int .i64 ((rd_T37 l0 x10_0).f6), .int .i64 ((rd_T37 l0 x10_0).f7)] rfl rfl rfl (by kernel_rfl) (by simp [Value.oneCell']) HS.out (by simp) ?_; intro w35 hs_ hk_; refine hK_ _ _ ?_; clear hK_ K_; replace HS := Aside0.mk ((show SL (cells g3000050 37 [.int .i64 ((rd_T37 l0 x10_0).f0), .int .i64 ((rd_T37 l0 x10_0).f1.f0), .int .i64 ((rd_T37 l0 x10_0).f1.f1.f0), .int .i64 ((rd_T37 l0 x10_0).f1.f1.f1), .int .i64 ((rd_T37 l0 x10_0).f1.f2.f0), .int .i64 ((rd_T37 l0 x10_0).f1.f2.f1), .int .i64 ((rd_T37 l0 x10_0).f1.f3), .int .i64 ((rd_T37 l0 x10_0).f1.f4), .int .i64 ((rd_T37 l0 x10_0).f2), .int .i64 ((rd_T37 l0 x10_0).f3), .int .i64 ((rd_T37 l0 x10_0).f4), .int .i64 ((rd_T37 l0 x10_0).f5.f0), .int .i64 ((rd_T37 l0 x10_0).f5.f1), .int .i64 ((rd_T37 l0 x10_0).f5.f2), .int .i64 ((rd_T37 l0 x10_0).f6), .int .i64 ((rd_T37 l0 x10_0).f7)].toArray :: _) _ _ from hs_)); replace HK := Aside0.mk (HK.out.trans hk_); have hb_ := SL.at_ HS.out; have hz3000050_0_2 := ((blk_cell hb_ 0).trans rfl : _ = some (.int .i64 ((rd_T37 l0 x10_0).f0))); have hz3000050_1_2 := ((blk_cell hb_ 1).trans rfl : _ = some (.int .i64 ((rd_T37 l0 x10_0).f1.f0))); have hz3000050_2_2 := ((blk_cell hb_ 2).trans rfl : _ = some (.int .i64 ((rd_T37 l0 x10_0).f1.f1.f0))); have hz3000050_3_2 := ((blk_cell hb_ 3).trans rfl : _ = some (.int .i64 ((rd_T37 l0 x10_0).f1.f1.f1))); have hz3000050_4_2 := ((blk_cell hb_ 4).trans rfl : _ = some (.int .i64 ((rd_T37 l0 x10_0).f1.f2.f0))); have hz3000050_5_2 := ((blk_cell hb_ 5).trans rfl : _ = some (.int .i64 ((rd_T37 l0 x10_0).f1.f2.f1))); have hz3000050_6_2 := ((blk_cell hb_ 6).trans rfl : _ = some (.int .i64 ((rd_T37 l0 x10_0).f1.f3))); have hz3000050_7_2 := ((blk_cell hb_ 7).trans rfl : _ = some (.int .i64 ((rd_T37 l0 x10_0).f1.f4))); have hz3000050_8_2 := ((blk_cell hb_ 8).trans rfl : _ = some (.int .i64 ((rd_T37 l0 x10_0).f2))); have hz3000050_9_2 := ((blk_cell hb_ 9).trans rfl : _ = some (.int .i64 ((rd_T37 l0 x10_0).f3))); have hz3000050_10_2 := ((blk_cell hb_ 10).trans rfl : _ = some (.int .i64 ((rd_T37 l0 x10_0).f4))); have hz3000050_11_2 := ((blk_cell hb_ 11).trans rfl : _ = some (.int .i64 ((rd_T37 l0 x10_0).f5.f0))); have hz3000050_12_2 := ((blk_cell hb_ 12).trans rfl : _ = some (.int .i64 ((rd_T37 l0 x10_0).f5.f1))); have hz3000050_13_2 := ((blk_cell hb_ 13).trans rfl : _ = some (.int .i64 ((rd_T37 l0 x10_0).f5.f2))); have hz3000050_14_2 := ((blk_cell hb_ 14).trans rfl : _ = some (.int .i64 ((rd_T37 l0 x10_0).f6))); have hz3000050_15_2 := ((blk_cell hb_ 15).trans rfl : _ = some (.int .i64 ((rd_T37 l0 x10_0).f7))); clear hb_))
              replace HS := Aside0.mk (SL.get2 (SL.get1 (SL.get2 HS.out)))
              go_loopg [9, 13] k1 (fun kq v9 v13 w' => ∃ (x9_101 : List (S56)) (Ax9_101 : Option Addr) (cx9_101 : Nat) (x13_101 : Int), v9 = .slice Ax9_101 x9_101.length cx9_101 ∧ v13 = .int .i64 x13_101 ∧ Aside0 (barrowref33_Tick.l101 kq l0 l1 a2 x8_0 x10_0 x9_101 x13_101 = some (r1, r2)) ∧ Aside0 (kq ≤ k1) ∧ Aside0 (SL (row k56 56 (.slice Ax9_101 x9_101.length cx9_101) x9_101 :: cells g3000050 37 [.int .i64 ((rd_T37 l0 x10_0).f0), .int .i64 ((rd_T37 l0 x10_0).f1.f0), .int .i64 ((rd_T37 l0 x10_0).f1.f1.f0), .int .i64 ((rd_T37 l0 x10_0).f1.f1.f1), .int .i64 ((rd_T37 l0 x10_0).f1.f2.f0), .int .i64 ((rd_T37 l0 x10_0).f1.f2.f1), .int .i64 ((rd_T37 l0 x10_0).f1.f3), .int .i64 ((rd_T37 l0 x10_0).f1.f4), .int .i64 ((rd_T37 l0 x10_0).f2), .int .i64 ((rd_T37 l0 x10_0).f3), .int .i64 ((rd_T37 l0 x10_0).f4), .int .i64 ((rd_T37 l0 x10_0).f5.f0), .int .i64 ((rd_T37 l0 x10_0).f5.f1), .int .i64 ((rd_T37 l0 x10_0).f5.f2), .int .i64 ((rd_T37 l0 x10_0).f6), .int .i64 ((rd_T37 l0 x10_0).f7)].toArray :: row k37 37 (.slice Ax8_0 x8_0.length cx8_0) x8_0 :: L) w' S) ∧ Aside0 (Keep S w w'))
              case atStart => exact ⟨(x9_0), (Ax9_0), (cx9_0), (0), (by first | rfl | (simp; done) | (simp [*]; done)), (by first | rfl | (simp; done) | (simp [*]; done)), H', ⟨Nat.le_refl _⟩, HS, HK⟩
              case round =>
                clear H' HS HK
                try clear hz3000050_0_0 hz3000050_1_0 hz3000050_2_0 hz3000050_3_0 hz3000050_4_0 hz3000050_5_0 hz3000050_6_0 hz3000050_7_0 hz3000050_8_0 hz3000050_9_0 hz3000050_10_0 hz3000050_11_0 hz3000050_12_0 hz3000050_13_0 hz3000050_14_0 hz3000050_15_0
                try clear hz3000050_0_0 hz3000050_1_0 hz3000050_2_0 hz3000050_3_0 hz3000050_4_0 hz3000050_5_0 hz3000050_6_0 hz3000050_7_0 hz3000050_8_0 hz3000050_9_0 hz3000050_10_0 hz3000050_11_0 hz3000050_12_0 hz3000050_13_0 hz3000050_14_0 hz3000050_15_0
                try clear hz3000050_0_0 hz3000050_1_0 hz3000050_2_0 hz3000050_3_0 hz3000050_4_0 hz3000050_5_0 hz3000050_6_0 hz3000050_7_0 hz3000050_8_0 hz3000050_9_0 hz3000050_10_0 hz3000050_11_0 hz3000050_12_0 hz3000050_13_0 hz3000050_14_0 hz3000050_15_0
                obtain ⟨x9_101, Ax9_101, cx9_101, x13_101, rfl, rfl, HA, HQ2, HS, HK⟩ := hrel
                cases gk with
                | zero => exact absurd HA.out (by simp [barrowref33_Tick.l101])
                | succ k2 =>
                  have H := HA.out
                  clear HA
                  simp only [barrowref33_Tick.l101] at H
                  by_cases c36 : x13_101 < (l1.length : Int)
                  · rw [if_pos c36] at H
                    have c36b0 : decide (x13_101 < (l1.length : Int)) = true := decide_eq_true c36
                    clear c36
                    by_cases c37 : ((rd_T37 l0 x10_0).f2) > a2
                    · rw [if_pos c37] at H
                      have c37b0 : decide (a2 < ((rd_T37 l0 x10_0).f2)) = true := decide_eq_true c37
                      clear c37
                      replace H := Option.bind_eq_some_iff.1 H
                      obtain ⟨y460, hy4600, H⟩ := H
                      try dsimp only at H
                      have hy460 := Option.some.inj hy4600
                      clear hy4600
                      have Ny460 := Aside0.mk hy460
                      clear hy460
                      by_cases c38 : x8_0.length + y460.length < 1099511627776
                      · rw [if_pos c38] at H
                        have LMc38 := Aside0.mk c38
                        clear c38
                        replace H := Option.bind_eq_some_iff.1 H
                        obtain ⟨y461, hy4610, H⟩ := H
                        try dsimp only at H
                        have hy461 := Option.some.inj hy4610
                        clear hy4610
                        have Ny461 := Aside0.mk hy461
                        clear hy461
                        have H' := Aside0.mk H
                        clear H
                        have hb_ := SL.at_ (SL.get1 HS.out)
                        have hz3000050_0_0 := ((blk_cell hb_ 0).trans rfl : _ = some (.int .i64 ((rd_T37 l0 x10_0).f0)))
                        have hz3000050_1_0 := ((blk_cell hb_ 1).trans rfl : _ = some (.int .i64 ((rd_T37 l0 x10_0).f1.f0)))
                        have hz3000050_2_0 := ((blk_cell hb_ 2).trans rfl : _ = some (.int .i64 ((rd_T37 l0 x10_0).f1.f1.f0)))
                        have hz3000050_3_0 := ((blk_cell hb_ 3).trans rfl : _ = some (.int .i64 ((rd_T37 l0 x10_0).f1.f1.f1)))
                        have hz3000050_4_0 := ((blk_cell hb_ 4).trans rfl : _ = some (.int .i64 ((rd_T37 l0 x10_0).f1.f2.f0)))
                        have hz3000050_5_0 := ((blk_cell hb_ 5).trans rfl : _ = some (.int .i64 ((rd_T37 l0 x10_0).f1.f2.f1)))
                        have hz3000050_6_0 := ((blk_cell hb_ 6).trans rfl : _ = some (.int .i64 ((rd_T37 l0 x10_0).f1.f3)))
                        have hz3000050_7_0 := ((blk_cell hb_ 7).trans rfl : _ = some (.int .i64 ((rd_T37 l0 x10_0).f1.f4)))
                        have hz3000050_8_0 := ((blk_cell hb_ 8).trans rfl : _ = some (.int .i64 ((rd_T37 l0 x10_0).f2)))
                        have hz3000050_9_0 := ((blk_cell hb_ 9).trans rfl : _ = some (.int .i64 ((rd_T37 l0 x10_0).f3)))
                        have hz3000050_10_0 := ((blk_cell hb_ 10).trans rfl : _ = some (.int .i64 ((rd_T37 l0 x10_0).f4)))
                        have hz3000050_11_0 := ((blk_cell hb_ 11).trans rfl : _ = some (.int .i64 ((rd_T37 l0 x10_0).f5.f0)))
                        have hz3000050_12_0 := ((blk_cell hb_ 12).trans rfl : _ = some (.int .i64 ((rd_T37 l0 x10_0).f5.f1)))
                        have hz3000050_13_0 := ((blk_cell hb_ 13).trans rfl : _ = some (.int .i64 ((rd_T37 l0 x10_0).f5.f2)))
                        have hz3000050_14_0 := ((blk_cell hb_ 14).trans rfl : _ = some (.int .i64 ((rd_T37 l0 x10_0).f6)))
                        have hz3000050_15_0 := ((blk_cell hb_ 15).trans rfl : _ = some (.int .i64 ((rd_T37 l0 x10_0).f7)))
                        clear hb_
                        go_wp2_with (first | ((with_reducible refine gate_dst (N := 100) rfl ?_); refine wpList_loadA rfl 37 (.tmp 11) rfl _ rfl [.int .i64 ((rd_T37 l0 x10_0).f0), .int .i64 ((rd_T37 l0 x10_0).f1.f0), .int .i64 ((rd_T37 l0 x10_0).f1.f1.f0), .int .i64 ((rd_T37 l0 x10_0).f1.f1.f1), .int .i64 ((rd_T37 l0 x10_0).f1.f2.f0), .int .i64 ((rd_T37 l0 x10_0).f1.f2.f1), .int .i64 ((rd_T37 l0 x10_0).f1.f3), .int .i64 ((rd_T37 l0 x10_0).f1.f4), .int .i64 ((rd_T37 l0 x10_0).f2), .int .i64 ((rd_T37 l0 x10_0).f3), .int .i64 ((rd_T37 l0 x10_0).f4), .int .i64 ((rd_T37 l0 x10_0).f5.f0), .int .i64 ((rd_T37 l0 x10_0).f5.f1), .int .i64 ((rd_T37 l0 x10_0).f5.f2), .int .i64 ((rd_T37 l0 x10_0).f6), .int .i64 ((rd_T37 l0 x10_0).f7)] _ (cells_at (SL.at_ (SL.get1 HS.out)) 0 _ rfl) Try.underlying37 rfl (by kernel_rfl) ?_) | ((with_reducible refine gate_dst (N := 101) rfl ?_); refine wpList_plain rfl (fun K_ hK_ => ?_); refine op_rowF (S := S) (d := k37) ⟨fun h_ => h_⟩ 37 y460 #[.int .i64 ((rd_T37 l0 x10_0).f0), .int .i64 ((rd_T37 l0 x10_0).f1.f0), .int .i64 ((rd_T37 l0 x10_0).f1.f1.f0), .int .i64 ((rd_T37 l0 x10_0).f1.f1.f1), .int .i64 ((rd_T37 l0 x10_0).f1.f2.f0), .int .i64 ((rd_T37 l0 x10_0).f1.f2.f1), .int .i64 ((rd_T37 l0 x10_0).f1.f3), .int .i64 ((rd_T37 l0 x10_0).f1.f4), .int .i64 ((rd_T37 l0 x10_0).f2), .int .i64 ((rd_T37 l0 x10_0).f3), .int .i64 ((rd_T37 l0 x10_0).f4), .int .i64 ((rd_T37 l0 x10_0).f5.f0), .int .i64 ((rd_T37 l0 x10_0).f5.f1), .int .i64 ((rd_T37 l0 x10_0).f5.f2), .int .i64 ((rd_T37 l0 x10_0).f6), .int .i64 ((rd_T37 l0 x10_0).f7)] 1 (by rw [← Ny460.out]; exact reps_cons (k37_mkM _ 0 _ (⟨(rd_T37 l0 x10_0).f0, (⟨(rd_T37 l0 x10_0).f1.f0, (⟨(rd_T37 l0 x10_0).f1.f1.f0, (rd_T37 l0 x10_0).f1.f1.f1⟩ : S31), (⟨(rd_T37 l0 x10_0).f1.f2.f0, (rd_T37 l0 x10_0).f1.f2.f1⟩ : S31), (rd_T37 l0 x10_0).f1.f3, (rd_T37 l0 x10_0).f1.f4⟩ : S33), (rd_T37 l0 x10_0).f2, (rd_T37 l0 x10_0).f3, (rd_T37 l0 x10_0).f4, (⟨(rd_T37 l0 x10_0).f5.f0, (rd_T37 l0 x10_0).f5.f1, (rd_T37 l0 x10_0).f5.f2⟩ : S35), (rd_T37 l0 x10_0).f6, (rd_T37 l0 x10_0).f7⟩ : S37)) rfl (Reps.none _ _)) (by rw [← Ny460.out]; rfl) (by decide) (HF.out.keep HK.out) HS.out (by first | (go_simp; done) | (go_simp; rfl)) ?_; intro Az3000052 cz3000052 w39 hs_ hk_; refine hK_ _ _ ?_; clear hK_ K_; replace HS := Aside0.mk ((show SL (row k37 37 (.slice Az3000052 1 cz3000052) y460 :: _) _ _ from hs_)); replace HK := Aside0.mk (HK.out.trans hk_); (try clear hz3000050_0_0 hz3000050_1_0 hz3000050_2_0 hz3000050_3_0 hz3000050_4_0 hz3000050_5_0 hz3000050_6_0 hz3000050_7_0 hz3000050_8_0 hz3000050_9_0 hz3000050_10_0 hz3000050_11_0 hz3000050_12_0 hz3000050_13_0 hz3000050_14_0 hz3000050_15_0)) | ((with_reducible refine gate_dst (N := 102) rfl ?_); refine wpList_plain rfl (fun K_ hK_ => ?_); refine op_appendF (S := S) (d := k37) ⟨fun h_ => h_⟩ (.tmp 99) (.tmp 101) 22 37 (.agg #[(.int .i64 0), (.int .i64 0), (.int .i64 0), (.int .i64 0), (.int .i64 0), (.int .i64 0), (.int .i64 0), (.int .i64 0), (.int .i64 0), (.int .i64 0), (.int .i64 0), (.int .i64 0), (.int .i64 0), (.int .i64 0), (.int .i64 0), (.int .i64 0)]) 128 rfl Try.underlying22 info37 rfl (by decide) (by decide) (.slice Ax8_0 x8_0.length cx8_0) rfl rfl (HF.out.keep HK.out) (SL.get3 HS.out) (SL.row_c HS.out).2.2 (by have := LMc38.out; have e_ := (SL.row_c HS.out).1; omega) y461 Ny461.out ?_; intro A462 c463 w40 hs_ hk_; refine hK_ _ _ ?_; clear hK_ K_; replace HS := Aside0.mk ((SL.back3 (show SL (row k37 37 (.slice A462 y461.length c463) y461 :: _) _ _ from hs_))); replace HK := Aside0.mk (HK.out.trans hk_)))
                        replace HS := Aside0.mk (SL.tail (SL.get1 (SL.tail HS.out)))
                        go_roundg k2
                        case measure => have := HQ1.out; have := HQ2.out; omega
                        case rel => exact ⟨(x9_101), (Ax9_101), (cx9_101), (y461), (A462), (c463), (wrap64 (x10_0 + 1)), (by first | rfl | (simp; done) | (simp [*]; done)), (by first | rfl | (simp; done) | (simp [*]; done)), (by first | rfl | (simp; done) | (simp [*]; done)), H', ⟨by have := HQ1.out; have := HQ2.out; omega⟩, HS, HK⟩
                      · rw [if_neg c38] at H
                        exact absurd H (by simp)
                    · rw [if_neg c37] at H
                      have c37b0 : decide (a2 < ((rd_T37 l0 x10_0).f2)) = false := decide_eq_false c37
                      clear c37
                      have H' := Aside0.mk H
                      clear H
                      have hb_ := SL.at_ (SL.get1 HS.out)
                      have hz3000050_0_0 := ((blk_cell hb_ 0).trans rfl : _ = some (.int .i64 ((rd_T37 l0 x10_0).f0)))
                      have hz3000050_1_0 := ((blk_cell hb_ 1).trans rfl : _ = some (.int .i64 ((rd_T37 l0 x10_0).f1.f0)))
                      have hz3000050_2_0 := ((blk_cell hb_ 2).trans rfl : _ = some (.int .i64 ((rd_T37 l0 x10_0).f1.f1.f0)))
                      have hz3000050_3_0 := ((blk_cell hb_ 3).trans rfl : _ = some (.int .i64 ((rd_T37 l0 x10_0).f1.f1.f1)))
                      have hz3000050_4_0 := ((blk_cell hb_ 4).trans rfl : _ = some (.int .i64 ((rd_T37 l0 x10_0).f1.f2.f0)))
                      have hz3000050_5_0 := ((blk_cell hb_ 5).trans rfl : _ = some (.int .i64 ((rd_T37 l0 x10_0).f1.f2.f1)))
                      have hz3000050_6_0 := ((blk_cell hb_ 6).trans rfl : _ = some (.int .i64 ((rd_T37 l0 x10_0).f1.f3)))
                      have hz3000050_7_0 := ((blk_cell hb_ 7).trans rfl : _ = some (.int .i64 ((rd_T37 l0 x10_0).f1.f4)))
                      have hz3000050_8_0 := ((blk_cell hb_ 8).trans rfl : _ = some (.int .i64 ((rd_T37 l0 x10_0).f2)))
                      have hz3000050_9_0 := ((blk_cell hb_ 9).trans rfl : _ = some (.int .i64 ((rd_T37 l0 x10_0).f3)))
                      have hz3000050_10_0 := ((blk_cell hb_ 10).trans rfl : _ = some (.int .i64 ((rd_T37 l0 x10_0).f4)))
                      have hz3000050_11_0 := ((blk_cell hb_ 11).trans rfl : _ = some (.int .i64 ((rd_T37 l0 x10_0).f5.f0)))
                      have hz3000050_12_0 := ((blk_cell hb_ 12).trans rfl : _ = some (.int .i64 ((rd_T37 l0 x10_0).f5.f1)))
                      have hz3000050_13_0 := ((blk_cell hb_ 13).trans rfl : _ = some (.int .i64 ((rd_T37 l0 x10_0).f5.f2)))
                      have hz3000050_14_0 := ((blk_cell hb_ 14).trans rfl : _ = some (.int .i64 ((rd_T37 l0 x10_0).f6)))
                      have hz3000050_15_0 := ((blk_cell hb_ 15).trans rfl : _ = some (.int .i64 ((rd_T37 l0 x10_0).f7)))
                      clear hb_
                      go_wp2
                      replace HS := Aside0.mk (SL.tail (SL.get1 HS.out))
                      go_roundg k2
                      case measure => have := HQ1.out; have := HQ2.out; omega
                      case rel => exact ⟨(x9_101), (Ax9_101), (cx9_101), (x8_0), (Ax8_0), (cx8_0), (wrap64 (x10_0 + 1)), (by first | rfl | (simp; done) | (simp [*]; done)), (by first | rfl | (simp; done) | (simp [*]; done)), (by first | rfl | (simp; done) | (simp [*]; done)), H', ⟨by have := HQ1.out; have := HQ2.out; omega⟩, HS, HK⟩
                  · rw [if_neg c36] at H
                    have c36b0 : decide (x13_101 < (l1.length : Int)) = false := decide_eq_false c36
                    clear c36
                    by_cases c41 : ((rd_T37 l0 x10_0).f2) > a2
                    · rw [if_pos c41] at H
                      have c41b0 : decide (a2 < ((rd_T37 l0 x10_0).f2)) = true := decide_eq_true c41
                      clear c41
                      replace H := Option.bind_eq_some_iff.1 H
                      obtain ⟨y464, hy4640, H⟩ := H
                      try dsimp only at H
                      have hy464 := Option.some.inj hy4640
                      clear hy4640
                      have Ny464 := Aside0.mk hy464
                      clear hy464
                      by_cases c42 : x8_0.length + y464.length < 1099511627776
                      · rw [if_pos c42] at H
                        have LMc42 := Aside0.mk c42
                        clear c42
                        replace H := Option.bind_eq_some_iff.1 H
                        obtain ⟨y465, hy4650, H⟩ := H
                        try dsimp only at H
                        have hy465 := Option.some.inj hy4650
                        clear hy4650
                        have Ny465 := Aside0.mk hy465
                        clear hy465
                        have H' := Aside0.mk H
                        clear H
                        have hb_ := SL.at_ (SL.get1 HS.out)
                        have hz3000050_0_0 := ((blk_cell hb_ 0).trans rfl : _ = some (.int .i64 ((rd_T37 l0 x10_0).f0)))
                        have hz3000050_1_0 := ((blk_cell hb_ 1).trans rfl : _ = some (.int .i64 ((rd_T37 l0 x10_0).f1.f0)))
                        have hz3000050_2_0 := ((blk_cell hb_ 2).trans rfl : _ = some (.int .i64 ((rd_T37 l0 x10_0).f1.f1.f0)))
                        have hz3000050_3_0 := ((blk_cell hb_ 3).trans rfl : _ = some (.int .i64 ((rd_T37 l0 x10_0).f1.f1.f1)))
                        have hz3000050_4_0 := ((blk_cell hb_ 4).trans rfl : _ = some (.int .i64 ((rd_T37 l0 x10_0).f1.f2.f0)))
                        have hz3000050_5_0 := ((blk_cell hb_ 5).trans rfl : _ = some (.int .i64 ((rd_T37 l0 x10_0).f1.f2.f1)))
                        have hz3000050_6_0 := ((blk_cell hb_ 6).trans rfl : _ = some (.int .i64 ((rd_T37 l0 x10_0).f1.f3)))
                        have hz3000050_7_0 := ((blk_cell hb_ 7).trans rfl : _ = some (.int .i64 ((rd_T37 l0 x10_0).f1.f4)))
                        have hz3000050_8_0 := ((blk_cell hb_ 8).trans rfl : _ = some (.int .i64 ((rd_T37 l0 x10_0).f2)))
                        have hz3000050_9_0 := ((blk_cell hb_ 9).trans rfl : _ = some (.int .i64 ((rd_T37 l0 x10_0).f3)))
                        have hz3000050_10_0 := ((blk_cell hb_ 10).trans rfl : _ = some (.int .i64 ((rd_T37 l0 x10_0).f4)))
                        have hz3000050_11_0 := ((blk_cell hb_ 11).trans rfl : _ = some (.int .i64 ((rd_T37 l0 x10_0).f5.f0)))
                        have hz3000050_12_0 := ((blk_cell hb_ 12).trans rfl : _ = some (.int .i64 ((rd_T37 l0 x10_0).f5.f1)))
                        have hz3000050_13_0 := ((blk_cell hb_ 13).trans rfl : _ = some (.int .i64 ((rd_T37 l0 x10_0).f5.f2)))
                        have hz3000050_14_0 := ((blk_cell hb_ 14).trans rfl : _ = some (.int .i64 ((rd_T37 l0 x10_0).f6)))
                        have hz3000050_15_0 := ((blk_cell hb_ 15).trans rfl : _ = some (.int .i64 ((rd_T37 l0 x10_0).f7)))
                        clear hb_
                        go_wp2_with (first | ((with_reducible refine gate_dst (N := 100) rfl ?_); refine wpList_loadA rfl 37 (.tmp 11) rfl _ rfl [.int .i64 ((rd_T37 l0 x10_0).f0), .int .i64 ((rd_T37 l0 x10_0).f1.f0), .int .i64 ((rd_T37 l0 x10_0).f1.f1.f0), .int .i64 ((rd_T37 l0 x10_0).f1.f1.f1), .int .i64 ((rd_T37 l0 x10_0).f1.f2.f0), .int .i64 ((rd_T37 l0 x10_0).f1.f2.f1), .int .i64 ((rd_T37 l0 x10_0).f1.f3), .int .i64 ((rd_T37 l0 x10_0).f1.f4), .int .i64 ((rd_T37 l0 x10_0).f2), .int .i64 ((rd_T37 l0 x10_0).f3), .int .i64 ((rd_T37 l0 x10_0).f4), .int .i64 ((rd_T37 l0 x10_0).f5.f0), .int .i64 ((rd_T37 l0 x10_0).f5.f1), .int .i64 ((rd_T37 l0 x10_0).f5.f2), .int .i64 ((rd_T37 l0 x10_0).f6), .int .i64 ((rd_T37 l0 x10_0).f7)] _ (cells_at (SL.at_ (SL.get1 HS.out)) 0 _ rfl) Try.underlying37 rfl (by kernel_rfl) ?_) | ((with_reducible refine gate_dst (N := 101) rfl ?_); refine wpList_plain rfl (fun K_ hK_ => ?_); refine op_rowF (S := S) (d := k37) ⟨fun h_ => h_⟩ 37 y464 #[.int .i64 ((rd_T37 l0 x10_0).f0), .int .i64 ((rd_T37 l0 x10_0).f1.f0), .int .i64 ((rd_T37 l0 x10_0).f1.f1.f0), .int .i64 ((rd_T37 l0 x10_0).f1.f1.f1), .int .i64 ((rd_T37 l0 x10_0).f1.f2.f0), .int .i64 ((rd_T37 l0 x10_0).f1.f2.f1), .int .i64 ((rd_T37 l0 x10_0).f1.f3), .int .i64 ((rd_T37 l0 x10_0).f1.f4), .int .i64 ((rd_T37 l0 x10_0).f2), .int .i64 ((rd_T37 l0 x10_0).f3), .int .i64 ((rd_T37 l0 x10_0).f4), .int .i64 ((rd_T37 l0 x10_0).f5.f0), .int .i64 ((rd_T37 l0 x10_0).f5.f1), .int .i64 ((rd_T37 l0 x10_0).f5.f2), .int .i64 ((rd_T37 l0 x10_0).f6), .int .i64 ((rd_T37 l0 x10_0).f7)] 1 (by rw [← Ny464.out]; exact reps_cons (k37_mkM _ 0 _ (⟨(rd_T37 l0 x10_0).f0, (⟨(rd_T37 l0 x10_0).f1.f0, (⟨(rd_T37 l0 x10_0).f1.f1.f0, (rd_T37 l0 x10_0).f1.f1.f1⟩ : S31), (⟨(rd_T37 l0 x10_0).f1.f2.f0, (rd_T37 l0 x10_0).f1.f2.f1⟩ : S31), (rd_T37 l0 x10_0).f1.f3, (rd_T37 l0 x10_0).f1.f4⟩ : S33), (rd_T37 l0 x10_0).f2, (rd_T37 l0 x10_0).f3, (rd_T37 l0 x10_0).f4, (⟨(rd_T37 l0 x10_0).f5.f0, (rd_T37 l0 x10_0).f5.f1, (rd_T37 l0 x10_0).f5.f2⟩ : S35), (rd_T37 l0 x10_0).f6, (rd_T37 l0 x10_0).f7⟩ : S37)) rfl (Reps.none _ _)) (by rw [← Ny464.out]; rfl) (by decide) (HF.out.keep HK.out) HS.out (by first | (go_simp; done) | (go_simp; rfl)) ?_; intro Az3000052 cz3000052 w43 hs_ hk_; refine hK_ _ _ ?_; clear hK_ K_; replace HS := Aside0.mk ((show SL (row k37 37 (.slice Az3000052 1 cz3000052) y464 :: _) _ _ from hs_)); replace HK := Aside0.mk (HK.out.trans hk_); (try clear hz3000050_0_0 hz3000050_1_0 hz3000050_2_0 hz3000050_3_0 hz3000050_4_0 hz3000050_5_0 hz3000050_6_0 hz3000050_7_0 hz3000050_8_0 hz3000050_9_0 hz3000050_10_0 hz3000050_11_0 hz3000050_12_0 hz3000050_13_0 hz3000050_14_0 hz3000050_15_0)) | ((with_reducible refine gate_dst (N := 102) rfl ?_); refine wpList_plain rfl (fun K_ hK_ => ?_); refine op_appendF (S := S) (d := k37) ⟨fun h_ => h_⟩ (.tmp 99) (.tmp 101) 22 37 (.agg #[(.int .i64 0), (.int .i64 0), (.int .i64 0), (.int .i64 0), (.int .i64 0), (.int .i64 0), (.int .i64 0), (.int .i64 0), (.int .i64 0), (.int .i64 0), (.int .i64 0), (.int .i64 0), (.int .i64 0), (.int .i64 0), (.int .i64 0), (.int .i64 0)]) 128 rfl Try.underlying22 info37 rfl (by decide) (by decide) (.slice Ax8_0 x8_0.length cx8_0) rfl rfl (HF.out.keep HK.out) (SL.get3 HS.out) (SL.row_c HS.out).2.2 (by have := LMc42.out; have e_ := (SL.row_c HS.out).1; omega) y465 Ny465.out ?_; intro A466 c467 w44 hs_ hk_; refine hK_ _ _ ?_; clear hK_ K_; replace HS := Aside0.mk ((SL.back3 (show SL (row k37 37 (.slice A466 y465.length c467) y465 :: _) _ _ from hs_))); replace HK := Aside0.mk (HK.out.trans hk_)))
                        replace HS := Aside0.mk (SL.tail (SL.get1 (SL.tail HS.out)))
                        go_roundg k2
                        case measure => have := HQ1.out; have := HQ2.out; omega
                        case rel => exact ⟨(x9_101), (Ax9_101), (cx9_101), (y465), (A466), (c467), (wrap64 (x10_0 + 1)), (by first | rfl | (simp; done) | (simp [*]; done)), (by first | rfl | (simp; done) | (simp [*]; done)), (by first | rfl | (simp; done) | (simp [*]; done)), H', ⟨by have := HQ1.out; have := HQ2.out; omega⟩, HS, HK⟩
                      · rw [if_neg c42] at H
                        exact absurd H (by simp)
                    · rw [if_neg c41] at H
                      have c41b0 : decide (a2 < ((rd_T37 l0 x10_0).f2)) = false := decide_eq_false c41
                      clear c41
                      have H' := Aside0.mk H
                      clear H
                      have hb_ := SL.at_ (SL.get1 HS.out)
                      have hz3000050_0_0 := ((blk_cell hb_ 0).trans rfl : _ = some (.int .i64 ((rd_T37 l0 x10_0).f0)))
                      have hz3000050_1_0 := ((blk_cell hb_ 1).trans rfl : _ = some (.int .i64 ((rd_T37 l0 x10_0).f1.f0)))
                      have hz3000050_2_0 := ((blk_cell hb_ 2).trans rfl : _ = some (.int .i64 ((rd_T37 l0 x10_0).f1.f1.f0)))
                      have hz3000050_3_0 := ((blk_cell hb_ 3).trans rfl : _ = some (.int .i64 ((rd_T37 l0 x10_0).f1.f1.f1)))
                      have hz3000050_4_0 := ((blk_cell hb_ 4).trans rfl : _ = some (.int .i64 ((rd_T37 l0 x10_0).f1.f2.f0)))
                      have hz3000050_5_0 := ((blk_cell hb_ 5).trans rfl : _ = some (.int .i64 ((rd_T37 l0 x10_0).f1.f2.f1)))
                      have hz3000050_6_0 := ((blk_cell hb_ 6).trans rfl : _ = some (.int .i64 ((rd_T37 l0 x10_0).f1.f3)))
                      have hz3000050_7_0 := ((blk_cell hb_ 7).trans rfl : _ = some (.int .i64 ((rd_T37 l0 x10_0).f1.f4)))
                      have hz3000050_8_0 := ((blk_cell hb_ 8).trans rfl : _ = some (.int .i64 ((rd_T37 l0 x10_0).f2)))
                      have hz3000050_9_0 := ((blk_cell hb_ 9).trans rfl : _ = some (.int .i64 ((rd_T37 l0 x10_0).f3)))
                      have hz3000050_10_0 := ((blk_cell hb_ 10).trans rfl : _ = some (.int .i64 ((rd_T37 l0 x10_0).f4)))
                      have hz3000050_11_0 := ((blk_cell hb_ 11).trans rfl : _ = some (.int .i64 ((rd_T37 l0 x10_0).f5.f0)))
                      have hz3000050_12_0 := ((blk_cell hb_ 12).trans rfl : _ = some (.int .i64 ((rd_T37 l0 x10_0).f5.f1)))
                      have hz3000050_13_0 := ((blk_cell hb_ 13).trans rfl : _ = some (.int .i64 ((rd_T37 l0 x10_0).f5.f2)))
                      have hz3000050_14_0 := ((blk_cell hb_ 14).trans rfl : _ = some (.int .i64 ((rd_T37 l0 x10_0).f6)))
                      have hz3000050_15_0 := ((blk_cell hb_ 15).trans rfl : _ = some (.int .i64 ((rd_T37 l0 x10_0).f7)))
                      clear hb_
                      go_wp2
                      replace HS := Aside0.mk (SL.tail (SL.get1 HS.out))
                      go_roundg k2
                      case measure => have := HQ1.out; have := HQ2.out; omega
                      case rel => exact ⟨(x9_101), (Ax9_101), (cx9_101), (x8_0), (Ax8_0), (cx8_0), (wrap64 (x10_0 + 1)), (by first | rfl | (simp; done) | (simp [*]; done)), (by first | rfl | (simp; done) | (simp [*]; done)), (by first | rfl | (simp; done) | (simp [*]; done)), H', ⟨by have := HQ1.out; have := HQ2.out; omega⟩, HS, HK⟩
          · rw [if_neg c3] at H
            have c3b0 : decide (((rd_T37 l0 x10_0).f4) ≤ a2) = false := decide_eq_false c3
            clear c3
            have H' := Aside0.mk H
            clear H
            have pq440 : 0 ≤ (x10_0 : Int) := of_decide_eq_true (by first | (with_reducible assumption) | assumption)
            have qq440 : x10_0 < ((l0.length : Int) : Int) := of_decide_eq_true (by first | (with_reducible assumption) | assumption)
            obtain ⟨adq440, eq440, hxq440_0, hxq440_1, hxq440_2, hxq440_3, hxq440_4, hxq440_5, hxq440_6, hxq440_7, hxq440_8, hxq440_9, hxq440_10, hxq440_11, hxq440_12, hxq440_13, hxq440_14, hxq440_15⟩ := at_T37 (RO.at_ HR0.out HK.out) x10_0 pq440 qq440
            cases eq440
            replace pq440 := eq_true pq440
            replace qq440 := eq_true qq440
            go_wp2_with (first | ((with_reducible refine gate_dst (N := 24) rfl ?_); refine wpList_loadA rfl 37 (.tmp 23) rfl _ rfl _ _ (ats_of hxq440_0 (atk_cons hxq440_1 (atk_cons hxq440_2 (atk_cons hxq440_3 (atk_cons hxq440_4 (atk_cons hxq440_5 (atk_cons hxq440_6 (atk_cons hxq440_7 (atk_cons hxq440_8 (atk_cons hxq440_9 (atk_cons hxq440_10 (atk_cons hxq440_11 (atk_cons hxq440_12 (atk_cons hxq440_13 (atk_cons hxq440_14 (atk_cons hxq440_15 atk_nil)))))))))))))))) Try.underlying37 rfl (by kernel_rfl) ?_) | ((with_reducible refine gate_dst (N := 11) rfl ?_); refine wpList_plain rfl (fun K_ hK_ => ?_); refine op_box (S := S) (cs := #[.int .i64 0, .int .i64 0, .int .i64 0, .int .i64 0, .int .i64 0, .int .i64 0, .int .i64 0, .int .i64 0, .int .i64 0, .int .i64 0, .int .i64 0, .int .i64 0, .int .i64 0, .int .i64 0, .int .i64 0, .int .i64 0]) (t := 37) (HF.out.keep HK.out) HS.out (by first | (go_simp; done) | (go_simp; rfl)) ?_; intro g3000050 w45 hs_ hk_; refine hK_ _ _ ?_; clear hK_ K_; replace HS := Aside0.mk (hs_); replace HK := Aside0.mk (HK.out.trans hk_)) | ((with_reducible refine gate_store (t := 37) (p := 11) (v := (.tmp 24)) rfl ?_); refine wpList_plain rfl (fun K_ hK_ => ?_); refine op_store (S := S) 37 (.tmp 11) (.tmp 24) rfl g3000050 0 (.agg #[.int .i64 ((rd_T37 l0 x10_0).f0), .int .i64 ((rd_T37 l0 x10_0).f1.f0), .int .i64 ((rd_T37 l0 x10_0).f1.f1.f0), .int .i64 ((rd_T37 l0 x10_0).f1.f1.f1), .int .i64 ((rd_T37 l0 x10_0).f1.f2.f0), .int .i64 ((rd_T37 l0 x10_0).f1.f2.f1), .int .i64 ((rd_T37 l0 x10_0).f1.f3), .int .i64 ((rd_T37 l0 x10_0).f1.f4), .int .i64 ((rd_T37 l0 x10_0).f2), .int .i64 ((rd_T37 l0 x10_0).f3), .int .i64 ((rd_T37 l0 x10_0).f4), .int .i64 ((rd_T37 l0 x10_0).f5.f0), .int .i64 ((rd_T37 l0 x10_0).f5.f1), .int .i64 ((rd_T37 l0 x10_0).f5.f2), .int .i64 ((rd_T37 l0 x10_0).f6), .int .i64 ((rd_T37 l0 x10_0).f7)]) [.int .i64 ((rd_T37 l0 x10_0).f0), .int .i64 ((rd_T37 l0 x10_0).f1.f0), .int .i64 ((rd_T37 l0 x10_0).f1.f1.f0), .int .i64 ((rd_T37 l0 x10_0).f1.f1.f1), .int .i64 ((rd_T37 l0 x10_0).f1.f2.f0), .int .i64 ((rd_T37 l0 x10_0).f1.f2.f1), .int .i64 ((rd_T37 l0 x10_0).f1.f3), .int .i64 ((rd_T37 l0 x10_0).f1.f4), .int .i64 ((rd_T37 l0 x10_0).f2), .int .i64 ((rd_T37 l0 x10_0).f3), .int .i64 ((rd_T37 l0 x10_0).f4), .int .i64 ((rd_T37 l0 x10_0).f5.f0), .int .i64 ((rd_T37 l0 x10_0).f5.f1), .int .i64 ((rd_T37 l0 x10_0).f5.f2), .int .i64 ((rd_T37 l0 x10_0).f6), .int .i64 ((rd_T37 l0 x10_0).f7)] rfl rfl rfl (by kernel_rfl) (by simp [Value.oneCell']) HS.out (by simp) ?_; intro w46 hs_ hk_; refine hK_ _ _ ?_; clear hK_ K_; replace HS := Aside0.mk ((show SL (cells g3000050 37 [.int .i64 ((rd_T37 l0 x10_0).f0), .int .i64 ((rd_T37 l0 x10_0).f1.f0), .int .i64 ((rd_T37 l0 x10_0).f1.f1.f0), .int .i64 ((rd_T37 l0 x10_0).f1.f1.f1), .int .i64 ((rd_T37 l0 x10_0).f1.f2.f0), .int .i64 ((rd_T37 l0 x10_0).f1.f2.f1), .int .i64 ((rd_T37 l0 x10_0).f1.f3), .int .i64 ((rd_T37 l0 x10_0).f1.f4), .int .i64 ((rd_T37 l0 x10_0).f2), .int .i64 ((rd_T37 l0 x10_0).f3), .int .i64 ((rd_T37 l0 x10_0).f4), .int .i64 ((rd_T37 l0 x10_0).f5.f0), .int .i64 ((rd_T37 l0 x10_0).f5.f1), .int .i64 ((rd_T37 l0 x10_0).f5.f2), .int .i64 ((rd_T37 l0 x10_0).f6), .int .i64 ((rd_T37 l0 x10_0).f7)].toArray :: _) _ _ from hs_)); replace HK := Aside0.mk (HK.out.trans hk_); have hb_ := SL.at_ HS.out; have hz3000050_0_2 := ((blk_cell hb_ 0).trans rfl : _ = some (.int .i64 ((rd_T37 l0 x10_0).f0))); have hz3000050_1_2 := ((blk_cell hb_ 1).trans rfl : _ = some (.int .i64 ((rd_T37 l0 x10_0).f1.f0))); have hz3000050_2_2 := ((blk_cell hb_ 2).trans rfl : _ = some (.int .i64 ((rd_T37 l0 x10_0).f1.f1.f0))); have hz3000050_3_2 := ((blk_cell hb_ 3).trans rfl : _ = some (.int .i64 ((rd_T37 l0 x10_0).f1.f1.f1))); have hz3000050_4_2 := ((blk_cell hb_ 4).trans rfl : _ = some (.int .i64 ((rd_T37 l0 x10_0).f1.f2.f0))); have hz3000050_5_2 := ((blk_cell hb_ 5).trans rfl : _ = some (.int .i64 ((rd_T37 l0 x10_0).f1.f2.f1))); have hz3000050_6_2 := ((blk_cell hb_ 6).trans rfl : _ = some (.int .i64 ((rd_T37 l0 x10_0).f1.f3))); have hz3000050_7_2 := ((blk_cell hb_ 7).trans rfl : _ = some (.int .i64 ((rd_T37 l0 x10_0).f1.f4))); have hz3000050_8_2 := ((blk_cell hb_ 8).trans rfl : _ = some (.int .i64 ((rd_T37 l0 x10_0).f2))); have hz3000050_9_2 := ((blk_cell hb_ 9).trans rfl : _ = some (.int .i64 ((rd_T37 l0 x10_0).f3))); have hz3000050_10_2 := ((blk_cell hb_ 10).trans rfl : _ = some (.int .i64 ((rd_T37 l0 x10_0).f4))); have hz3000050_11_2 := ((blk_cell hb_ 11).trans rfl : _ = some (.int .i64 ((rd_T37 l0 x10_0).f5.f0))); have hz3000050_12_2 := ((blk_cell hb_ 12).trans rfl : _ = some (.int .i64 ((rd_T37 l0 x10_0).f5.f1))); have hz3000050_13_2 := ((blk_cell hb_ 13).trans rfl : _ = some (.int .i64 ((rd_T37 l0 x10_0).f5.f2))); have hz3000050_14_2 := ((blk_cell hb_ 14).trans rfl : _ = some (.int .i64 ((rd_T37 l0 x10_0).f6))); have hz3000050_15_2 := ((blk_cell hb_ 15).trans rfl : _ = some (.int .i64 ((rd_T37 l0 x10_0).f7))); clear hb_))
            replace HS := Aside0.mk (SL.get2 (SL.get1 (SL.get2 HS.out)))
            go_loopg [9, 13] k1 (fun kq v9 v13 w' => ∃ (x9_101 : List (S56)) (Ax9_101 : Option Addr) (cx9_101 : Nat) (x13_101 : Int), v9 = .slice Ax9_101 x9_101.length cx9_101 ∧ v13 = .int .i64 x13_101 ∧ Aside0 (barrowref33_Tick.l101 kq l0 l1 a2 x8_0 x10_0 x9_101 x13_101 = some (r1, r2)) ∧ Aside0 (kq ≤ k1) ∧ Aside0 (SL (row k56 56 (.slice Ax9_101 x9_101.length cx9_101) x9_101 :: cells g3000050 37 [.int .i64 ((rd_T37 l0 x10_0).f0), .int .i64 ((rd_T37 l0 x10_0).f1.f0), .int .i64 ((rd_T37 l0 x10_0).f1.f1.f0), .int .i64 ((rd_T37 l0 x10_0).f1.f1.f1), .int .i64 ((rd_T37 l0 x10_0).f1.f2.f0), .int .i64 ((rd_T37 l0 x10_0).f1.f2.f1), .int .i64 ((rd_T37 l0 x10_0).f1.f3), .int .i64 ((rd_T37 l0 x10_0).f1.f4), .int .i64 ((rd_T37 l0 x10_0).f2), .int .i64 ((rd_T37 l0 x10_0).f3), .int .i64 ((rd_T37 l0 x10_0).f4), .int .i64 ((rd_T37 l0 x10_0).f5.f0), .int .i64 ((rd_T37 l0 x10_0).f5.f1), .int .i64 ((rd_T37 l0 x10_0).f5.f2), .int .i64 ((rd_T37 l0 x10_0).f6), .int .i64 ((rd_T37 l0 x10_0).f7)].toArray :: row k37 37 (.slice Ax8_0 x8_0.length cx8_0) x8_0 :: L) w' S) ∧ Aside0 (Keep S w w'))
            case atStart => exact ⟨(x9_0), (Ax9_0), (cx9_0), (0), (by first | rfl | (simp; done) | (simp [*]; done)), (by first | rfl | (simp; done) | (simp [*]; done)), H', ⟨Nat.le_refl _⟩, HS, HK⟩
            case round =>
              clear H' HS HK
              try clear hz3000050_0_0 hz3000050_1_0 hz3000050_2_0 hz3000050_3_0 hz3000050_4_0 hz3000050_5_0 hz3000050_6_0 hz3000050_7_0 hz3000050_8_0 hz3000050_9_0 hz3000050_10_0 hz3000050_11_0 hz3000050_12_0 hz3000050_13_0 hz3000050_14_0 hz3000050_15_0
              obtain ⟨x9_101, Ax9_101, cx9_101, x13_101, rfl, rfl, HA, HQ2, HS, HK⟩ := hrel
              cases gk with
              | zero => exact absurd HA.out (by simp [barrowref33_Tick.l101])
              | succ k2 =>
                have H := HA.out
                clear HA
                simp only [barrowref33_Tick.l101] at H
                by_cases c47 : x13_101 < (l1.length : Int)
                · rw [if_pos c47] at H
                  have c47b0 : decide (x13_101 < (l1.length : Int)) = true := decide_eq_true c47
                  clear c47
                  by_cases c48 : ((rd_T37 l0 x10_0).f2) > a2
                  · rw [if_pos c48] at H
                    have c48b0 : decide (a2 < ((rd_T37 l0 x10_0).f2)) = true := decide_eq_true c48
                    clear c48
                    replace H := Option.bind_eq_some_iff.1 H
                    obtain ⟨y460, hy4600, H⟩ := H
                    try dsimp only at H
                    have hy460 := Option.some.inj hy4600
                    clear hy4600
                    have Ny460 := Aside0.mk hy460
                    clear hy460
                    by_cases c49 : x8_0.length + y460.length < 1099511627776
                    · rw [if_pos c49] at H
                      have LMc49 := Aside0.mk c49
                      clear c49
                      replace H := Option.bind_eq_some_iff.1 H
                      obtain ⟨y461, hy4610, H⟩ := H
                      try dsimp only at H
                      have hy461 := Option.some.inj hy4610
                      clear hy4610
                      have Ny461 := Aside0.mk hy461
                      clear hy461
                      have H' := Aside0.mk H
                      clear H
                      have hb_ := SL.at_ (SL.get1 HS.out)
                      have hz3000050_0_0 := ((blk_cell hb_ 0).trans rfl : _ = some (.int .i64 ((rd_T37 l0 x10_0).f0)))
                      have hz3000050_1_0 := ((blk_cell hb_ 1).trans rfl : _ = some (.int .i64 ((rd_T37 l0 x10_0).f1.f0)))
                      have hz3000050_2_0 := ((blk_cell hb_ 2).trans rfl : _ = some (.int .i64 ((rd_T37 l0 x10_0).f1.f1.f0)))
                      have hz3000050_3_0 := ((blk_cell hb_ 3).trans rfl : _ = some (.int .i64 ((rd_T37 l0 x10_0).f1.f1.f1)))
                      have hz3000050_4_0 := ((blk_cell hb_ 4).trans rfl : _ = some (.int .i64 ((rd_T37 l0 x10_0).f1.f2.f0)))
                      have hz3000050_5_0 := ((blk_cell hb_ 5).trans rfl : _ = some (.int .i64 ((rd_T37 l0 x10_0).f1.f2.f1)))
                      have hz3000050_6_0 := ((blk_cell hb_ 6).trans rfl : _ = some (.int .i64 ((rd_T37 l0 x10_0).f1.f3)))
                      have hz3000050_7_0 := ((blk_cell hb_ 7).trans rfl : _ = some (.int .i64 ((rd_T37 l0 x10_0).f1.f4)))
                      have hz3000050_8_0 := ((blk_cell hb_ 8).trans rfl : _ = some (.int .i64 ((rd_T37 l0 x10_0).f2)))
                      have hz3000050_9_0 := ((blk_cell hb_ 9).trans rfl : _ = some (.int .i64 ((rd_T37 l0 x10_0).f3)))
                      have hz3000050_10_0 := ((blk_cell hb_ 10).trans rfl : _ = some (.int .i64 ((rd_T37 l0 x10_0).f4)))
                      have hz3000050_11_0 := ((blk_cell hb_ 11).trans rfl : _ = some (.int .i64 ((rd_T37 l0 x10_0).f5.f0)))
                      have hz3000050_12_0 := ((blk_cell hb_ 12).trans rfl : _ = some (.int .i64 ((rd_T37 l0 x10_0).f5.f1)))
                      have hz3000050_13_0 := ((blk_cell hb_ 13).trans rfl : _ = some (.int .i64 ((rd_T37 l0 x10_0).f5.f2)))
                      have hz3000050_14_0 := ((blk_cell hb_ 14).trans rfl : _ = some (.int .i64 ((rd_T37 l0 x10_0).f6)))
                      have hz3000050_15_0 := ((blk_cell hb_ 15).trans rfl : _ = some (.int .i64 ((rd_T37 l0 x10_0).f7)))
                      clear hb_
                      go_wp2_with (first | ((with_reducible refine gate_dst (N := 100) rfl ?_); refine wpList_loadA rfl 37 (.tmp 11) rfl _ rfl [.int .i64 ((rd_T37 l0 x10_0).f0), .int .i64 ((rd_T37 l0 x10_0).f1.f0), .int .i64 ((rd_T37 l0 x10_0).f1.f1.f0), .int .i64 ((rd_T37 l0 x10_0).f1.f1.f1), .int .i64 ((rd_T37 l0 x10_0).f1.f2.f0), .int .i64 ((rd_T37 l0 x10_0).f1.f2.f1), .int .i64 ((rd_T37 l0 x10_0).f1.f3), .int .i64 ((rd_T37 l0 x10_0).f1.f4), .int .i64 ((rd_T37 l0 x10_0).f2), .int .i64 ((rd_T37 l0 x10_0).f3), .int .i64 ((rd_T37 l0 x10_0).f4), .int .i64 ((rd_T37 l0 x10_0).f5.f0), .int .i64 ((rd_T37 l0 x10_0).f5.f1), .int .i64 ((rd_T37 l0 x10_0).f5.f2), .int .i64 ((rd_T37 l0 x10_0).f6), .int .i64 ((rd_T37 l0 x10_0).f7)] _ (cells_at (SL.at_ (SL.get1 HS.out)) 0 _ rfl) Try.underlying37 rfl (by kernel_rfl) ?_) | ((with_reducible refine gate_dst (N := 101) rfl ?_); refine wpList_plain rfl (fun K_ hK_ => ?_); refine op_rowF (S := S) (d := k37) ⟨fun h_ => h_⟩ 37 y460 #[.int .i64 ((rd_T37 l0 x10_0).f0), .int .i64 ((rd_T37 l0 x10_0).f1.f0), .int .i64 ((rd_T37 l0 x10_0).f1.f1.f0), .int .i64 ((rd_T37 l0 x10_0).f1.f1.f1), .int .i64 ((rd_T37 l0 x10_0).f1.f2.f0), .int .i64 ((rd_T37 l0 x10_0).f1.f2.f1), .int .i64 ((rd_T37 l0 x10_0).f1.f3), .int .i64 ((rd_T37 l0 x10_0).f1.f4), .int .i64 ((rd_T37 l0 x10_0).f2), .int .i64 ((rd_T37 l0 x10_0).f3), .int .i64 ((rd_T37 l0 x10_0).f4), .int .i64 ((rd_T37 l0 x10_0).f5.f0), .int .i64 ((rd_T37 l0 x10_0).f5.f1), .int .i64 ((rd_T37 l0 x10_0).f5.f2), .int .i64 ((rd_T37 l0 x10_0).f6), .int .i64 ((rd_T37 l0 x10_0).f7)] 1 (by rw [← Ny460.out]; exact reps_cons (k37_mkM _ 0 _ (⟨(rd_T37 l0 x10_0).f0, (⟨(rd_T37 l0 x10_0).f1.f0, (⟨(rd_T37 l0 x10_0).f1.f1.f0, (rd_T37 l0 x10_0).f1.f1.f1⟩ : S31), (⟨(rd_T37 l0 x10_0).f1.f2.f0, (rd_T37 l0 x10_0).f1.f2.f1⟩ : S31), (rd_T37 l0 x10_0).f1.f3, (rd_T37 l0 x10_0).f1.f4⟩ : S33), (rd_T37 l0 x10_0).f2, (rd_T37 l0 x10_0).f3, (rd_T37 l0 x10_0).f4, (⟨(rd_T37 l0 x10_0).f5.f0, (rd_T37 l0 x10_0).f5.f1, (rd_T37 l0 x10_0).f5.f2⟩ : S35), (rd_T37 l0 x10_0).f6, (rd_T37 l0 x10_0).f7⟩ : S37)) rfl (Reps.none _ _)) (by rw [← Ny460.out]; rfl) (by decide) (HF.out.keep HK.out) HS.out (by first | (go_simp; done) | (go_simp; rfl)) ?_; intro Az3000052 cz3000052 w50 hs_ hk_; refine hK_ _ _ ?_; clear hK_ K_; replace HS := Aside0.mk ((show SL (row k37 37 (.slice Az3000052 1 cz3000052) y460 :: _) _ _ from hs_)); replace HK := Aside0.mk (HK.out.trans hk_); (try clear hz3000050_0_0 hz3000050_1_0 hz3000050_2_0 hz3000050_3_0 hz3000050_4_0 hz3000050_5_0 hz3000050_6_0 hz3000050_7_0 hz3000050_8_0 hz3000050_9_0 hz3000050_10_0 hz3000050_11_0 hz3000050_12_0 hz3000050_13_0 hz3000050_14_0 hz3000050_15_0)) | ((with_reducible refine gate_dst (N := 102) rfl ?_); refine wpList_plain rfl (fun K_ hK_ => ?_); refine op_appendF (S := S) (d := k37) ⟨fun h_ => h_⟩ (.tmp 99) (.tmp 101) 22 37 (.agg #[(.int .i64 0), (.int .i64 0), (.int .i64 0), (.int .i64 0), (.int .i64 0), (.int .i64 0), (.int .i64 0), (.int .i64 0), (.int .i64 0), (.int .i64 0), (.int .i64 0), (.int .i64 0), (.int .i64 0), (.int .i64 0), (.int .i64 0), (.int .i64 0)]) 128 rfl Try.underlying22 info37 rfl (by decide) (by decide) (.slice Ax8_0 x8_0.length cx8_0) rfl rfl (HF.out.keep HK.out) (SL.get3 HS.out) (SL.row_c HS.out).2.2 (by have := LMc49.out; have e_ := (SL.row_c HS.out).1; omega) y461 Ny461.out ?_; intro A462 c463 w51 hs_ hk_; refine hK_ _ _ ?_; clear hK_ K_; replace HS := Aside0.mk ((SL.back3 (show SL (row k37 37 (.slice A462 y461.length c463) y461 :: _) _ _ from hs_))); replace HK := Aside0.mk (HK.out.trans hk_)))
                      replace HS := Aside0.mk (SL.tail (SL.get1 (SL.tail HS.out)))
                      go_roundg k2
                      case measure => have := HQ1.out; have := HQ2.out; omega
                      case rel => exact ⟨(x9_101), (Ax9_101), (cx9_101), (y461), (A462), (c463), (wrap64 (x10_0 + 1)), (by first | rfl | (simp; done) | (simp [*]; done)), (by first | rfl | (simp; done) | (simp [*]; done)), (by first | rfl | (simp; done) | (simp [*]; done)), H', ⟨by have := HQ1.out; have := HQ2.out; omega⟩, HS, HK⟩
                    · rw [if_neg c49] at H
                      exact absurd H (by simp)
                  · rw [if_neg c48] at H
                    have c48b0 : decide (a2 < ((rd_T37 l0 x10_0).f2)) = false := decide_eq_false c48
                    clear c48
                    have H' := Aside0.mk H
                    clear H
                    have hb_ := SL.at_ (SL.get1 HS.out)
                    have hz3000050_0_0 := ((blk_cell hb_ 0).trans rfl : _ = some (.int .i64 ((rd_T37 l0 x10_0).f0)))
                    have hz3000050_1_0 := ((blk_cell hb_ 1).trans rfl : _ = some (.int .i64 ((rd_T37 l0 x10_0).f1.f0)))
                    have hz3000050_2_0 := ((blk_cell hb_ 2).trans rfl : _ = some (.int .i64 ((rd_T37 l0 x10_0).f1.f1.f0)))
                    have hz3000050_3_0 := ((blk_cell hb_ 3).trans rfl : _ = some (.int .i64 ((rd_T37 l0 x10_0).f1.f1.f1)))
                    have hz3000050_4_0 := ((blk_cell hb_ 4).trans rfl : _ = some (.int .i64 ((rd_T37 l0 x10_0).f1.f2.f0)))
                    have hz3000050_5_0 := ((blk_cell hb_ 5).trans rfl : _ = some (.int .i64 ((rd_T37 l0 x10_0).f1.f2.f1)))
                    have hz3000050_6_0 := ((blk_cell hb_ 6).trans rfl : _ = some (.int .i64 ((rd_T37 l0 x10_0).f1.f3)))
                    have hz3000050_7_0 := ((blk_cell hb_ 7).trans rfl : _ = some (.int .i64 ((rd_T37 l0 x10_0).f1.f4)))
                    have hz3000050_8_0 := ((blk_cell hb_ 8).trans rfl : _ = some (.int .i64 ((rd_T37 l0 x10_0).f2)))
                    have hz3000050_9_0 := ((blk_cell hb_ 9).trans rfl : _ = some (.int .i64 ((rd_T37 l0 x10_0).f3)))
                    have hz3000050_10_0 := ((blk_cell hb_ 10).trans rfl : _ = some (.int .i64 ((rd_T37 l0 x10_0).f4)))
                    have hz3000050_11_0 := ((blk_cell hb_ 11).trans rfl : _ = some (.int .i64 ((rd_T37 l0 x10_0).f5.f0)))
                    have hz3000050_12_0 := ((blk_cell hb_ 12).trans rfl : _ = some (.int .i64 ((rd_T37 l0 x10_0).f5.f1)))
                    have hz3000050_13_0 := ((blk_cell hb_ 13).trans rfl : _ = some (.int .i64 ((rd_T37 l0 x10_0).f5.f2)))
                    have hz3000050_14_0 := ((blk_cell hb_ 14).trans rfl : _ = some (.int .i64 ((rd_T37 l0 x10_0).f6)))
                    have hz3000050_15_0 := ((blk_cell hb_ 15).trans rfl : _ = some (.int .i64 ((rd_T37 l0 x10_0).f7)))
                    clear hb_
                    go_wp2
                    replace HS := Aside0.mk (SL.tail (SL.get1 HS.out))
                    go_roundg k2
                    case measure => have := HQ1.out; have := HQ2.out; omega
                    case rel => exact ⟨(x9_101), (Ax9_101), (cx9_101), (x8_0), (Ax8_0), (cx8_0), (wrap64 (x10_0 + 1)), (by first | rfl | (simp; done) | (simp [*]; done)), (by first | rfl | (simp; done) | (simp [*]; done)), (by first | rfl | (simp; done) | (simp [*]; done)), H', ⟨by have := HQ1.out; have := HQ2.out; omega⟩, HS, HK⟩
                · rw [if_neg c47] at H
                  have c47b0 : decide (x13_101 < (l1.length : Int)) = false := decide_eq_false c47
                  clear c47
                  by_cases c52 : ((rd_T37 l0 x10_0).f2) > a2
                  · rw [if_pos c52] at H
                    have c52b0 : decide (a2 < ((rd_T37 l0 x10_0).f2)) = true := decide_eq_true c52
                    clear c52
                    replace H := Option.bind_eq_some_iff.1 H
                    obtain ⟨y464, hy4640, H⟩ := H
                    try dsimp only at H
                    have hy464 := Option.some.inj hy4640
                    clear hy4640
                    have Ny464 := Aside0.mk hy464
                    clear hy464
                    by_cases c53 : x8_0.length + y464.length < 1099511627776
                    · rw [if_pos c53] at H
                      have LMc53 := Aside0.mk c53
                      clear c53
                      replace H := Option.bind_eq_some_iff.1 H
                      obtain ⟨y465, hy4650, H⟩ := H
                      try dsimp only at H
                      have hy465 := Option.some.inj hy4650
                      clear hy4650
                      have Ny465 := Aside0.mk hy465
                      clear hy465
                      have H' := Aside0.mk H
                      clear H
                      have hb_ := SL.at_ (SL.get1 HS.out)
                      have hz3000050_0_0 := ((blk_cell hb_ 0).trans rfl : _ = some (.int .i64 ((rd_T37 l0 x10_0).f0)))
                      have hz3000050_1_0 := ((blk_cell hb_ 1).trans rfl : _ = some (.int .i64 ((rd_T37 l0 x10_0).f1.f0)))
                      have hz3000050_2_0 := ((blk_cell hb_ 2).trans rfl : _ = some (.int .i64 ((rd_T37 l0 x10_0).f1.f1.f0)))
                      have hz3000050_3_0 := ((blk_cell hb_ 3).trans rfl : _ = some (.int .i64 ((rd_T37 l0 x10_0).f1.f1.f1)))
                      have hz3000050_4_0 := ((blk_cell hb_ 4).trans rfl : _ = some (.int .i64 ((rd_T37 l0 x10_0).f1.f2.f0)))
                      have hz3000050_5_0 := ((blk_cell hb_ 5).trans rfl : _ = some (.int .i64 ((rd_T37 l0 x10_0).f1.f2.f1)))
                      have hz3000050_6_0 := ((blk_cell hb_ 6).trans rfl : _ = some (.int .i64 ((rd_T37 l0 x10_0).f1.f3)))
                      have hz3000050_7_0 := ((blk_cell hb_ 7).trans rfl : _ = some (.int .i64 ((rd_T37 l0 x10_0).f1.f4)))
                      have hz3000050_8_0 := ((blk_cell hb_ 8).trans rfl : _ = some (.int .i64 ((rd_T37 l0 x10_0).f2)))
                      have hz3000050_9_0 := ((blk_cell hb_ 9).trans rfl : _ = some (.int .i64 ((rd_T37 l0 x10_0).f3)))
                      have hz3000050_10_0 := ((blk_cell hb_ 10).trans rfl : _ = some (.int .i64 ((rd_T37 l0 x10_0).f4)))
                      have hz3000050_11_0 := ((blk_cell hb_ 11).trans rfl : _ = some (.int .i64 ((rd_T37 l0 x10_0).f5.f0)))
                      have hz3000050_12_0 := ((blk_cell hb_ 12).trans rfl : _ = some (.int .i64 ((rd_T37 l0 x10_0).f5.f1)))
                      have hz3000050_13_0 := ((blk_cell hb_ 13).trans rfl : _ = some (.int .i64 ((rd_T37 l0 x10_0).f5.f2)))
                      have hz3000050_14_0 := ((blk_cell hb_ 14).trans rfl : _ = some (.int .i64 ((rd_T37 l0 x10_0).f6)))
                      have hz3000050_15_0 := ((blk_cell hb_ 15).trans rfl : _ = some (.int .i64 ((rd_T37 l0 x10_0).f7)))
                      clear hb_
                      go_wp2_with (first | ((with_reducible refine gate_dst (N := 100) rfl ?_); refine wpList_loadA rfl 37 (.tmp 11) rfl _ rfl [.int .i64 ((rd_T37 l0 x10_0).f0), .int .i64 ((rd_T37 l0 x10_0).f1.f0), .int .i64 ((rd_T37 l0 x10_0).f1.f1.f0), .int .i64 ((rd_T37 l0 x10_0).f1.f1.f1), .int .i64 ((rd_T37 l0 x10_0).f1.f2.f0), .int .i64 ((rd_T37 l0 x10_0).f1.f2.f1), .int .i64 ((rd_T37 l0 x10_0).f1.f3), .int .i64 ((rd_T37 l0 x10_0).f1.f4), .int .i64 ((rd_T37 l0 x10_0).f2), .int .i64 ((rd_T37 l0 x10_0).f3), .int .i64 ((rd_T37 l0 x10_0).f4), .int .i64 ((rd_T37 l0 x10_0).f5.f0), .int .i64 ((rd_T37 l0 x10_0).f5.f1), .int .i64 ((rd_T37 l0 x10_0).f5.f2), .int .i64 ((rd_T37 l0 x10_0).f6), .int .i64 ((rd_T37 l0 x10_0).f7)] _ (cells_at (SL.at_ (SL.get1 HS.out)) 0 _ rfl) Try.underlying37 rfl (by kernel_rfl) ?_) | ((with_reducible refine gate_dst (N := 101) rfl ?_); refine wpList_plain rfl (fun K_ hK_ => ?_); refine op_rowF (S := S) (d := k37) ⟨fun h_ => h_⟩ 37 y464 #[.int .i64 ((rd_T37 l0 x10_0).f0), .int .i64 ((rd_T37 l0 x10_0).f1.f0), .int .i64 ((rd_T37 l0 x10_0).f1.f1.f0), .int .i64 ((rd_T37 l0 x10_0).f1.f1.f1), .int .i64 ((rd_T37 l0 x10_0).f1.f2.f0), .int .i64 ((rd_T37 l0 x10_0).f1.f2.f1), .int .i64 ((rd_T37 l0 x10_0).f1.f3), .int .i64 ((rd_T37 l0 x10_0).f1.f4), .int .i64 ((rd_T37 l0 x10_0).f2), .int .i64 ((rd_T37 l0 x10_0).f3), .int .i64 ((rd_T37 l0 x10_0).f4), .int .i64 ((rd_T37 l0 x10_0).f5.f0), .int .i64 ((rd_T37 l0 x10_0).f5.f1), .int .i64 ((rd_T37 l0 x10_0).f5.f2), .int .i64 ((rd_T37 l0 x10_0).f6), .int .i64 ((rd_T37 l0 x10_0).f7)] 1 (by rw [← Ny464.out]; exact reps_cons (k37_mkM _ 0 _ (⟨(rd_T37 l0 x10_0).f0, (⟨(rd_T37 l0 x10_0).f1.f0, (⟨(rd_T37 l0 x10_0).f1.f1.f0, (rd_T37 l0 x10_0).f1.f1.f1⟩ : S31), (⟨(rd_T37 l0 x10_0).f1.f2.f0, (rd_T37 l0 x10_0).f1.f2.f1⟩ : S31), (rd_T37 l0 x10_0).f1.f3, (rd_T37 l0 x10_0).f1.f4⟩ : S33), (rd_T37 l0 x10_0).f2, (rd_T37 l0 x10_0).f3, (rd_T37 l0 x10_0).f4, (⟨(rd_T37 l0 x10_0).f5.f0, (rd_T37 l0 x10_0).f5.f1, (rd_T37 l0 x10_0).f5.f2⟩ : S35), (rd_T37 l0 x10_0).f6, (rd_T37 l0 x10_0).f7⟩ : S37)) rfl (Reps.none _ _)) (by rw [← Ny464.out]; rfl) (by decide) (HF.out.keep HK.out) HS.out (by first | (go_simp; done) | (go_simp; rfl)) ?_; intro Az3000052 cz3000052 w54 hs_ hk_; refine hK_ _ _ ?_; clear hK_ K_; replace HS := Aside0.mk ((show SL (row k37 37 (.slice Az3000052 1 cz3000052) y464 :: _) _ _ from hs_)); replace HK := Aside0.mk (HK.out.trans hk_); (try clear hz3000050_0_0 hz3000050_1_0 hz3000050_2_0 hz3000050_3_0 hz3000050_4_0 hz3000050_5_0 hz3000050_6_0 hz3000050_7_0 hz3000050_8_0 hz3000050_9_0 hz3000050_10_0 hz3000050_11_0 hz3000050_12_0 hz3000050_13_0 hz3000050_14_0 hz3000050_15_0)) | ((with_reducible refine gate_dst (N := 102) rfl ?_); refine wpList_plain rfl (fun K_ hK_ => ?_); refine op_appendF (S := S) (d := k37) ⟨fun h_ => h_⟩ (.tmp 99) (.tmp 101) 22 37 (.agg #[(.int .i64 0), (.int .i64 0), (.int .i64 0), (.int .i64 0), (.int .i64 0), (.int .i64 0), (.int .i64 0), (.int .i64 0), (.int .i64 0), (.int .i64 0), (.int .i64 0), (.int .i64 0), (.int .i64 0), (.int .i64 0), (.int .i64 0), (.int .i64 0)]) 128 rfl Try.underlying22 info37 rfl (by decide) (by decide) (.slice Ax8_0 x8_0.length cx8_0) rfl rfl (HF.out.keep HK.out) (SL.get3 HS.out) (SL.row_c HS.out).2.2 (by have := LMc53.out; have e_ := (SL.row_c HS.out).1; omega) y465 Ny465.out ?_; intro A466 c467 w55 hs_ hk_; refine hK_ _ _ ?_; clear hK_ K_; replace HS := Aside0.mk ((SL.back3 (show SL (row k37 37 (.slice A466 y465.length c467) y465 :: _) _ _ from hs_))); replace HK := Aside0.mk (HK.out.trans hk_)))
                      replace HS := Aside0.mk (SL.tail (SL.get1 (SL.tail HS.out)))
                      go_roundg k2
                      case measure => have := HQ1.out; have := HQ2.out; omega
                      case rel => exact ⟨(x9_101), (Ax9_101), (cx9_101), (y465), (A466), (c467), (wrap64 (x10_0 + 1)), (by first | rfl | (simp; done) | (simp [*]; done)), (by first | rfl | (simp; done) | (simp [*]; done)), (by first | rfl | (simp; done) | (simp [*]; done)), H', ⟨by have := HQ1.out; have := HQ2.out; omega⟩, HS, HK⟩
                    · rw [if_neg c53] at H
                      exact absurd H (by simp)
                  · rw [if_neg c52] at H
                    have c52b0 : decide (a2 < ((rd_T37 l0 x10_0).f2)) = false := decide_eq_false c52
                    clear c52
                    have H' := Aside0.mk H
                    clear H
                    have hb_ := SL.at_ (SL.get1 HS.out)
                    have hz3000050_0_0 := ((blk_cell hb_ 0).trans rfl : _ = some (.int .i64 ((rd_T37 l0 x10_0).f0)))
                    have hz3000050_1_0 := ((blk_cell hb_ 1).trans rfl : _ = some (.int .i64 ((rd_T37 l0 x10_0).f1.f0)))
                    have hz3000050_2_0 := ((blk_cell hb_ 2).trans rfl : _ = some (.int .i64 ((rd_T37 l0 x10_0).f1.f1.f0)))
                    have hz3000050_3_0 := ((blk_cell hb_ 3).trans rfl : _ = some (.int .i64 ((rd_T37 l0 x10_0).f1.f1.f1)))
                    have hz3000050_4_0 := ((blk_cell hb_ 4).trans rfl : _ = some (.int .i64 ((rd_T37 l0 x10_0).f1.f2.f0)))
                    have hz3000050_5_0 := ((blk_cell hb_ 5).trans rfl : _ = some (.int .i64 ((rd_T37 l0 x10_0).f1.f2.f1)))
                    have hz3000050_6_0 := ((blk_cell hb_ 6).trans rfl : _ = some (.int .i64 ((rd_T37 l0 x10_0).f1.f3)))
                    have hz3000050_7_0 := ((blk_cell hb_ 7).trans rfl : _ = some (.int .i64 ((rd_T37 l0 x10_0).f1.f4)))
                    have hz3000050_8_0 := ((blk_cell hb_ 8).trans rfl : _ = some (.int .i64 ((rd_T37 l0 x10_0).f2)))
                    have hz3000050_9_0 := ((blk_cell hb_ 9).trans rfl : _ = some (.int .i64 ((rd_T37 l0 x10_0).f3)))
                    have hz3000050_10_0 := ((blk_cell hb_ 10).trans rfl : _ = some (.int .i64 ((rd_T37 l0 x10_0).f4)))
                    have hz3000050_11_0 := ((blk_cell hb_ 11).trans rfl : _ = some (.int .i64 ((rd_T37 l0 x10_0).f5.f0)))
                    have hz3000050_12_0 := ((blk_cell hb_ 12).trans rfl : _ = some (.int .i64 ((rd_T37 l0 x10_0).f5.f1)))
                    have hz3000050_13_0 := ((blk_cell hb_ 13).trans rfl : _ = some (.int .i64 ((rd_T37 l0 x10_0).f5.f2)))
                    have hz3000050_14_0 := ((blk_cell hb_ 14).trans rfl : _ = some (.int .i64 ((rd_T37 l0 x10_0).f6)))
                    have hz3000050_15_0 := ((blk_cell hb_ 15).trans rfl : _ = some (.int .i64 ((rd_T37 l0 x10_0).f7)))
                    clear hb_
                    go_wp2
                    replace HS := Aside0.mk (SL.tail (SL.get1 HS.out))
                    go_roundg k2
                    case measure => have := HQ1.out; have := HQ2.out; omega
                    case rel => exact ⟨(x9_101), (Ax9_101), (cx9_101), (x8_0), (Ax8_0), (cx8_0), (wrap64 (x10_0 + 1)), (by first | rfl | (simp; done) | (simp [*]; done)), (by first | rfl | (simp; done) | (simp [*]; done)), (by first | rfl | (simp; done) | (simp [*]; done)), H', ⟨by have := HQ1.out; have := HQ2.out; omega⟩, HS, HK⟩
        · rw [if_neg c2] at H
          exact absurd H (by simp)
      · rw [if_neg c1] at H
        have c1b0 : decide (x10_0 < (l0.length : Int)) = false := decide_eq_false c1
        clear c1
        simp only [Option.some.injEq, Prod.mk.injEq] at H
        obtain ⟨rfl, rfl⟩ := H
        go_wp2
        go_ret2
        replace HS := Aside0.mk (SL.get1 HS.out)
        unfold barrowref33_Tick.Post
        exact ⟨Ax8_0, cx8_0, Ax9_0, cx9_0, by first | rfl | (simp; done) | (simp [*]; done), HS.out, HK.out⟩

end Go.Proofs.Ytiadhonhjnbliaa.XZN
