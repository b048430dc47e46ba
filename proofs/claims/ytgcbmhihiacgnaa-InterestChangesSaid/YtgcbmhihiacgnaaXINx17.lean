-- Written by xprint.py (a program of this session) for this claim
import Derived.Test.YtgcbmhihiacgnaaSL5
import Derived.Test.YtgcbmhihiacgnaaXINx0
import Derived.Test.YtgcbmhihiacgnaaXINx4
import Derived.Test.YtgcbmhihiacgnaaXINx12
import Derived.Test.YtgcbmhihiacgnaaXINx15
namespace Go.Proofs.Ytgcbmhihiacgnaa.XIN
open Go.Proofs.YtgcbmhihiacgnaaV Go.Proofs.YtgcbmhihiacgnaaS
open Go.RowKit Go.Proofs.YtgcbmhihiacgnaaW.PrintWords Go.Proofs.YtgcbmhihiacgnaaW.PrintLast Go.Proofs.YtgcbmhihiacgnaaW.PrintMore
attribute [local go_sem] max2_int min2_int max_two min_two max_three min_three max_four min_four   -- for this text's walks alone
set_option linter.unusedVariables false
set_option linter.unusedSimpArgs false

/-! ### barrowlaw24_InterestChanges: function 6 -/
mutual
def barrowlaw24_InterestChanges.l0 : Nat → (List Int) → (List Int) → Bool → (List Int) → (List Int) → Int → Option (Bool)
  | 0, _, _, _, _, _, _ => none
  | k + 1, l0, l1, t526, t527, t528, x8_0 => if x8_0 < (l0.length : Int) then (if 0 ≤ x8_0 then ((barrowlaw24_has.f k t527 (rd l0 x8_0)).bind fun t530 => ((barrowlaw24_has.f k l1 (rd l0 x8_0)).bind fun t532 => (if (t530 == t532) = true then (none) else ((barrowlaw24_has.f k t528 (rd l0 x8_0)).bind fun t534 => (if t534 = true then (none) else (barrowlaw24_InterestChanges.l0 k l0 l1 t526 t527 t528 (wrap64 (x8_0 + 1)))))))) else (none)) else (barrowlaw24_InterestChanges.l1 k l0 l1 t526 t527 t528 0)
def barrowlaw24_InterestChanges.l1 : Nat → (List Int) → (List Int) → Bool → (List Int) → (List Int) → Int → Option (Bool)
  | 0, _, _, _, _, _, _ => none
  | k + 1, l0, l1, t526, t527, t528, x9_1 => if x9_1 < (l1.length : Int) then (if 0 ≤ x9_1 then ((barrowlaw24_has.f k t528 (rd l1 x9_1)).bind fun t536 => ((barrowlaw24_has.f k l0 (rd l1 x9_1)).bind fun t538 => (if (t536 == t538) = true then (none) else ((barrowlaw24_has.f k t527 (rd l1 x9_1)).bind fun t540 => (if t540 = true then (none) else (barrowlaw24_InterestChanges.l1 k l0 l1 t526 t527 t528 (wrap64 (x9_1 + 1)))))))) else (none)) else (barrowlaw24_InterestChanges.l2 k l0 l1 t526 t527 t528 0)
def barrowlaw24_InterestChanges.l2 : Nat → (List Int) → (List Int) → Bool → (List Int) → (List Int) → Int → Option (Bool)
  | 0, _, _, _, _, _, _ => none
  | k + 1, l0, l1, t526, t527, t528, x10_2 => if x10_2 < (t527.length : Int) then (if 0 ≤ x10_2 then ((barrowlaw24_has.f k l0 (rd t527 x10_2)).bind fun t542 => (if t542 = true then (if x10_2 > 0 then ((some (wrap64 (x10_2 - 1) : Int)).bind fun j544 => (if 0 ≤ j544 then (if j544 < (t527.length : Int) then (if (rd t527 x10_2) ≤ (rd t527 j544) then (none) else (barrowlaw24_InterestChanges.l2 k l0 l1 t526 t527 t528 (wrap64 (x10_2 + 1)))) else (none)) else (none))) else (barrowlaw24_InterestChanges.l2 k l0 l1 t526 t527 t528 (wrap64 (x10_2 + 1)))) else (none))) else (none)) else (barrowlaw24_InterestChanges.l3 k l0 l1 t526 t527 t528 0)
def barrowlaw24_InterestChanges.l3 : Nat → (List Int) → (List Int) → Bool → (List Int) → (List Int) → Int → Option (Bool)
  | 0, _, _, _, _, _, _ => none
  | k + 1, l0, l1, t526, t527, t528, x11_3 => if x11_3 < (t528.length : Int) then (if 0 ≤ x11_3 then ((barrowlaw24_has.f k l1 (rd t528 x11_3)).bind fun t547 => (if t547 = true then (if x11_3 > 0 then ((some (wrap64 (x11_3 - 1) : Int)).bind fun j549 => (if 0 ≤ j549 then (if j549 < (t528.length : Int) then (if (rd t528 x11_3) ≤ (rd t528 j549) then (none) else (barrowlaw24_InterestChanges.l3 k l0 l1 t526 t527 t528 (wrap64 (x11_3 + 1)))) else (none)) else (none))) else (barrowlaw24_InterestChanges.l3 k l0 l1 t526 t527 t528 (wrap64 (x11_3 + 1)))) else (none))) else (none)) else ((interest_Change.f k l1 l0).bind fun bt551 => (if t526 = true then ((barrowref02_Same.f k bt551.1 t528).bind fun t553 => (if t553 = true then ((barrowref02_Same.f k bt551.2 t527).bind fun t554 => (some t554)) else (none))) else (none)))
end
noncomputable def barrowlaw24_InterestChanges.f (k : Nat) (l0 : List Int) (l1 : List Int) : Option (Bool) := (barrowlaw24_small.f k).bind fun t526 => (if (l0.length : Int) > 80 then (some t526) else (if (l1.length : Int) > 80 then (some t526) else ((interest_Change.f k l0 l1).bind fun bt527 => (barrowlaw24_InterestChanges.l0 k l0 l1 t526 bt527.1 bt527.2 0))))
theorem barrowlaw24_InterestChanges.mono_l : ∀ k, (∀ y0 y1 y2 y3 y4 y5, LeO (barrowlaw24_InterestChanges.l0 k y0 y1 y2 y3 y4 y5) (barrowlaw24_InterestChanges.l0 (k + 1) y0 y1 y2 y3 y4 y5)) ∧ (∀ y0 y1 y2 y3 y4 y5, LeO (barrowlaw24_InterestChanges.l1 k y0 y1 y2 y3 y4 y5) (barrowlaw24_InterestChanges.l1 (k + 1) y0 y1 y2 y3 y4 y5)) ∧ (∀ y0 y1 y2 y3 y4 y5, LeO (barrowlaw24_InterestChanges.l2 k y0 y1 y2 y3 y4 y5) (barrowlaw24_InterestChanges.l2 (k + 1) y0 y1 y2 y3 y4 y5)) ∧ (∀ y0 y1 y2 y3 y4 y5, LeO (barrowlaw24_InterestChanges.l3 k y0 y1 y2 y3 y4 y5) (barrowlaw24_InterestChanges.l3 (k + 1) y0 y1 y2 y3 y4 y5))
  | 0 => ⟨fun _ _ _ _ _ _ r h => by simp [barrowlaw24_InterestChanges.l0] at h, fun _ _ _ _ _ _ r h => by simp [barrowlaw24_InterestChanges.l1] at h, fun _ _ _ _ _ _ r h => by simp [barrowlaw24_InterestChanges.l2] at h, fun _ _ _ _ _ _ r h => by simp [barrowlaw24_InterestChanges.l3] at h⟩
  | k + 1 => by
    obtain ⟨ih0, ih1, ih2, ih3⟩ := barrowlaw24_InterestChanges.mono_l k
    refine ⟨?_, ?_, ?_, ?_⟩
    · intro y0 y1 y2 y3 y4 y5
      unfold barrowlaw24_InterestChanges.l0
      repeat' first
      | (with_reducible exact ih0 _ _ _ _ _ _)
      | (with_reducible exact ih1 _ _ _ _ _ _)
      | (with_reducible exact ih2 _ _ _ _ _ _)
      | (with_reducible exact ih3 _ _ _ _ _ _)
      | (with_reducible exact barrowlaw24_has.mono _ _ _)
      | (with_reducible exact barrowlaw24_small.mono _)
      | (with_reducible exact barrowref02_Same.mono _ _ _)
      | (with_reducible exact interest_Change.mono _ _ _)
      | (with_reducible exact LeO.refl _)
      | (with_reducible exact LeO.none _)
      | (with_reducible refine LeO.ite ?_ ?_)
      | (with_reducible refine everyOf_le (fun _ => ?_))
      | (with_reducible refine LeO.bind ?_ (fun _ => ?_))
      | exact ih0 _ _ _ _ _ _
      | exact ih1 _ _ _ _ _ _
      | exact ih2 _ _ _ _ _ _
      | exact ih3 _ _ _ _ _ _
      | exact barrowlaw24_has.mono _ _ _
      | exact barrowlaw24_small.mono _
      | exact barrowref02_Same.mono _ _ _
      | exact interest_Change.mono _ _ _
      | exact LeO.none _
      | refine LeO.ite ?_ ?_
      | refine LeO.bind ?_ (fun _ => ?_)
    · intro y0 y1 y2 y3 y4 y5
      unfold barrowlaw24_InterestChanges.l1
      repeat' first
      | (with_reducible exact ih0 _ _ _ _ _ _)
      | (with_reducible exact ih1 _ _ _ _ _ _)
      | (with_reducible exact ih2 _ _ _ _ _ _)
      | (with_reducible exact ih3 _ _ _ _ _ _)
      | (with_reducible exact barrowlaw24_has.mono _ _ _)
      | (with_reducible exact barrowlaw24_small.mono _)
      | (with_reducible exact barrowref02_Same.mono _ _ _)
      | (with_reducible exact interest_Change.mono _ _ _)
      | (with_reducible exact LeO.refl _)
      | (with_reducible exact LeO.none _)
      | (with_reducible refine LeO.ite ?_ ?_)
      | (with_reducible refine everyOf_le (fun _ => ?_))
      | (with_reducible refine LeO.bind ?_ (fun _ => ?_))
      | exact ih0 _ _ _ _ _ _
      | exact ih1 _ _ _ _ _ _
      | exact ih2 _ _ _ _ _ _
      | exact ih3 _ _ _ _ _ _
      | exact barrowlaw24_has.mono _ _ _
      | exact barrowlaw24_small.mono _
      | exact barrowref02_Same.mono _ _ _
      | exact interest_Change.mono _ _ _
      | exact LeO.none _
      | refine LeO.ite ?_ ?_
      | refine LeO.bind ?_ (fun _ => ?_)
    · intro y0 y1 y2 y3 y4 y5
      unfold barrowlaw24_InterestChanges.l2
      repeat' first
      | (with_reducible exact ih0 _ _ _ _ _ _)
      | (with_reducible exact ih1 _ _ _ _ _ _)
      | (with_reducible exact ih2 _ _ _ _ _ _)
      | (with_reducible exact ih3 _ _ _ _ _ _)
      | (with_reducible exact barrowlaw24_has.mono _ _ _)
      | (with_reducible exact barrowlaw24_small.mono _)
      | (with_reducible exact barrowref02_Same.mono _ _ _)
      | (with_reducible exact interest_Change.mono _ _ _)
      | (with_reducible exact LeO.refl _)
      | (with_reducible exact LeO.none _)
      | (with_reducible refine LeO.ite ?_ ?_)
      | (with_reducible refine everyOf_le (fun _ => ?_))
      | (with_reducible refine LeO.bind ?_ (fun _ => ?_))
      | exact ih0 _ _ _ _ _ _
      | exact ih1 _ _ _ _ _ _
      | exact ih2 _ _ _ _ _ _
      | exact ih3 _ _ _ _ _ _
      | exact barrowlaw24_has.mono _ _ _
      | exact barrowlaw24_small.mono _
      | exact barrowref02_Same.mono _ _ _
      | exact interest_Change.mono _ _ _
      | exact LeO.none _
      | refine LeO.ite ?_ ?_
      | refine LeO.bind ?_ (fun _ => ?_)
    · intro y0 y1 y2 y3 y4 y5
      unfold barrowlaw24_InterestChanges.l3
      repeat' first
      | (with_reducible exact ih0 _ _ _ _ _ _)
      | (with_reducible exact ih1 _ _ _ _ _ _)
      | (with_reducible exact ih2 _ _ _ _ _ _)
      | (with_reducible exact ih3 _ _ _ _ _ _)
      | (with_reducible exact barrowlaw24_has.mono _ _ _)
      | (with_reducible exact barrowlaw24_small.mono _)
      | (with_reducible exact barrowref02_Same.mono _ _ _)
      | (with_reducible exact interest_Change.mono _ _ _)
      | (with_reducible exact LeO.refl _)
      | (with_reducible exact LeO.none _)
      | (with_reducible refine LeO.ite ?_ ?_)
      | (with_reducible refine everyOf_le (fun _ => ?_))
      | (with_reducible refine LeO.bind ?_ (fun _ => ?_))
      | exact ih0 _ _ _ _ _ _
      | exact ih1 _ _ _ _ _ _
      | exact ih2 _ _ _ _ _ _
      | exact ih3 _ _ _ _ _ _
      | exact barrowlaw24_has.mono _ _ _
      | exact barrowlaw24_small.mono _
      | exact barrowref02_Same.mono _ _ _
      | exact interest_Change.mono _ _ _
      | exact LeO.none _
      | refine LeO.ite ?_ ?_
      | refine LeO.bind ?_ (fun _ => ?_)
theorem barrowlaw24_InterestChanges.mono : ∀ a0 a1 k, LeO (barrowlaw24_InterestChanges.f k a0 a1) (barrowlaw24_InterestChanges.f (k + 1) a0 a1) := by
  intro a0 a1 k
  obtain ⟨ih0, ih1, ih2, ih3⟩ := barrowlaw24_InterestChanges.mono_l k
  unfold barrowlaw24_InterestChanges.f
  repeat' first
      | (with_reducible exact ih0 _ _ _ _ _ _)
      | (with_reducible exact ih1 _ _ _ _ _ _)
      | (with_reducible exact ih2 _ _ _ _ _ _)
      | (with_reducible exact ih3 _ _ _ _ _ _)
      | (with_reducible exact barrowlaw24_has.mono _ _ _)
      | (with_reducible exact barrowlaw24_small.mono _)
      | (with_reducible exact barrowref02_Same.mono _ _ _)
      | (with_reducible exact interest_Change.mono _ _ _)
      | (with_reducible exact LeO.refl _)
      | (with_reducible exact LeO.none _)
      | (with_reducible refine LeO.ite ?_ ?_)
      | (with_reducible refine everyOf_le (fun _ => ?_))
      | (with_reducible refine LeO.bind ?_ (fun _ => ?_))
      | exact ih0 _ _ _ _ _ _
      | exact ih1 _ _ _ _ _ _
      | exact ih2 _ _ _ _ _ _
      | exact ih3 _ _ _ _ _ _
      | exact barrowlaw24_has.mono _ _ _
      | exact barrowlaw24_small.mono _
      | exact barrowref02_Same.mono _ _ _
      | exact interest_Change.mono _ _ _
      | exact LeO.none _
      | refine LeO.ite ?_ ?_
      | refine LeO.bind ?_ (fun _ => ?_)
def barrowlaw24_InterestChanges.T8 : Bool × List (List Nat × List Nat) := (true, [([], []), ([], []), ([], []), ([1, 2], [1, 2]), ([3], [3]), ([0, 4], [0, 4]), ([], []), ([], []), ([], []), ([7, 8], [7, 8]), ([9], [9]), ([6, 10, 5], [6, 10]), ([5, 11], [5, 11]), ([12, 11], [12]), ([13], [13]), ([13], [13]), ([13], [13]), ([15, 16, 13], [13, 15, 16]), ([17, 13], [13, 17]), ([14, 18, 13, 13], [13, 14, 18]), ([13, 19], [13, 19])])
def barrowlaw24_InterestChanges.B8 : List Nat := [0, 0, 0, 6, 14, 31, 0, 0, 0, 384, 896, 2047, 4095, 8191, 16383, 16383, 16383, 114687, 245759, 524287, 1048575]
theorem barrowlaw24_InterestChanges.tab8 : rtab .any (opsOf Try.f6 8) = barrowlaw24_InterestChanges.T8 := by kernel_rfl
theorem barrowlaw24_InterestChanges.bits8 : waitsOk barrowlaw24_InterestChanges.T8.2 barrowlaw24_InterestChanges.B8 = true := by kernel_rfl
def barrowlaw24_InterestChanges.T13 : Bool × List (List Nat × List Nat) := (true, [([], []), ([], []), ([], []), ([1, 2], [1, 2]), ([3], [3]), ([0, 4], [0, 4]), ([], []), ([], []), ([], []), ([7, 8], [7, 8]), ([9], [9]), ([6, 10, 5], [6, 10]), ([5, 11], [5, 11]), ([12, 11], [12]), ([13], [13]), ([13], [13]), ([13], [13]), ([15, 16, 13], [13, 15, 16]), ([17, 13], [13, 17]), ([14, 18, 13, 13], [13, 14, 18]), ([13, 19], [13, 19])])
def barrowlaw24_InterestChanges.B13 : List Nat := [0, 0, 0, 6, 14, 31, 0, 0, 0, 384, 896, 2047, 4095, 8191, 16383, 16383, 16383, 114687, 245759, 524287, 1048575]
theorem barrowlaw24_InterestChanges.tab13 : rtab .any (opsOf Try.f6 13) = barrowlaw24_InterestChanges.T13 := by kernel_rfl
theorem barrowlaw24_InterestChanges.bits13 : waitsOk barrowlaw24_InterestChanges.T13.2 barrowlaw24_InterestChanges.B13 = true := by kernel_rfl
def barrowlaw24_InterestChanges.T18 : Bool × List (List Nat × List Nat) := (true, [([], []), ([], []), ([], []), ([1, 2], [1, 2]), ([3], [3]), ([0, 4], [0, 4]), ([5], [5]), ([6, 5], [6]), ([7], [7]), ([8, 7], [7, 8]), ([9, 7, 7], [7, 9]), ([10], [10]), ([10], [10]), ([11, 12, 10], [10, 11, 12]), ([13, 10], [10, 13]), ([10], [10]), ([10], [10]), ([16, 10], [10, 16]), ([15, 17, 10], [10, 15, 17]), ([18, 10], [10, 18]), ([14, 19, 10], [10, 14, 19]), ([10, 20, 7], [7, 10, 20]), ([7, 21], [7, 21])])
def barrowlaw24_InterestChanges.B18 : List Nat := [0, 0, 0, 6, 14, 31, 63, 127, 255, 511, 1023, 2047, 2047, 8191, 16383, 2047, 2047, 67583, 231423, 493567, 1048575, 2097151, 4194303]
theorem barrowlaw24_InterestChanges.tab18 : rtab .any (opsOf Try.f6 18) = barrowlaw24_InterestChanges.T18 := by kernel_rfl
theorem barrowlaw24_InterestChanges.bits18 : waitsOk barrowlaw24_InterestChanges.T18.2 barrowlaw24_InterestChanges.B18 = true := by kernel_rfl
def barrowlaw24_InterestChanges.T23 : Bool × List (List Nat × List Nat) := (true, [([], []), ([], []), ([], []), ([1, 2], [1, 2]), ([3], [3]), ([0, 4], [0, 4]), ([5], [5]), ([6, 5], [6]), ([7], [7]), ([8, 7], [7, 8]), ([9, 7, 7], [7, 9]), ([10], [10]), ([10], [10]), ([11, 12, 10], [10, 11, 12]), ([13, 10], [10, 13]), ([10], [10]), ([10], [10]), ([16, 10], [10, 16]), ([15, 17, 10], [10, 15, 17]), ([18, 10], [10, 18]), ([14, 19, 10], [10, 14, 19]), ([10, 20, 7], [7, 10, 20]), ([7, 21], [7, 21])])
def barrowlaw24_InterestChanges.B23 : List Nat := [0, 0, 0, 6, 14, 31, 63, 127, 255, 511, 1023, 2047, 2047, 8191, 16383, 2047, 2047, 67583, 231423, 493567, 1048575, 2097151, 4194303]
theorem barrowlaw24_InterestChanges.tab23 : rtab .any (opsOf Try.f6 23) = barrowlaw24_InterestChanges.T23 := by kernel_rfl
theorem barrowlaw24_InterestChanges.bits23 : waitsOk barrowlaw24_InterestChanges.T23.2 barrowlaw24_InterestChanges.B23 = true := by kernel_rfl
def barrowlaw24_InterestChanges.Post (r : Bool) (S : Nat → Prop) (L : List Asr) (w : World) (e : Ending) (w' : World) : Prop := e = .returned (.bool r) ∧ SL (L) w' S ∧ Keep S w w'
set_option maxHeartbeats 8000000 in
set_option maxRecDepth 100000 in
theorem barrowlaw24_InterestChanges.slcalls (k : Nat) (A0 : Option Addr) (c0 : Nat) (l0 : List Int) (A1 : Option Addr) (c1 : Nat) (l1 : List Int) (r : Bool) (S : Nat → Prop) (L : List Asr) (w : World) (hf : Fresh S w) (hs : SL (L) w S) (hr0 : RO S w (fun w_ => Kd.C (Kd.int .i64) w_ A0 l0.length l0)) (hc0 : l0.length ≤ c0) (hr1 : RO S w (fun w_ => Kd.C (Kd.int .i64) w_ A1 l1.length l1)) (hc1 : l1.length ≤ c1) (h : barrowlaw24_InterestChanges.f k l0 l1 = some r) :
    Calls Try.prog 6 #[.slice A0 l0.length c0, .slice A1 l1.length c1] w (barrowlaw24_InterestChanges.Post r S L w) := by
  have HR0 := Aside0.mk hr0
  have HC0 := Aside0.mk hc0
  clear hr0 hc0
  have HR1 := Aside0.mk hr1
  have HC1 := Aside0.mk hc1
  clear hr1 hc1
  have HF := Aside0.mk hf
  have HS := Aside0.mk hs
  have HK := Aside0.mk (Keep.refl S w)
  clear hf hs
  have H : ((barrowlaw24_small.f k).bind fun t526 => (if (l0.length : Int) > 80 then (some t526) else (if (l1.length : Int) > 80 then (some t526) else ((interest_Change.f k l0 l1).bind fun bt527 => (barrowlaw24_InterestChanges.l0 k l0 l1 t526 bt527.1 bt527.2 0))))) = some r := h
  clear h
  replace H := Option.bind_eq_some_iff.1 H
  obtain ⟨t526, Hc10, H⟩ := H
  try dsimp only at H
  have Hc1 := Aside0.mk Hc10
  clear Hc10
  by_cases c2 : (l0.length : Int) > 80
  · rw [if_pos c2] at H
    have c2b0 : decide (80 < (l0.length : Int)) = true := decide_eq_true c2
    have c2b1 : decide (80 < l0.length) = true := decide_eq_true (by omega)
    clear c2
    obtain rfl := Option.some.inj H
    go_enter Try.func6, Try.ntmps6
    go_wp2_with (first | ((with_reducible refine gate_dst (N := 14) rfl ?_); refine goesL_ (some 14) rfl rfl Try.func7 (by kernel_rfl) rfl #[] rfl (by (try simp only [List.map_toArray, List.map_cons, List.map_nil]); first | done | rfl | (simp; done)) ?_; (with_reducible refine (barrowlaw24_small.calls k _ _  Hc1.out).mono ?_); rintro e_ w3 ⟨rfl, hb_⟩; refine ⟨_, rfl, ?_⟩; replace HS := Aside0.mk (HS.out.below hb_); replace HK := Aside0.mk (HK.out.trans (Keep.below hb_))))
    go_ret
    unfold barrowlaw24_InterestChanges.Post
    exact ⟨by first | rfl | (simp; done) | (simp [*]; done) | (simp at c2b0 ⊢; first | exact c2b0 | (simp [c2b0]; done)), HS.out, HK.out⟩
  · rw [if_neg c2] at H
    have c2b0 : decide (80 < (l0.length : Int)) = false := decide_eq_false c2
    have c2b1 : decide (80 < l0.length) = false := decide_eq_false (by omega)
    clear c2
    by_cases c4 : (l1.length : Int) > 80
    · rw [if_pos c4] at H
      have c4b0 : decide (80 < (l1.length : Int)) = true := decide_eq_true c4
      have c4b1 : decide (80 < l1.length) = true := decide_eq_true (by omega)
      clear c4
      obtain rfl := Option.some.inj H
      go_enter Try.func6, Try.ntmps6
      go_wp2_with (first | ((with_reducible refine gate_dst (N := 14) rfl ?_); refine goesL_ (some 14) rfl rfl Try.func7 (by kernel_rfl) rfl #[] rfl (by (try simp only [List.map_toArray, List.map_cons, List.map_nil]); first | done | rfl | (simp; done)) ?_; (with_reducible refine (barrowlaw24_small.calls k _ _  Hc1.out).mono ?_); rintro e_ w5 ⟨rfl, hb_⟩; refine ⟨_, rfl, ?_⟩; replace HS := Aside0.mk (HS.out.below hb_); replace HK := Aside0.mk (HK.out.trans (Keep.below hb_))))
      go_ret
      unfold barrowlaw24_InterestChanges.Post
      exact ⟨by first | rfl | (simp; done) | (simp [*]; done) | (simp at c4b0 ⊢; first | exact c4b0 | (simp [c4b0]; done)), HS.out, HK.out⟩
    · rw [if_neg c4] at H
      have c4b0 : decide (80 < (l1.length : Int)) = false := decide_eq_false c4
      have c4b1 : decide (80 < l1.length) = false := decide_eq_false (by omega)
      clear c4
      replace H := Option.bind_eq_some_iff.1 H
      obtain ⟨⟨t527, t528⟩, Hc60, H⟩ := H
      try dsimp only at H
      have Hc6 := Aside0.mk Hc60
      clear Hc60
      have H' := Aside0.mk H
      clear H
      go_enter Try.func6, Try.ntmps6
      go_wp2_with (first | ((with_reducible refine gate_dst (N := 14) rfl ?_); refine goesL_ (some 14) rfl rfl Try.func7 (by kernel_rfl) rfl #[] rfl (by (try simp only [List.map_toArray, List.map_cons, List.map_nil]); first | done | rfl | (simp; done)) ?_; (with_reducible refine (barrowlaw24_small.calls k _ _  Hc1.out).mono ?_); rintro e_ w7 ⟨rfl, hb_⟩; refine ⟨_, rfl, ?_⟩; replace HS := Aside0.mk (HS.out.below hb_); replace HK := Aside0.mk (HK.out.trans (Keep.below hb_))) | ((with_reducible refine gate_dst (N := 27) rfl ?_); refine goesL_ (some 27) rfl rfl Try.func13 (by kernel_rfl) rfl #[.slice A0 l0.length c0, .slice A1 l1.length c1] rfl (by (try simp only [List.map_toArray, List.map_cons, List.map_nil]); first | done | rfl | (simp; done)) ?_; have hs0_ := HS.out; (with_reducible refine (interest_Change.slcalls k _ _ _ _ _ _ _ _ _ _ _ (HF.out.keep HK.out) hs0_ (HR0.out.keep HK.out) HC0.out (HR1.out.keep HK.out) HC1.out Hc6.out).mono ?_); rintro e_ w8 ⟨Az3000071, cz3000071, Az3000072, cz3000072, rfl, hsr_, hkr_⟩; refine ⟨_, rfl, ?_⟩; replace HS := Aside0.mk (hsr_); replace HK := Aside0.mk (HK.out.trans hkr_)))
      go_loopg [8] k (fun kq v8 w' => ∃ (x8_0 : Int), v8 = .int .i64 x8_0 ∧ Aside0 (barrowlaw24_InterestChanges.l0 kq l0 l1 t526 t527 t528 x8_0 = some r) ∧ Aside0 (kq ≤ k) ∧ Aside0 (SL (row (Kd.int .i64) 3 (.slice Az3000071 t527.length cz3000071) t527 :: row (Kd.int .i64) 3 (.slice Az3000072 t528.length cz3000072) t528 :: L) w' S) ∧ Aside0 (Keep S w w'))
      case atStart => exact ⟨(0), (by first | rfl | (simp; done) | (simp [*]; done)), H', ⟨Nat.le_refl _⟩, HS, HK⟩
      case round =>
        clear H' HS HK
        obtain ⟨x8_0, rfl, HA, HQ1, HS, HK⟩ := hrel
        cases gk with
        | zero => exact absurd HA.out (by simp [barrowlaw24_InterestChanges.l0])
        | succ k1 =>
          have H := HA.out
          clear HA
          simp only [barrowlaw24_InterestChanges.l0] at H
          by_cases c9 : x8_0 < (l0.length : Int)
          · rw [if_pos c9] at H
            have c9b0 : decide (x8_0 < (l0.length : Int)) = true := decide_eq_true c9
            clear c9
            by_cases c10 : 0 ≤ x8_0
            · rw [if_pos c10] at H
              have c10b0 : decide (0 ≤ x8_0) = true := decide_eq_true c10
              clear c10
              replace H := Option.bind_eq_some_iff.1 H
              obtain ⟨t530, Hc110, H⟩ := H
              try dsimp only at H
              have Hc11 := Aside0.mk Hc110
              clear Hc110
              replace H := Option.bind_eq_some_iff.1 H
              obtain ⟨t532, Hc120, H⟩ := H
              try dsimp only at H
              have Hc12 := Aside0.mk Hc120
              clear Hc120
              by_cases c13 : (t530 == t532) = true
              · rw [if_pos c13] at H
                have c13b0 : (t530 == t532) = true := c13
                (try (have c13b1 : decide (t530 = t532) = true := by simpa using c13))
                (try (have c13b2 : (t530 == t532) = true := by simpa using c13))
                clear c13
                exact absurd H (by simp)
              · rw [if_neg c13] at H
                have c13b0 : (t530 == t532) = false := by simpa using c13
                (try (have c13b1 : decide (t530 = t532) = false := by simpa using c13))
                (try (have c13b2 : (t530 == t532) = false := by simpa using c13))
                (try (have c13b3 : ¬ (t530 = t532) := by simpa using c13))
                clear c13
                replace H := Option.bind_eq_some_iff.1 H
                obtain ⟨t534, Hc140, H⟩ := H
                try dsimp only at H
                have Hc14 := Aside0.mk Hc140
                clear Hc140
                by_cases c15 : t534 = true
                · subst c15
                  rw [if_pos rfl] at H
                  exact absurd H (by simp)
                · replace c15 := Bool.eq_false_iff.mpr c15
                  subst c15
                  rw [if_neg (show ¬ (false = true) by decide)] at H
                  have H' := Aside0.mk H
                  clear H
                  try go_wp2
                  have pq529 : 0 ≤ (x8_0 : Int) := of_decide_eq_true (by first | (with_reducible assumption) | assumption)
                  have qq529 : x8_0 < ((l0.length : Int) : Int) := of_decide_eq_true (by first | (with_reducible assumption) | assumption)
                  obtain ⟨adq529, eq529, hxxq529⟩ := RO.cell (enc := Value.int .i64) (h1 := fun _ => rfl) 0 HR0.out x8_0 pq529 qq529
                  have hxq529_0 := hxxq529 _ HK.out
                  cases eq529
                  replace pq529 := eq_true pq529
                  replace qq529 := eq_true qq529
                  have pq531 : 0 ≤ (x8_0 : Int) := of_decide_eq_true (by first | (with_reducible assumption) | assumption)
                  have qq531 : x8_0 < ((l0.length : Int) : Int) := of_decide_eq_true (by first | (with_reducible assumption) | assumption)
                  obtain ⟨adq531, eq531, hxxq531⟩ := RO.cell (enc := Value.int .i64) (h1 := fun _ => rfl) 0 HR0.out x8_0 pq531 qq531
                  have hxq531_0 := hxxq531 _ HK.out
                  obtain rfl : adq529 = adq531 := (by injection eq531)
                  replace pq531 := eq_true pq531
                  replace qq531 := eq_true qq531
                  have pq533 : 0 ≤ (x8_0 : Int) := of_decide_eq_true (by first | (with_reducible assumption) | assumption)
                  have qq533 : x8_0 < ((l0.length : Int) : Int) := of_decide_eq_true (by first | (with_reducible assumption) | assumption)
                  obtain ⟨adq533, eq533, hxxq533⟩ := RO.cell (enc := Value.int .i64) (h1 := fun _ => rfl) 0 HR0.out x8_0 pq533 qq533
                  have hxq533_0 := hxxq533 _ HK.out
                  obtain rfl : adq529 = adq533 := (by injection eq533)
                  replace pq533 := eq_true pq533
                  replace qq533 := eq_true qq533
                  refine start_ (n := 21) (S := fun w' => w'.cell? (adq529.add x8_0.toNat) = some (.int .i64 (rd l0 x8_0)) ∧ w'.cell? (adq529.add x8_0.toNat) = some (.int .i64 (rd l0 x8_0)) ∧ w'.cell? (adq529.add x8_0.toNat) = some (.int .i64 (rd l0 x8_0))) (ds := []) #[false, false, false, false, false, false, false, false, false, false, false, false, false, false, false, false, false, false, false, false, false] (by kernel_rfl) rfl rfl ⟨(by have h_ := hxxq529 _ HK.out; exact h_), (by have h_ := hxxq531 _ HK.out; exact h_), (by have h_ := hxxq533 _ HK.out; exact h_)⟩ (fun hHeld => ?_); refine with_tabW barrowlaw24_InterestChanges.tab8 barrowlaw24_InterestChanges.bits8 (fun HT_ HW_ => ?_)
                  replace HK := Aside0.mk (Keep.drew HK.out)
                  replace HS := Aside0.mk (SL.drew HS.out)
                  refine pure_ (i := 0) (N := some 36) (v := ?_) (a' := ?_) #[true, false, false, false, false, false, false, false, false, false, false, false, false, false, false, false, false, false, false, false, false] rfl rfl (any_of HT_.out (by kernel_rfl)) (fun _ _ _ h => h) (Or.inl ⟨by rfl, ?_⟩) ?_ ?_; rotate_left; · (intro w'; go_simp; with_reducible rfl)
                  rotate_left; · (simp only [Act.put, sT, sZ, sS, i64_w, i32_w]; rfl)
                  refine pure_ (i := 1) (N := some 37) (v := ?_) (a' := ?_) #[true, true, false, false, false, false, false, false, false, false, false, false, false, false, false, false, false, false, false, false, false] rfl rfl (any_of HT_.out (by kernel_rfl)) (fun _ _ _ h => h) (Or.inl ⟨by rfl, ?_⟩) ?_ ?_; rotate_left; · (intro w'; go_simp; with_reducible rfl)
                  rotate_left; · (simp only [Act.put, sT, sZ, sS, i64_w, i32_w]; rfl)
                  refine pure_ (i := 2) (N := some 38) (v := ?_) (a' := ?_) #[true, true, true, false, false, false, false, false, false, false, false, false, false, false, false, false, false, false, false, false, false] rfl rfl (any_of HT_.out (by kernel_rfl)) (fun _ _ _ h => h) (Or.inl ⟨by rfl, ?_⟩) ?_ ?_; rotate_left; · (intro w'; go_simp; with_reducible rfl)
                  rotate_left; · (simp only [Act.put, sT, sZ, sS, i64_w, i32_w]; rfl)
                  refine pure_ (i := 3) (N := some 39) (v := ?_) (a' := ?_) #[true, true, true, true, false, false, false, false, false, false, false, false, false, false, false, false, false, false, false, false, false] rfl rfl (any_of HT_.out (by kernel_rfl)) (fun _ _ _ h => h) (Or.inl ⟨by rfl, ?_⟩) ?_ ?_; rotate_left; · (intro w'; go_simp; with_reducible rfl)
                  rotate_left; · (simp only [Act.put, sT, sZ, sS, i64_w, i32_w]; rfl)
                  refine pure_ (i := 6) (N := some 42) (v := ?_) (a' := ?_) #[true, true, true, true, false, false, true, false, false, false, false, false, false, false, false, false, false, false, false, false, false] rfl rfl (any_of HT_.out (by kernel_rfl)) (fun _ _ _ h => h) (Or.inl ⟨by rfl, ?_⟩) ?_ ?_; rotate_left; · (intro w'; go_simp; with_reducible rfl)
                  rotate_left; · (simp only [Act.put, sT, sZ, sS, i64_w, i32_w]; rfl)
                  refine pure_ (i := 7) (N := some 43) (v := ?_) (a' := ?_) #[true, true, true, true, false, false, true, true, false, false, false, false, false, false, false, false, false, false, false, false, false] rfl rfl (any_of HT_.out (by kernel_rfl)) (fun _ _ _ h => h) (Or.inl ⟨by rfl, ?_⟩) ?_ ?_; rotate_left; · (intro w'; go_simp; with_reducible rfl)
                  rotate_left; · (simp only [Act.put, sT, sZ, sS, i64_w, i32_w]; rfl)
                  refine pure_ (i := 8) (N := some 44) (v := ?_) (a' := ?_) #[true, true, true, true, false, false, true, true, true, false, false, false, false, false, false, false, false, false, false, false, false] rfl rfl (any_of HT_.out (by kernel_rfl)) (fun _ _ _ h => h) (Or.inl ⟨by rfl, ?_⟩) ?_ ?_; rotate_left; · (intro w'; go_simp; with_reducible rfl)
                  rotate_left; · (simp only [Act.put, sT, sZ, sS, i64_w, i32_w]; rfl)
                  refine pure_ (i := 9) (N := some 45) (v := ?_) (a' := ?_) #[true, true, true, true, false, false, true, true, true, true, false, false, false, false, false, false, false, false, false, false, false] rfl rfl (any_of HT_.out (by kernel_rfl)) (fun _ _ _ h => h) (Or.inl ⟨by rfl, ?_⟩) ?_ ?_; rotate_left; · (intro w'; go_simp; with_reducible rfl)
                  rotate_left; · (simp only [Act.put, sT, sZ, sS, i64_w, i32_w]; rfl)
                  refine take_ (i := 4) (N := some 40) (v := ?_) (a' := ?_) #[true, true, true, true, true, false, true, true, true, true, false, false, false, false, false, false, false, false, false, false, false] rfl rfl (take_ofW HT_.out HW_.out (by kernel_rfl)) (fun _ _ _ h => h) (Or.inl ⟨by rfl, ?_⟩) hHeld ?_ ?_; rotate_left
                  · rintro w' ⟨s0, s1, s2⟩
                    go_simp
                    with_reducible rfl
                  rotate_left; · (simp only [Act.put, sT, sZ, sS, i64_w, i32_w]; rfl)
                  refine take_ (i := 10) (N := some 46) (v := ?_) (a' := ?_) #[true, true, true, true, true, false, true, true, true, true, true, false, false, false, false, false, false, false, false, false, false] rfl rfl (take_ofW HT_.out HW_.out (by kernel_rfl)) (fun _ _ _ h => h) (Or.inl ⟨by rfl, ?_⟩) hHeld ?_ ?_; rotate_left
                  · rintro w' ⟨s0, s1, s2⟩
                    go_simp
                    with_reducible rfl
                  rotate_left; · (simp only [Act.put, sT, sZ, sS, i64_w, i32_w]; rfl)
                  refine one_ (i := 5) (N := some 41) #[true, true, true, true, true, true, true, true, true, true, true, false, false, false, false, false, false, false, false, false, false] rfl rfl (one_of HT_.out (by kernel_rfl)) (by decide) (fun K hK => ?_)
                  refine goes_ Try.func17 (by kernel_rfl) rfl #[.slice Az3000071 t527.length cz3000071, .int .i64 (rd l0 x8_0)] (by rfl) rfl rfl (by (try simp only [List.map_toArray, List.map_cons, List.map_nil]); first | done | rfl | (simp; done)) ?_
                  (with_reducible refine (barrowlaw24_has.calls k1 _ _ _ _ _ _ (SL.row_c HS.out).2.2 (SL.row_c HS.out).2.1 Hc11.out).mono ?_)
                  rintro e_ w16 ⟨rfl, hb_⟩
                  refine ⟨_, rfl, ?_⟩
                  replace hb_ := Drawn0.below hb_
                  replace HS := Aside0.mk (HS.out.below hb_)
                  replace HK := Aside0.mk (HK.out.trans (Keep.below hb_))
                  refine hK.out _ _ ⟨(by have h_ := hxxq529 _ HK.out; exact h_), (by have h_ := hxxq531 _ HK.out; exact h_), (by have h_ := hxxq533 _ HK.out; exact h_)⟩ (fun hHeld => ?_)
                  clear hK K
                  refine norm_ (a' := ?_) ?_ ?_; rotate_left
                  · show Act.put _ (some 41) _ = _
                    simp only [Act.put, sT, sZ, sS, i64_w, i32_w]
                    rfl
                  refine one_ (i := 11) (N := some 47) #[true, true, true, true, true, true, true, true, true, true, true, true, false, false, false, false, false, false, false, false, false] rfl rfl (one_of HT_.out (by kernel_rfl)) (by decide) (fun K hK => ?_)
                  refine goes_ Try.func17 (by kernel_rfl) rfl #[.slice A1 l1.length c1, .int .i64 (rd l0 x8_0)] (by rfl) rfl rfl (by (try simp only [List.map_toArray, List.map_cons, List.map_nil]); first | done | rfl | (simp; done)) ?_
                  (with_reducible refine (barrowlaw24_has.calls k1 _ _ _ _ _ _ (RO.at_ HR1.out HK.out) HC1.out Hc12.out).mono ?_)
                  rintro e_ w17 ⟨rfl, hb_⟩
                  refine ⟨_, rfl, ?_⟩
                  replace hb_ := Drawn0.below hb_
                  replace HS := Aside0.mk (HS.out.below hb_)
                  replace HK := Aside0.mk (HK.out.trans (Keep.below hb_))
                  refine hK.out _ _ ⟨(by have h_ := hxxq529 _ HK.out; exact h_), (by have h_ := hxxq531 _ HK.out; exact h_), (by have h_ := hxxq533 _ HK.out; exact h_)⟩ (fun hHeld => ?_)
                  clear hK K
                  refine norm_ (a' := ?_) ?_ ?_; rotate_left
                  · show Act.put _ (some 47) _ = _
                    simp only [Act.put, sT, sZ, sS, i64_w, i32_w]
                    rfl
                  refine pure_ (i := 12) (N := some 48) (v := ?_) (a' := ?_) #[true, true, true, true, true, true, true, true, true, true, true, true, true, false, false, false, false, false, false, false, false] rfl rfl (any_of HT_.out (by kernel_rfl)) (fun _ _ _ h => h) (Or.inl ⟨by rfl, ?_⟩) ?_ ?_; rotate_left; · (intro w'; go_simp; with_reducible rfl)
                  rotate_left; · (simp only [Act.put, sT, sZ, sS, i64_w, i32_w]; rfl)
                  refine pure_ (i := 13) (N := some 49) (v := ?_) (a' := ?_) #[true, true, true, true, true, true, true, true, true, true, true, true, true, true, false, false, false, false, false, false, false] rfl rfl (any_of HT_.out (by kernel_rfl)) (fun _ _ _ h => h) (Or.inl ⟨by rfl, ?_⟩) ?_ ?_; rotate_left; · (intro w'; go_simp; with_reducible rfl)
                  rotate_left; · (simp only [Act.put, sT, sZ, sS, i64_w, i32_w]; rfl)
                  refine pure_ (i := 14) (N := some 50) (v := ?_) (a' := ?_) #[true, true, true, true, true, true, true, true, true, true, true, true, true, true, true, false, false, false, false, false, false] rfl rfl (any_of HT_.out (by kernel_rfl)) (fun _ _ _ h => h) (Or.inl ⟨by rfl, ?_⟩) ?_ ?_; rotate_left; · (intro w'; go_simp; with_reducible rfl)
                  rotate_left; · (simp only [Act.put, sT, sZ, sS, i64_w, i32_w]; rfl)
                  refine pure_ (i := 15) (N := some 51) (v := ?_) (a' := ?_) #[true, true, true, true, true, true, true, true, true, true, true, true, true, true, true, true, false, false, false, false, false] rfl rfl (any_of HT_.out (by kernel_rfl)) (fun _ _ _ h => h) (Or.inl ⟨by rfl, ?_⟩) ?_ ?_; rotate_left; · (intro w'; go_simp; with_reducible rfl)
                  rotate_left; · (simp only [Act.put, sT, sZ, sS, i64_w, i32_w]; rfl)
                  refine pure_ (i := 16) (N := some 52) (v := ?_) (a' := ?_) #[true, true, true, true, true, true, true, true, true, true, true, true, true, true, true, true, true, false, false, false, false] rfl rfl (any_of HT_.out (by kernel_rfl)) (fun _ _ _ h => h) (Or.inl ⟨by rfl, ?_⟩) ?_ ?_; rotate_left; · (intro w'; go_simp; with_reducible rfl)
                  rotate_left; · (simp only [Act.put, sT, sZ, sS, i64_w, i32_w]; rfl)
                  refine pure_ (i := 17) (N := some 53) (v := ?_) (a' := ?_) #[true, true, true, true, true, true, true, true, true, true, true, true, true, true, true, true, true, true, false, false, false] rfl rfl (any_of HT_.out (by kernel_rfl)) (fun _ _ _ h => h) (Or.inl ⟨by rfl, ?_⟩) ?_ ?_; rotate_left; · (intro w'; go_simp; with_reducible rfl)
                  rotate_left; · (simp only [Act.put, sT, sZ, sS, i64_w, i32_w]; rfl)
                  refine take_ (i := 18) (N := some 54) (v := ?_) (a' := ?_) #[true, true, true, true, true, true, true, true, true, true, true, true, true, true, true, true, true, true, true, false, false] rfl rfl (take_ofW HT_.out HW_.out (by kernel_rfl)) (fun _ _ _ h => h) (Or.inl ⟨by rfl, ?_⟩) hHeld ?_ ?_; rotate_left
                  · rintro w' ⟨s0, s1, s2⟩
                    go_simp
                    with_reducible rfl
                  rotate_left; · (simp only [Act.put, sT, sZ, sS, i64_w, i32_w]; rfl)
                  refine one_ (i := 19) (N := some 55) #[true, true, true, true, true, true, true, true, true, true, true, true, true, true, true, true, true, true, true, true, false] rfl rfl (one_of HT_.out (by kernel_rfl)) (by decide) (fun K hK => ?_)
                  refine goes_ Try.func17 (by kernel_rfl) rfl #[.slice Az3000072 t528.length cz3000072, .int .i64 (rd l0 x8_0)] (by rfl) rfl rfl (by (try simp only [List.map_toArray, List.map_cons, List.map_nil]); first | done | rfl | (simp; done)) ?_
                  (with_reducible refine (barrowlaw24_has.calls k1 _ _ _ _ _ _ (SL.row_c (SL.get1 HS.out)).2.2 (SL.row_c (SL.get1 HS.out)).2.1 Hc14.out).mono ?_)
                  rintro e_ w18 ⟨rfl, hb_⟩
                  refine ⟨_, rfl, ?_⟩
                  replace hb_ := Drawn0.below hb_
                  replace HS := Aside0.mk (HS.out.below hb_)
                  replace HK := Aside0.mk (HK.out.trans (Keep.below hb_))
                  refine hK.out _ _ ⟨(by have h_ := hxxq529 _ HK.out; exact h_), (by have h_ := hxxq531 _ HK.out; exact h_), (by have h_ := hxxq533 _ HK.out; exact h_)⟩ (fun hHeld => ?_)
                  clear hK K
                  refine norm_ (a' := ?_) ?_ ?_; rotate_left
                  · show Act.put _ (some 55) _ = _
                    simp only [Act.put, sT, sZ, sS, i64_w, i32_w]
                    rfl
                  refine pure_ (i := 20) (N := some 56) (v := ?_) (a' := ?_) #[true, true, true, true, true, true, true, true, true, true, true, true, true, true, true, true, true, true, true, true, true] rfl rfl (any_of HT_.out (by kernel_rfl)) (fun _ _ _ h => h) (Or.inl ⟨by rfl, ?_⟩) ?_ ?_; rotate_left; · (intro w'; go_simp; with_reducible rfl)
                  rotate_left; · (simp only [Act.put, sT, sZ, sS, i64_w, i32_w]; rfl)
                  refine done_ (done_of HT_.out (by kernel_rfl)) ?_
                  try go_wp2
                  go_roundg k1
                  case measure => have := HQ1.out; omega
                  case rel => exact ⟨(wrap64 (x8_0 + 1)), (by first | rfl | (simp; done) | (simp [*]; done)), H', ⟨by have := HQ1.out; omega⟩, HS, HK⟩
            · rw [if_neg c10] at H
              exact absurd H (by simp)
          · rw [if_neg c9] at H
            have c9b0 : decide (x8_0 < (l0.length : Int)) = false := decide_eq_false c9
            clear c9
            have H' := Aside0.mk H
            clear H
            go_wp2
            go_loopg [9] k1 (fun kq v9 w' => ∃ (x9_1 : Int), v9 = .int .i64 x9_1 ∧ Aside0 (barrowlaw24_InterestChanges.l1 kq l0 l1 t526 t527 t528 x9_1 = some r) ∧ Aside0 (kq ≤ k1) ∧ Aside0 (SL (row (Kd.int .i64) 3 (.slice Az3000071 t527.length cz3000071) t527 :: row (Kd.int .i64) 3 (.slice Az3000072 t528.length cz3000072) t528 :: L) w' S) ∧ Aside0 (Keep S w w'))
            case atStart => exact ⟨(0), (by first | rfl | (simp; done) | (simp [*]; done)), H', ⟨Nat.le_refl _⟩, HS, HK⟩
            case round =>
              clear H' HS HK
              obtain ⟨x9_1, rfl, HA, HQ2, HS, HK⟩ := hrel
              cases gk with
              | zero => exact absurd HA.out (by simp [barrowlaw24_InterestChanges.l1])
              | succ k2 =>
                have H := HA.out
                clear HA
                simp only [barrowlaw24_InterestChanges.l1] at H
                by_cases c19 : x9_1 < (l1.length : Int)
                · rw [if_pos c19] at H
                  have c19b0 : decide (x9_1 < (l1.length : Int)) = true := decide_eq_true c19
                  clear c19
                  by_cases c20 : 0 ≤ x9_1
                  · rw [if_pos c20] at H
                    have c20b0 : decide (0 ≤ x9_1) = true := decide_eq_true c20
                    clear c20
                    replace H := Option.bind_eq_some_iff.1 H
                    obtain ⟨t536, Hc210, H⟩ := H
                    try dsimp only at H
                    have Hc21 := Aside0.mk Hc210
                    clear Hc210
                    replace H := Option.bind_eq_some_iff.1 H
                    obtain ⟨t538, Hc220, H⟩ := H
                    try dsimp only at H
                    have Hc22 := Aside0.mk Hc220
                    clear Hc220
                    by_cases c23 : (t536 == t538) = true
                    · rw [if_pos c23] at H
                      have c23b0 : (t536 == t538) = true := c23
                      (try (have c23b1 : decide (t536 = t538) = true := by simpa using c23))
                      (try (have c23b2 : (t536 == t538) = true := by simpa using c23))
                      clear c23
                      exact absurd H (by simp)
                    · rw [if_neg c23] at H
                      have c23b0 : (t536 == t538) = false := by simpa using c23
                      (try (have c23b1 : decide (t536 = t538) = false := by simpa using c23))
                      (try (have c23b2 : (t536 == t538) = false := by simpa using c23))
                      (try (have c23b3 : ¬ (t536 = t538) := by simpa using c23))
                      clear c23
                      replace H := Option.bind_eq_some_iff.1 H
                      obtain ⟨t540, Hc240, H⟩ := H
                      try dsimp only at H
                      have Hc24 := Aside0.mk Hc240
                      clear Hc240
                      by_cases c25 : t540 = true
                      · subst c25
                        rw [if_pos rfl] at H
                        exact absurd H (by simp)
                      · replace c25 := Bool.eq_false_iff.mpr c25
                        subst c25
                        rw [if_neg (show ¬ (false = true) by decide)] at H
                        have H' := Aside0.mk H
                        clear H
                        try go_wp2
                        have pq535 : 0 ≤ (x9_1 : Int) := of_decide_eq_true (by first | (with_reducible assumption) | assumption)
                        have qq535 : x9_1 < ((l1.length : Int) : Int) := of_decide_eq_true (by first | (with_reducible assumption) | assumption)
                        obtain ⟨adq535, eq535, hxxq535⟩ := RO.cell (enc := Value.int .i64) (h1 := fun _ => rfl) 0 HR1.out x9_1 pq535 qq535
                        have hxq535_0 := hxxq535 _ HK.out
                        cases eq535
                        replace pq535 := eq_true pq535
                        replace qq535 := eq_true qq535
                        have pq537 : 0 ≤ (x9_1 : Int) := of_decide_eq_true (by first | (with_reducible assumption) | assumption)
                        have qq537 : x9_1 < ((l1.length : Int) : Int) := of_decide_eq_true (by first | (with_reducible assumption) | assumption)
                        obtain ⟨adq537, eq537, hxxq537⟩ := RO.cell (enc := Value.int .i64) (h1 := fun _ => rfl) 0 HR1.out x9_1 pq537 qq537
                        have hxq537_0 := hxxq537 _ HK.out
                        obtain rfl : adq535 = adq537 := (by injection eq537)
                        replace pq537 := eq_true pq537
                        replace qq537 := eq_true qq537
                        have pq539 : 0 ≤ (x9_1 : Int) := of_decide_eq_true (by first | (with_reducible assumption) | assumption)
                        have qq539 : x9_1 < ((l1.length : Int) : Int) := of_decide_eq_true (by first | (with_reducible assumption) | assumption)
                        obtain ⟨adq539, eq539, hxxq539⟩ := RO.cell (enc := Value.int .i64) (h1 := fun _ => rfl) 0 HR1.out x9_1 pq539 qq539
                        have hxq539_0 := hxxq539 _ HK.out
                        obtain rfl : adq535 = adq539 := (by injection eq539)
                        replace pq539 := eq_true pq539
                        replace qq539 := eq_true qq539
                        refine start_ (n := 21) (S := fun w' => w'.cell? (adq535.add x9_1.toNat) = some (.int .i64 (rd l1 x9_1)) ∧ w'.cell? (adq535.add x9_1.toNat) = some (.int .i64 (rd l1 x9_1)) ∧ w'.cell? (adq535.add x9_1.toNat) = some (.int .i64 (rd l1 x9_1))) (ds := []) #[false, false, false, false, false, false, false, false, false, false, false, false, false, false, false, false, false, false, false, false, false] (by kernel_rfl) rfl rfl ⟨(by have h_ := hxxq535 _ HK.out; exact h_), (by have h_ := hxxq537 _ HK.out; exact h_), (by have h_ := hxxq539 _ HK.out; exact h_)⟩ (fun hHeld => ?_); refine with_tabW barrowlaw24_InterestChanges.tab13 barrowlaw24_InterestChanges.bits13 (fun HT_ HW_ => ?_)
                        replace HK := Aside0.mk (Keep.drew HK.out)
                        replace HS := Aside0.mk (SL.drew HS.out)
                        refine pure_ (i := 0) (N := some 63) (v := ?_) (a' := ?_) #[true, false, false, false, false, false, false, false, false, false, false, false, false, false, false, false, false, false, false, false, false] rfl rfl (any_of HT_.out (by kernel_rfl)) (fun _ _ _ h => h) (Or.inl ⟨by rfl, ?_⟩) ?_ ?_; rotate_left; · (intro w'; go_simp; with_reducible rfl)
                        rotate_left; · (simp only [Act.put, sT, sZ, sS, i64_w, i32_w]; rfl)
                        refine pure_ (i := 1) (N := some 64) (v := ?_) (a' := ?_) #[true, true, false, false, false, false, false, false, false, false, false, false, false, false, false, false, false, false, false, false, false] rfl rfl (any_of HT_.out (by kernel_rfl)) (fun _ _ _ h => h) (Or.inl ⟨by rfl, ?_⟩) ?_ ?_; rotate_left; · (intro w'; go_simp; with_reducible rfl)
                        rotate_left; · (simp only [Act.put, sT, sZ, sS, i64_w, i32_w]; rfl)
                        refine pure_ (i := 2) (N := some 65) (v := ?_) (a' := ?_) #[true, true, true, false, false, false, false, false, false, false, false, false, false, false, false, false, false, false, false, false, false] rfl rfl (any_of HT_.out (by kernel_rfl)) (fun _ _ _ h => h) (Or.inl ⟨by rfl, ?_⟩) ?_ ?_; rotate_left; · (intro w'; go_simp; with_reducible rfl)
                        rotate_left; · (simp only [Act.put, sT, sZ, sS, i64_w, i32_w]; rfl)
                        refine pure_ (i := 3) (N := some 66) (v := ?_) (a' := ?_) #[true, true, true, true, false, false, false, false, false, false, false, false, false, false, false, false, false, false, false, false, false] rfl rfl (any_of HT_.out (by kernel_rfl)) (fun _ _ _ h => h) (Or.inl ⟨by rfl, ?_⟩) ?_ ?_; rotate_left; · (intro w'; go_simp; with_reducible rfl)
                        rotate_left; · (simp only [Act.put, sT, sZ, sS, i64_w, i32_w]; rfl)
                        refine pure_ (i := 6) (N := some 69) (v := ?_) (a' := ?_) #[true, true, true, true, false, false, true, false, false, false, false, false, false, false, false, false, false, false, false, false, false] rfl rfl (any_of HT_.out (by kernel_rfl)) (fun _ _ _ h => h) (Or.inl ⟨by rfl, ?_⟩) ?_ ?_; rotate_left; · (intro w'; go_simp; with_reducible rfl)
                        rotate_left; · (simp only [Act.put, sT, sZ, sS, i64_w, i32_w]; rfl)
                        refine pure_ (i := 7) (N := some 70) (v := ?_) (a' := ?_) #[true, true, true, true, false, false, true, true, false, false, false, false, false, false, false, false, false, false, false, false, false] rfl rfl (any_of HT_.out (by kernel_rfl)) (fun _ _ _ h => h) (Or.inl ⟨by rfl, ?_⟩) ?_ ?_; rotate_left; · (intro w'; go_simp; with_reducible rfl)
                        rotate_left; · (simp only [Act.put, sT, sZ, sS, i64_w, i32_w]; rfl)
                        refine pure_ (i := 8) (N := some 71) (v := ?_) (a' := ?_) #[true, true, true, true, false, false, true, true, true, false, false, false, false, false, false, false, false, false, false, false, false] rfl rfl (any_of HT_.out (by kernel_rfl)) (fun _ _ _ h => h) (Or.inl ⟨by rfl, ?_⟩) ?_ ?_; rotate_left; · (intro w'; go_simp; with_reducible rfl)
                        rotate_left; · (simp only [Act.put, sT, sZ, sS, i64_w, i32_w]; rfl)
                        refine pure_ (i := 9) (N := some 72) (v := ?_) (a' := ?_) #[true, true, true, true, false, false, true, true, true, true, false, false, false, false, false, false, false, false, false, false, false] rfl rfl (any_of HT_.out (by kernel_rfl)) (fun _ _ _ h => h) (Or.inl ⟨by rfl, ?_⟩) ?_ ?_; rotate_left; · (intro w'; go_simp; with_reducible rfl)
                        rotate_left; · (simp only [Act.put, sT, sZ, sS, i64_w, i32_w]; rfl)
                        refine take_ (i := 4) (N := some 67) (v := ?_) (a' := ?_) #[true, true, true, true, true, false, true, true, true, true, false, false, false, false, false, false, false, false, false, false, false] rfl rfl (take_ofW HT_.out HW_.out (by kernel_rfl)) (fun _ _ _ h => h) (Or.inl ⟨by rfl, ?_⟩) hHeld ?_ ?_; rotate_left
                        · rintro w' ⟨s0, s1, s2⟩
                          go_simp
                          with_reducible rfl
                        rotate_left; · (simp only [Act.put, sT, sZ, sS, i64_w, i32_w]; rfl)
                        refine take_ (i := 10) (N := some 73) (v := ?_) (a' := ?_) #[true, true, true, true, true, false, true, true, true, true, true, false, false, false, false, false, false, false, false, false, false] rfl rfl (take_ofW HT_.out HW_.out (by kernel_rfl)) (fun _ _ _ h => h) (Or.inl ⟨by rfl, ?_⟩) hHeld ?_ ?_; rotate_left
                        · rintro w' ⟨s0, s1, s2⟩
                          go_simp
                          with_reducible rfl
                        rotate_left; · (simp only [Act.put, sT, sZ, sS, i64_w, i32_w]; rfl)
                        refine one_ (i := 5) (N := some 68) #[true, true, true, true, true, true, true, true, true, true, true, false, false, false, false, false, false, false, false, false, false] rfl rfl (one_of HT_.out (by kernel_rfl)) (by decide) (fun K hK => ?_)
                        refine goes_ Try.func17 (by kernel_rfl) rfl #[.slice Az3000072 t528.length cz3000072, .int .i64 (rd l1 x9_1)] (by rfl) rfl rfl (by (try simp only [List.map_toArray, List.map_cons, List.map_nil]); first | done | rfl | (simp; done)) ?_
                        (with_reducible refine (barrowlaw24_has.calls k2 _ _ _ _ _ _ (SL.row_c (SL.get1 HS.out)).2.2 (SL.row_c (SL.get1 HS.out)).2.1 Hc21.out).mono ?_)
                        rintro e_ w26 ⟨rfl, hb_⟩
                        refine ⟨_, rfl, ?_⟩
                        replace hb_ := Drawn0.below hb_
                        replace HS := Aside0.mk (HS.out.below hb_)
                        replace HK := Aside0.mk (HK.out.trans (Keep.below hb_))
                        refine hK.out _ _ ⟨(by have h_ := hxxq535 _ HK.out; exact h_), (by have h_ := hxxq537 _ HK.out; exact h_), (by have h_ := hxxq539 _ HK.out; exact h_)⟩ (fun hHeld => ?_)
                        clear hK K
                        refine norm_ (a' := ?_) ?_ ?_; rotate_left
                        · show Act.put _ (some 68) _ = _
                          simp only [Act.put, sT, sZ, sS, i64_w, i32_w]
                          rfl
                        refine one_ (i := 11) (N := some 74) #[true, true, true, true, true, true, true, true, true, true, true, true, false, false, false, false, false, false, false, false, false] rfl rfl (one_of HT_.out (by kernel_rfl)) (by decide) (fun K hK => ?_)
                        refine goes_ Try.func17 (by kernel_rfl) rfl #[.slice A0 l0.length c0, .int .i64 (rd l1 x9_1)] (by rfl) rfl rfl (by (try simp only [List.map_toArray, List.map_cons, List.map_nil]); first | done | rfl | (simp; done)) ?_
                        (with_reducible refine (barrowlaw24_has.calls k2 _ _ _ _ _ _ (RO.at_ HR0.out HK.out) HC0.out Hc22.out).mono ?_)
                        rintro e_ w27 ⟨rfl, hb_⟩
                        refine ⟨_, rfl, ?_⟩
                        replace hb_ := Drawn0.below hb_
                        replace HS := Aside0.mk (HS.out.below hb_)
                        replace HK := Aside0.mk (HK.out.trans (Keep.below hb_))
                        refine hK.out _ _ ⟨(by have h_ := hxxq535 _ HK.out; exact h_), (by have h_ := hxxq537 _ HK.out; exact h_), (by have h_ := hxxq539 _ HK.out; exact h_)⟩ (fun hHeld => ?_)
                        clear hK K
                        refine norm_ (a' := ?_) ?_ ?_; rotate_left
                        · show Act.put _ (some 74) _ = _
                          simp only [Act.put, sT, sZ, sS, i64_w, i32_w]
                          rfl
                        refine pure_ (i := 12) (N := some 75) (v := ?_) (a' := ?_) #[true, true, true, true, true, true, true, true, true, true, true, true, true, false, false, false, false, false, false, false, false] rfl rfl (any_of HT_.out (by kernel_rfl)) (fun _ _ _ h => h) (Or.inl ⟨by rfl, ?_⟩) ?_ ?_; rotate_left; · (intro w'; go_simp; with_reducible rfl)
                        rotate_left; · (simp only [Act.put, sT, sZ, sS, i64_w, i32_w]; rfl)
                        refine pure_ (i := 13) (N := some 76) (v := ?_) (a' := ?_) #[true, true, true, true, true, true, true, true, true, true, true, true, true, true, false, false, false, false, false, false, false] rfl rfl (any_of HT_.out (by kernel_rfl)) (fun _ _ _ h => h) (Or.inl ⟨by rfl, ?_⟩) ?_ ?_; rotate_left; · (intro w'; go_simp; with_reducible rfl)
                        rotate_left; · (simp only [Act.put, sT, sZ, sS, i64_w, i32_w]; rfl)
                        refine pure_ (i := 14) (N := some 77) (v := ?_) (a' := ?_) #[true, true, true, true, true, true, true, true, true, true, true, true, true, true, true, false, false, false, false, false, false] rfl rfl (any_of HT_.out (by kernel_rfl)) (fun _ _ _ h => h) (Or.inl ⟨by rfl, ?_⟩) ?_ ?_; rotate_left; · (intro w'; go_simp; with_reducible rfl)
                        rotate_left; · (simp only [Act.put, sT, sZ, sS, i64_w, i32_w]; rfl)
                        refine pure_ (i := 15) (N := some 78) (v := ?_) (a' := ?_) #[true, true, true, true, true, true, true, true, true, true, true, true, true, true, true, true, false, false, false, false, false] rfl rfl (any_of HT_.out (by kernel_rfl)) (fun _ _ _ h => h) (Or.inl ⟨by rfl, ?_⟩) ?_ ?_; rotate_left; · (intro w'; go_simp; with_reducible rfl)
                        rotate_left; · (simp only [Act.put, sT, sZ, sS, i64_w, i32_w]; rfl)
                        refine pure_ (i := 16) (N := some 79) (v := ?_) (a' := ?_) #[true, true, true, true, true, true, true, true, true, true, true, true, true, true, true, true, true, false, false, false, false] rfl rfl (any_of HT_.out (by kernel_rfl)) (fun _ _ _ h => h) (Or.inl ⟨by rfl, ?_⟩) ?_ ?_; rotate_left; · (intro w'; go_simp; with_reducible rfl)
                        rotate_left; · (simp only [Act.put, sT, sZ, sS, i64_w, i32_w]; rfl)
                        refine pure_ (i := 17) (N := some 80) (v := ?_) (a' := ?_) #[true, true, true, true, true, true, true, true, true, true, true, true, true, true, true, true, true, true, false, false, false] rfl rfl (any_of HT_.out (by kernel_rfl)) (fun _ _ _ h => h) (Or.inl ⟨by rfl, ?_⟩) ?_ ?_; rotate_left; · (intro w'; go_simp; with_reducible rfl)
                        rotate_left; · (simp only [Act.put, sT, sZ, sS, i64_w, i32_w]; rfl)
                        refine take_ (i := 18) (N := some 81) (v := ?_) (a' := ?_) #[true, true, true, true, true, true, true, true, true, true, true, true, true, true, true, true, true, true, true, false, false] rfl rfl (take_ofW HT_.out HW_.out (by kernel_rfl)) (fun _ _ _ h => h) (Or.inl ⟨by rfl, ?_⟩) hHeld ?_ ?_; rotate_left
                        · rintro w' ⟨s0, s1, s2⟩
                          go_simp
                          with_reducible rfl
                        rotate_left; · (simp only [Act.put, sT, sZ, sS, i64_w, i32_w]; rfl)
                        refine one_ (i := 19) (N := some 82) #[true, true, true, true, true, true, true, true, true, true, true, true, true, true, true, true, true, true, true, true, false] rfl rfl (one_of HT_.out (by kernel_rfl)) (by decide) (fun K hK => ?_)
                        refine goes_ Try.func17 (by kernel_rfl) rfl #[.slice Az3000071 t527.length cz3000071, .int .i64 (rd l1 x9_1)] (by rfl) rfl rfl (by (try simp only [List.map_toArray, List.map_cons, List.map_nil]); first | done | rfl | (simp; done)) ?_
                        (with_reducible refine (barrowlaw24_has.calls k2 _ _ _ _ _ _ (SL.row_c HS.out).2.2 (SL.row_c HS.out).2.1 Hc24.out).mono ?_)
                        rintro e_ w28 ⟨rfl, hb_⟩
                        refine ⟨_, rfl, ?_⟩
                        replace hb_ := Drawn0.below hb_
                        replace HS := Aside0.mk (HS.out.below hb_)
                        replace HK := Aside0.mk (HK.out.trans (Keep.below hb_))
                        refine hK.out _ _ ⟨(by have h_ := hxxq535 _ HK.out; exact h_), (by have h_ := hxxq537 _ HK.out; exact h_), (by have h_ := hxxq539 _ HK.out; exact h_)⟩ (fun hHeld => ?_)
                        clear hK K
                        refine norm_ (a' := ?_) ?_ ?_; rotate_left
                        · show Act.put _ (some 82) _ = _
                          simp only [Act.put, sT, sZ, sS, i64_w, i32_w]
                          rfl
                        refine pure_ (i := 20) (N := some 83) (v := ?_) (a' := ?_) #[true, true, true, true, true, true, true, true, true, true, true, true, true, true, true, true, true, true, true, true, true] rfl rfl (any_of HT_.out (by kernel_rfl)) (fun _ _ _ h => h) (Or.inl ⟨by rfl, ?_⟩) ?_ ?_; rotate_left; · (intro w'; go_simp; with_reducible rfl)
                        rotate_left; · (simp only [Act.put, sT, sZ, sS, i64_w, i32_w]; rfl)
                        refine done_ (done_of HT_.out (by kernel_rfl)) ?_
                        try go_wp2
                        go_roundg k2
                        case measure => have := HQ1.out; have := HQ2.out; omega
                        case rel => exact ⟨(wrap64 (x9_1 + 1)), (by first | rfl | (simp; done) | (simp [*]; done)), H', ⟨by have := HQ1.out; have := HQ2.out; omega⟩, HS, HK⟩
                  · rw [if_neg c20] at H
                    exact absurd H (by simp)
                · rw [if_neg c19] at H
                  have c19b0 : decide (x9_1 < (l1.length : Int)) = false := decide_eq_false c19
                  clear c19
                  have H' := Aside0.mk H
                  clear H
                  go_wp2
                  go_loopg [10] k2 (fun kq v10 w' => ∃ (x10_2 : Int), v10 = .int .i64 x10_2 ∧ Aside0 (barrowlaw24_InterestChanges.l2 kq l0 l1 t526 t527 t528 x10_2 = some r) ∧ Aside0 (kq ≤ k2) ∧ Aside0 (SL (row (Kd.int .i64) 3 (.slice Az3000071 t527.length cz3000071) t527 :: row (Kd.int .i64) 3 (.slice Az3000072 t528.length cz3000072) t528 :: L) w' S) ∧ Aside0 (Keep S w w'))
                  case atStart => exact ⟨(0), (by first | rfl | (simp; done) | (simp [*]; done)), H', ⟨Nat.le_refl _⟩, HS, HK⟩
                  case round =>
                    clear H' HS HK
                    obtain ⟨x10_2, rfl, HA, HQ3, HS, HK⟩ := hrel
                    cases gk with
                    | zero => exact absurd HA.out (by simp [barrowlaw24_InterestChanges.l2])
                    | succ k3 =>
                      have H := HA.out
                      clear HA
                      simp only [barrowlaw24_InterestChanges.l2] at H
                      by_cases c29 : x10_2 < (t527.length : Int)
                      · rw [if_pos c29] at H
                        have c29b0 : decide (x10_2 < (t527.length : Int)) = true := decide_eq_true c29
                        clear c29
                        by_cases c30 : 0 ≤ x10_2
                        · rw [if_pos c30] at H
                          have c30b0 : decide (0 ≤ x10_2) = true := decide_eq_true c30
                          clear c30
                          replace H := Option.bind_eq_some_iff.1 H
                          obtain ⟨t542, Hc310, H⟩ := H
                          try dsimp only at H
                          have Hc31 := Aside0.mk Hc310
                          clear Hc310
                          by_cases c32 : t542 = true
                          · subst c32
                            rw [if_pos rfl] at H
                            by_cases c33 : x10_2 > 0
                            · rw [if_pos c33] at H
                              have c33b0 : decide (0 < x10_2) = true := decide_eq_true c33
                              clear c33
                              replace H := Option.bind_eq_some_iff.1 H
                              obtain ⟨j544, hj5440, H⟩ := H
                              try dsimp only at H
                              have hj544 := Option.some.inj hj5440
                              clear hj5440
                              have hj544w : (IntKind.i64.wrap (x10_2 - 1)) = j544 := (i64_w _).trans hj544
                              by_cases c34 : 0 ≤ j544
                              · rw [if_pos c34] at H
                                have c34b0 : decide (0 ≤ j544) = true := decide_eq_true c34
                                clear c34
                                by_cases c35 : j544 < (t527.length : Int)
                                · rw [if_pos c35] at H
                                  have c35b0 : decide (j544 < (t527.length : Int)) = true := decide_eq_true c35
                                  clear c35
                                  by_cases c36 : (rd t527 x10_2) ≤ (rd t527 j544)
                                  · rw [if_pos c36] at H
                                    exact absurd H (by simp)
                                  · rw [if_neg c36] at H
                                    have c36b0 : decide ((rd t527 x10_2) ≤ (rd t527 j544)) = false := decide_eq_false c36
                                    clear c36
                                    have H' := Aside0.mk H
                                    clear H
                                    try go_wp2
                                    have pq541 : 0 ≤ (x10_2 : Int) := of_decide_eq_true (by first | (with_reducible assumption) | assumption)
                                    have qq541 : x10_2 < ((t527.length : Int) : Int) := of_decide_eq_true (by first | (with_reducible assumption) | assumption)
                                    obtain ⟨adq541, eq541, hxq541_0⟩ := Kd.at_int (SL.row_c HS.out).2.2 x10_2 pq541 qq541
                                    cases eq541
                                    replace pq541 := eq_true pq541
                                    replace qq541 := eq_true qq541
                                    have pq543 : 0 ≤ (x10_2 : Int) := of_decide_eq_true (by first | (with_reducible assumption) | assumption)
                                    have qq543 : x10_2 < ((t527.length : Int) : Int) := of_decide_eq_true (by first | (with_reducible assumption) | assumption)
                                    obtain ⟨adq543, eq543, hxq543_0⟩ := Kd.at_int (SL.row_c HS.out).2.2 x10_2 pq543 qq543
                                    obtain rfl : adq541 = adq543 := (by injection eq543)
                                    replace pq543 := eq_true pq543
                                    replace qq543 := eq_true qq543
                                    have pq545 : 0 ≤ (j544 : Int) := of_decide_eq_true (by first | (with_reducible assumption) | assumption)
                                    have qq545 : j544 < ((t527.length : Int) : Int) := of_decide_eq_true (by first | (with_reducible assumption) | assumption)
                                    obtain ⟨adq545, eq545, hxq545_0⟩ := Kd.at_int (SL.row_c HS.out).2.2 j544 pq545 qq545
                                    obtain rfl : adq541 = adq545 := (by injection eq545)
                                    replace pq545 := eq_true pq545
                                    replace qq545 := eq_true qq545
                                    refine start_ (n := 23) (S := fun w' => w'.cell? (adq541.add x10_2.toNat) = some (.int .i64 (rd t527 x10_2)) ∧ w'.cell? (adq541.add x10_2.toNat) = some (.int .i64 (rd t527 x10_2)) ∧ w'.cell? (adq541.add j544.toNat) = some (.int .i64 (rd t527 j544))) (ds := []) #[false, false, false, false, false, false, false, false, false, false, false, false, false, false, false, false, false, false, false, false, false, false, false] (by kernel_rfl) rfl rfl ⟨(SL.cell_int HS.out x10_2 (of_eq_true pq541) (of_eq_true qq541)), (SL.cell_int HS.out x10_2 (of_eq_true pq543) (of_eq_true qq543)), (SL.cell_int HS.out j544 (of_eq_true pq545) (of_eq_true qq545))⟩ (fun hHeld => ?_); refine with_tabW barrowlaw24_InterestChanges.tab18 barrowlaw24_InterestChanges.bits18 (fun HT_ HW_ => ?_)
                                    replace HK := Aside0.mk (Keep.drew HK.out)
                                    replace HS := Aside0.mk (SL.drew HS.out)
                                    refine pure_ (i := 0) (N := some 90) (v := ?_) (a' := ?_) #[true, false, false, false, false, false, false, false, false, false, false, false, false, false, false, false, false, false, false, false, false, false, false] rfl rfl (any_of HT_.out (by kernel_rfl)) (fun _ _ _ h => h) (Or.inl ⟨by rfl, ?_⟩) ?_ ?_; rotate_left; · (intro w'; go_simp; with_reducible rfl)
                                    rotate_left; · (simp only [Act.put, sT, sZ, sS, i64_w, i32_w]; rfl)
                                    refine pure_ (i := 1) (N := some 91) (v := ?_) (a' := ?_) #[true, true, false, false, false, false, false, false, false, false, false, false, false, false, false, false, false, false, false, false, false, false, false] rfl rfl (any_of HT_.out (by kernel_rfl)) (fun _ _ _ h => h) (Or.inl ⟨by rfl, ?_⟩) ?_ ?_; rotate_left; · (intro w'; go_simp; with_reducible rfl)
                                    rotate_left; · (simp only [Act.put, sT, sZ, sS, i64_w, i32_w]; rfl)
                                    refine pure_ (i := 2) (N := some 92) (v := ?_) (a' := ?_) #[true, true, true, false, false, false, false, false, false, false, false, false, false, false, false, false, false, false, false, false, false, false, false] rfl rfl (any_of HT_.out (by kernel_rfl)) (fun _ _ _ h => h) (Or.inl ⟨by rfl, ?_⟩) ?_ ?_; rotate_left; · (intro w'; go_simp; with_reducible rfl)
                                    rotate_left; · (simp only [Act.put, sT, sZ, sS, i64_w, i32_w]; rfl)
                                    refine pure_ (i := 3) (N := some 93) (v := ?_) (a' := ?_) #[true, true, true, true, false, false, false, false, false, false, false, false, false, false, false, false, false, false, false, false, false, false, false] rfl rfl (any_of HT_.out (by kernel_rfl)) (fun _ _ _ h => h) (Or.inl ⟨by rfl, ?_⟩) ?_ ?_; rotate_left; · (intro w'; go_simp; with_reducible rfl)
                                    rotate_left; · (simp only [Act.put, sT, sZ, sS, i64_w, i32_w]; rfl)
                                    refine take_ (i := 4) (N := some 94) (v := ?_) (a' := ?_) #[true, true, true, true, true, false, false, false, false, false, false, false, false, false, false, false, false, false, false, false, false, false, false] rfl rfl (take_ofW HT_.out HW_.out (by kernel_rfl)) (fun _ _ _ h => h) (Or.inl ⟨by rfl, ?_⟩) hHeld ?_ ?_; rotate_left
                                    · rintro w' ⟨s0, s1, s2⟩
                                      go_simp
                                      with_reducible rfl
                                    rotate_left; · (simp only [Act.put, sT, sZ, sS, i64_w, i32_w]; rfl)
                                    refine one_ (i := 5) (N := some 95) #[true, true, true, true, true, true, false, false, false, false, false, false, false, false, false, false, false, false, false, false, false, false, false] rfl rfl (one_of HT_.out (by kernel_rfl)) (by decide) (fun K hK => ?_)
                                    refine goes_ Try.func17 (by kernel_rfl) rfl #[.slice A0 l0.length c0, .int .i64 (rd t527 x10_2)] (by rfl) rfl rfl (by (try simp only [List.map_toArray, List.map_cons, List.map_nil]); first | done | rfl | (simp; done)) ?_
                                    (with_reducible refine (barrowlaw24_has.calls k3 _ _ _ _ _ _ (RO.at_ HR0.out HK.out) HC0.out Hc31.out).mono ?_)
                                    rintro e_ w37 ⟨rfl, hb_⟩
                                    refine ⟨_, rfl, ?_⟩
                                    replace hb_ := Drawn0.below hb_
                                    replace HS := Aside0.mk (HS.out.below hb_)
                                    replace HK := Aside0.mk (HK.out.trans (Keep.below hb_))
                                    refine hK.out _ _ ⟨(SL.cell_int HS.out x10_2 (of_eq_true pq541) (of_eq_true qq541)), (SL.cell_int HS.out x10_2 (of_eq_true pq543) (of_eq_true qq543)), (SL.cell_int HS.out j544 (of_eq_true pq545) (of_eq_true qq545))⟩ (fun hHeld => ?_)
                                    clear hK K
                                    refine norm_ (a' := ?_) ?_ ?_; rotate_left
                                    · show Act.put _ (some 95) _ = _
                                      simp only [Act.put, sT, sZ, sS, i64_w, i32_w]
                                      rfl
                                    refine pure_ (i := 6) (N := some 96) (v := ?_) (a' := ?_) #[true, true, true, true, true, true, true, false, false, false, false, false, false, false, false, false, false, false, false, false, false, false, false] rfl rfl (any_of HT_.out (by kernel_rfl)) (fun _ _ _ h => h) (Or.inl ⟨by rfl, ?_⟩) ?_ ?_; rotate_left; · (intro w'; go_simp; with_reducible rfl)
                                    rotate_left; · (simp only [Act.put, sT, sZ, sS, i64_w, i32_w]; rfl)
                                    refine pure_ (i := 7) (N := some 97) (v := ?_) (a' := ?_) #[true, true, true, true, true, true, true, true, false, false, false, false, false, false, false, false, false, false, false, false, false, false, false] rfl rfl (any_of HT_.out (by kernel_rfl)) (fun _ _ _ h => h) (Or.inl ⟨by rfl, ?_⟩) ?_ ?_; rotate_left; · (intro w'; go_simp; with_reducible rfl)
                                    rotate_left; · (simp only [Act.put, sT, sZ, sS, i64_w, i32_w]; rfl)
                                    refine pure_ (i := 8) (N := some 98) (v := ?_) (a' := ?_) #[true, true, true, true, true, true, true, true, true, false, false, false, false, false, false, false, false, false, false, false, false, false, false] rfl rfl (any_of HT_.out (by kernel_rfl)) (fun _ _ _ h => h) (Or.inl ⟨by rfl, ?_⟩) ?_ ?_; rotate_left; · (intro w'; go_simp; with_reducible rfl)
                                    rotate_left; · (simp only [Act.put, sT, sZ, sS, i64_w, i32_w]; rfl)
                                    refine pure_ (i := 9) (N := some 99) (v := ?_) (a' := ?_) #[true, true, true, true, true, true, true, true, true, true, false, false, false, false, false, false, false, false, false, false, false, false, false] rfl rfl (any_of HT_.out (by kernel_rfl)) (fun _ _ _ h => h) (Or.inl ⟨by rfl, ?_⟩) ?_ ?_; rotate_left; · (intro w'; go_simp; with_reducible rfl)
                                    rotate_left; · (simp only [Act.put, sT, sZ, sS, i64_w, i32_w]; rfl)
                                    refine pure_ (i := 10) (N := some 100) (v := ?_) (a' := ?_) #[true, true, true, true, true, true, true, true, true, true, true, false, false, false, false, false, false, false, false, false, false, false, false] rfl rfl (any_of HT_.out (by kernel_rfl)) (fun _ _ _ h => h) (Or.inl ⟨by rfl, ?_⟩) ?_ ?_; rotate_left; · (intro w'; go_simp; with_reducible rfl)
                                    rotate_left; · (simp only [Act.put, sT, sZ, sS, i64_w, i32_w]; rfl)
                                    refine pure_ (i := 11) (N := some 101) (v := ?_) (a' := ?_) #[true, true, true, true, true, true, true, true, true, true, true, true, false, false, false, false, false, false, false, false, false, false, false] rfl rfl (any_of HT_.out (by kernel_rfl)) (fun _ _ _ h => h) (Or.inl ⟨by rfl, ?_⟩) ?_ ?_; rotate_left; · (intro w'; go_simp; with_reducible rfl)
                                    rotate_left; · (simp only [Act.put, sT, sZ, sS, i64_w, i32_w]; rfl)
                                    refine pure_ (i := 12) (N := some 102) (v := ?_) (a' := ?_) #[true, true, true, true, true, true, true, true, true, true, true, true, true, false, false, false, false, false, false, false, false, false, false] rfl rfl (any_of HT_.out (by kernel_rfl)) (fun _ _ _ h => h) (Or.inl ⟨by rfl, ?_⟩) ?_ ?_; rotate_left; · (intro w'; go_simp; with_reducible rfl)
                                    rotate_left; · (simp only [Act.put, sT, sZ, sS, i64_w, i32_w]; rfl)
                                    refine pure_ (i := 13) (N := some 103) (v := ?_) (a' := ?_) #[true, true, true, true, true, true, true, true, true, true, true, true, true, true, false, false, false, false, false, false, false, false, false] rfl rfl (any_of HT_.out (by kernel_rfl)) (fun _ _ _ h => h) (Or.inl ⟨by rfl, ?_⟩) ?_ ?_; rotate_left; · (intro w'; go_simp; with_reducible rfl)
                                    rotate_left; · (simp only [Act.put, sT, sZ, sS, i64_w, i32_w]; rfl)
                                    refine pure_ (i := 15) (N := some 105) (v := ?_) (a' := ?_) #[true, true, true, true, true, true, true, true, true, true, true, true, true, true, false, true, false, false, false, false, false, false, false] rfl rfl (any_of HT_.out (by kernel_rfl)) (fun _ _ _ h => h) (Or.inl ⟨by rfl, ?_⟩) ?_ ?_; rotate_left; · (intro w'; go_simp; with_reducible rfl)
                                    rotate_left; · (simp only [Act.put, sT, sZ, sS, i64_w, i32_w]; rfl)
                                    refine pure_ (i := 16) (N := some 106) (v := ?_) (a' := ?_) #[true, true, true, true, true, true, true, true, true, true, true, true, true, true, false, true, true, false, false, false, false, false, false] rfl rfl (any_of HT_.out (by kernel_rfl)) (fun _ _ _ h => h) (Or.inl ⟨by rfl, ?_⟩) ?_ ?_; rotate_left; · (intro w'; go_simp; with_reducible rfl)
                                    rotate_left; · (simp only [Act.put, sT, sZ, sS, i64_w, i32_w]; rfl)
                                    refine pure_ (i := 17) (N := some 107) (v := ?_) (a' := ?_) #[true, true, true, true, true, true, true, true, true, true, true, true, true, true, false, true, true, true, false, false, false, false, false] rfl rfl (any_of HT_.out (by kernel_rfl)) (fun _ _ _ h => h) (Or.inl ⟨by rfl, ?_⟩) ?_ ?_; rotate_left; · (intro w'; go_simp; with_reducible rfl)
                                    rotate_left; · (simp only [Act.put, sT, sZ, sS, i64_w, i32_w]; rfl)
                                    refine pure_ (i := 18) (N := some 108) (v := ?_) (a' := ?_) #[true, true, true, true, true, true, true, true, true, true, true, true, true, true, false, true, true, true, true, false, false, false, false] rfl rfl (any_of HT_.out (by kernel_rfl)) (fun _ _ _ h => h) (Or.inl ⟨by rfl, ?_⟩) ?_ ?_; rotate_left; · (intro w'; go_simp; with_reducible rfl)
                                    rotate_left; · (simp only [Act.put, sT, sZ, sS, i64_w, i32_w]; rfl)
                                    refine take_ (i := 14) (N := some 104) (v := ?_) (a' := ?_) #[true, true, true, true, true, true, true, true, true, true, true, true, true, true, true, true, true, true, true, false, false, false, false] rfl rfl (take_ofW HT_.out HW_.out (by kernel_rfl)) (fun _ _ _ h => h) (Or.inl ⟨by rfl, ?_⟩) hHeld ?_ ?_; rotate_left
                                    · rintro w' ⟨s0, s1, s2⟩
                                      go_simp
                                      with_reducible rfl
                                    rotate_left; · (simp only [Act.put, sT, sZ, sS, i64_w, i32_w]; rfl)
                                    refine take_ (i := 19) (N := some 109) (v := ?_) (a' := ?_) #[true, true, true, true, true, true, true, true, true, true, true, true, true, true, true, true, true, true, true, true, false, false, false] rfl rfl (take_ofW HT_.out HW_.out (by kernel_rfl)) (fun _ _ _ h => h) (Or.inl ⟨by rfl, ?_⟩) hHeld ?_ ?_; rotate_left
                                    · rintro w' ⟨s0, s1, s2⟩
                                      go_simp
                                      with_reducible rfl
                                    rotate_left; · (simp only [Act.put, sT, sZ, sS, i64_w, i32_w]; rfl)
                                    refine pure_ (i := 20) (N := some 110) (v := ?_) (a' := ?_) #[true, true, true, true, true, true, true, true, true, true, true, true, true, true, true, true, true, true, true, true, true, false, false] rfl rfl (any_of HT_.out (by kernel_rfl)) (fun _ _ _ h => h) (Or.inl ⟨by rfl, ?_⟩) ?_ ?_; rotate_left; · (intro w'; go_simp; with_reducible rfl)
                                    rotate_left; · (simp only [Act.put, sT, sZ, sS, i64_w, i32_w]; rfl)
                                    refine pure_ (i := 21) (N := some 111) (v := ?_) (a' := ?_) #[true, true, true, true, true, true, true, true, true, true, true, true, true, true, true, true, true, true, true, true, true, true, false] rfl rfl (any_of HT_.out (by kernel_rfl)) (fun _ _ _ h => h) (Or.inl ⟨by rfl, ?_⟩) ?_ ?_; rotate_left; · (intro w'; go_simp; with_reducible rfl)
                                    rotate_left; · (simp only [Act.put, sT, sZ, sS, i64_w, i32_w]; rfl)
                                    refine pure_ (i := 22) (N := some 112) (v := ?_) (a' := ?_) #[true, true, true, true, true, true, true, true, true, true, true, true, true, true, true, true, true, true, true, true, true, true, true] rfl rfl (any_of HT_.out (by kernel_rfl)) (fun _ _ _ h => h) (Or.inl ⟨by rfl, ?_⟩) ?_ ?_; rotate_left; · (intro w'; go_simp; with_reducible rfl)
                                    rotate_left; · (simp only [Act.put, sT, sZ, sS, i64_w, i32_w]; rfl)
                                    refine done_ (done_of HT_.out (by kernel_rfl)) ?_
                                    try go_wp2
                                    go_roundg k3
                                    case measure => have := HQ1.out; have := HQ2.out; have := HQ3.out; omega
                                    case rel => exact ⟨(wrap64 (x10_2 + 1)), (by first | rfl | (simp; done) | (simp [*]; done)), H', ⟨by have := HQ1.out; have := HQ2.out; have := HQ3.out; omega⟩, HS, HK⟩
                                · rw [if_neg c35] at H
                                  exact absurd H (by simp)
                              · rw [if_neg c34] at H
                                exact absurd H (by simp)
                            · rw [if_neg c33] at H
                              have c33b0 : decide (0 < x10_2) = false := decide_eq_false c33
                              clear c33
                              have H' := Aside0.mk H
                              clear H
                              try go_wp2
                              have pq541 : 0 ≤ (x10_2 : Int) := of_decide_eq_true (by first | (with_reducible assumption) | assumption)
                              have qq541 : x10_2 < ((t527.length : Int) : Int) := of_decide_eq_true (by first | (with_reducible assumption) | assumption)
                              obtain ⟨adq541, eq541, hxq541_0⟩ := Kd.at_int (SL.row_c HS.out).2.2 x10_2 pq541 qq541
                              cases eq541
                              replace pq541 := eq_true pq541
                              replace qq541 := eq_true qq541
                              refine start_ (n := 23) (S := fun w' => w'.cell? (adq541.add x10_2.toNat) = some (.int .i64 (rd t527 x10_2))) (ds := []) #[false, false, false, false, false, false, false, false, false, false, false, false, false, false, false, false, false, false, false, false, false, false, false] (by kernel_rfl) rfl rfl ((SL.cell_int HS.out x10_2 (of_eq_true pq541) (of_eq_true qq541))) (fun hHeld => ?_); refine with_tabW barrowlaw24_InterestChanges.tab18 barrowlaw24_InterestChanges.bits18 (fun HT_ HW_ => ?_)
                              replace HK := Aside0.mk (Keep.drew HK.out)
                              replace HS := Aside0.mk (SL.drew HS.out)
                              refine pure_ (i := 0) (N := some 90) (v := ?_) (a' := ?_) #[true, false, false, false, false, false, false, false, false, false, false, false, false, false, false, false, false, false, false, false, false, false, false] rfl rfl (any_of HT_.out (by kernel_rfl)) (fun _ _ _ h => h) (Or.inl ⟨by rfl, ?_⟩) ?_ ?_; rotate_left; · (intro w'; go_simp; with_reducible rfl)
                              rotate_left; · (simp only [Act.put, sT, sZ, sS, i64_w, i32_w]; rfl)
                              refine pure_ (i := 1) (N := some 91) (v := ?_) (a' := ?_) #[true, true, false, false, false, false, false, false, false, false, false, false, false, false, false, false, false, false, false, false, false, false, false] rfl rfl (any_of HT_.out (by kernel_rfl)) (fun _ _ _ h => h) (Or.inl ⟨by rfl, ?_⟩) ?_ ?_; rotate_left; · (intro w'; go_simp; with_reducible rfl)
                              rotate_left; · (simp only [Act.put, sT, sZ, sS, i64_w, i32_w]; rfl)
                              refine pure_ (i := 2) (N := some 92) (v := ?_) (a' := ?_) #[true, true, true, false, false, false, false, false, false, false, false, false, false, false, false, false, false, false, false, false, false, false, false] rfl rfl (any_of HT_.out (by kernel_rfl)) (fun _ _ _ h => h) (Or.inl ⟨by rfl, ?_⟩) ?_ ?_; rotate_left; · (intro w'; go_simp; with_reducible rfl)
                              rotate_left; · (simp only [Act.put, sT, sZ, sS, i64_w, i32_w]; rfl)
                              refine pure_ (i := 3) (N := some 93) (v := ?_) (a' := ?_) #[true, true, true, true, false, false, false, false, false, false, false, false, false, false, false, false, false, false, false, false, false, false, false] rfl rfl (any_of HT_.out (by kernel_rfl)) (fun _ _ _ h => h) (Or.inl ⟨by rfl, ?_⟩) ?_ ?_; rotate_left; · (intro w'; go_simp; with_reducible rfl)
                              rotate_left; · (simp only [Act.put, sT, sZ, sS, i64_w, i32_w]; rfl)
                              refine take_ (i := 4) (N := some 94) (v := ?_) (a' := ?_) #[true, true, true, true, true, false, false, false, false, false, false, false, false, false, false, false, false, false, false, false, false, false, false] rfl rfl (take_ofW HT_.out HW_.out (by kernel_rfl)) (fun _ _ _ h => h) (Or.inl ⟨by rfl, ?_⟩) hHeld ?_ ?_; rotate_left
                              · intro w' s0
                                go_simp
                                with_reducible rfl
                              rotate_left; · (simp only [Act.put, sT, sZ, sS, i64_w, i32_w]; rfl)
                              refine one_ (i := 5) (N := some 95) #[true, true, true, true, true, true, false, false, false, false, false, false, false, false, false, false, false, false, false, false, false, false, false] rfl rfl (one_of HT_.out (by kernel_rfl)) (by decide) (fun K hK => ?_)
                              refine goes_ Try.func17 (by kernel_rfl) rfl #[.slice A0 l0.length c0, .int .i64 (rd t527 x10_2)] (by rfl) rfl rfl (by (try simp only [List.map_toArray, List.map_cons, List.map_nil]); first | done | rfl | (simp; done)) ?_
                              (with_reducible refine (barrowlaw24_has.calls k3 _ _ _ _ _ _ (RO.at_ HR0.out HK.out) HC0.out Hc31.out).mono ?_)
                              rintro e_ w38 ⟨rfl, hb_⟩
                              refine ⟨_, rfl, ?_⟩
                              replace hb_ := Drawn0.below hb_
                              replace HS := Aside0.mk (HS.out.below hb_)
                              replace HK := Aside0.mk (HK.out.trans (Keep.below hb_))
                              refine hK.out _ _ ((SL.cell_int HS.out x10_2 (of_eq_true pq541) (of_eq_true qq541))) (fun hHeld => ?_)
                              clear hK K
                              refine norm_ (a' := ?_) ?_ ?_; rotate_left
                              · show Act.put _ (some 95) _ = _
                                simp only [Act.put, sT, sZ, sS, i64_w, i32_w]
                                rfl
                              refine pure_ (i := 6) (N := some 96) (v := ?_) (a' := ?_) #[true, true, true, true, true, true, true, false, false, false, false, false, false, false, false, false, false, false, false, false, false, false, false] rfl rfl (any_of HT_.out (by kernel_rfl)) (fun _ _ _ h => h) (Or.inl ⟨by rfl, ?_⟩) ?_ ?_; rotate_left; · (intro w'; go_simp; with_reducible rfl)
                              rotate_left; · (simp only [Act.put, sT, sZ, sS, i64_w, i32_w]; rfl)
                              refine pure_ (i := 7) (N := some 97) (v := ?_) (a' := ?_) #[true, true, true, true, true, true, true, true, false, false, false, false, false, false, false, false, false, false, false, false, false, false, false] rfl rfl (any_of HT_.out (by kernel_rfl)) (fun _ _ _ h => h) (Or.inl ⟨by rfl, ?_⟩) ?_ ?_; rotate_left; · (intro w'; go_simp; with_reducible rfl)
                              rotate_left; · (simp only [Act.put, sT, sZ, sS, i64_w, i32_w]; rfl)
                              refine pure_ (i := 8) (N := some 98) (v := ?_) (a' := ?_) #[true, true, true, true, true, true, true, true, true, false, false, false, false, false, false, false, false, false, false, false, false, false, false] rfl rfl (any_of HT_.out (by kernel_rfl)) (fun _ _ _ h => h) (Or.inl ⟨by rfl, ?_⟩) ?_ ?_; rotate_left; · (intro w'; go_simp; with_reducible rfl)
                              rotate_left; · (simp only [Act.put, sT, sZ, sS, i64_w, i32_w]; rfl)
                              refine pure_ (i := 9) (N := some 99) (v := ?_) (a' := ?_) #[true, true, true, true, true, true, true, true, true, true, false, false, false, false, false, false, false, false, false, false, false, false, false] rfl rfl (any_of HT_.out (by kernel_rfl)) (fun _ _ _ h => h) (Or.inl ⟨by rfl, ?_⟩) ?_ ?_; rotate_left; · (intro w'; go_simp; with_reducible rfl)
                              rotate_left; · (simp only [Act.put, sT, sZ, sS, i64_w, i32_w]; rfl)
                              refine pure_ (i := 10) (N := some 100) (v := ?_) (a' := ?_) #[true, true, true, true, true, true, true, true, true, true, true, false, false, false, false, false, false, false, false, false, false, false, false] rfl rfl (any_of HT_.out (by kernel_rfl)) (fun _ _ _ h => h) (Or.inl ⟨by rfl, ?_⟩) ?_ ?_; rotate_left; · (intro w'; go_simp; with_reducible rfl)
                              rotate_left; · (simp only [Act.put, sT, sZ, sS, i64_w, i32_w]; rfl)
                              refine pure_ (i := 11) (N := some 101) (v := undef) (a' := ?_) #[true, true, true, true, true, true, true, true, true, true, true, true, false, false, false, false, false, false, false, false, false, false, false] rfl rfl (any_of HT_.out (by kernel_rfl)) (fun _ _ _ h => h) (Or.inr ⟨by rfl, rfl⟩) ?_ ?_; rotate_left; · (simp only [Act.put, sT, sZ, sS, i64_w, i32_w]; rfl)
                              refine pure_ (i := 12) (N := some 102) (v := undef) (a' := ?_) #[true, true, true, true, true, true, true, true, true, true, true, true, true, false, false, false, false, false, false, false, false, false, false] rfl rfl (any_of HT_.out (by kernel_rfl)) (fun _ _ _ h => h) (Or.inr ⟨by rfl, rfl⟩) ?_ ?_; rotate_left; · (simp only [Act.put, sT, sZ, sS, i64_w, i32_w]; rfl)
                              refine pure_ (i := 13) (N := some 103) (v := undef) (a' := ?_) #[true, true, true, true, true, true, true, true, true, true, true, true, true, true, false, false, false, false, false, false, false, false, false] rfl rfl (any_of HT_.out (by kernel_rfl)) (fun _ _ _ h => h) (Or.inr ⟨by rfl, rfl⟩) ?_ ?_; rotate_left; · (simp only [Act.put, sT, sZ, sS, i64_w, i32_w]; rfl)
                              refine pure_ (i := 14) (N := some 104) (v := undef) (a' := ?_) #[true, true, true, true, true, true, true, true, true, true, true, true, true, true, true, false, false, false, false, false, false, false, false] rfl rfl (any_of HT_.out (by kernel_rfl)) (fun _ _ _ h => h) (Or.inr ⟨by rfl, rfl⟩) ?_ ?_; rotate_left; · (simp only [Act.put, sT, sZ, sS, i64_w, i32_w]; rfl)
                              refine pure_ (i := 15) (N := some 105) (v := undef) (a' := ?_) #[true, true, true, true, true, true, true, true, true, true, true, true, true, true, true, true, false, false, false, false, false, false, false] rfl rfl (any_of HT_.out (by kernel_rfl)) (fun _ _ _ h => h) (Or.inr ⟨by rfl, rfl⟩) ?_ ?_; rotate_left; · (simp only [Act.put, sT, sZ, sS, i64_w, i32_w]; rfl)
                              refine pure_ (i := 16) (N := some 106) (v := undef) (a' := ?_) #[true, true, true, true, true, true, true, true, true, true, true, true, true, true, true, true, true, false, false, false, false, false, false] rfl rfl (any_of HT_.out (by kernel_rfl)) (fun _ _ _ h => h) (Or.inr ⟨by rfl, rfl⟩) ?_ ?_; rotate_left; · (simp only [Act.put, sT, sZ, sS, i64_w, i32_w]; rfl)
                              refine pure_ (i := 17) (N := some 107) (v := undef) (a' := ?_) #[true, true, true, true, true, true, true, true, true, true, true, true, true, true, true, true, true, true, false, false, false, false, false] rfl rfl (any_of HT_.out (by kernel_rfl)) (fun _ _ _ h => h) (Or.inr ⟨by rfl, rfl⟩) ?_ ?_; rotate_left; · (simp only [Act.put, sT, sZ, sS, i64_w, i32_w]; rfl)
                              refine pure_ (i := 18) (N := some 108) (v := undef) (a' := ?_) #[true, true, true, true, true, true, true, true, true, true, true, true, true, true, true, true, true, true, true, false, false, false, false] rfl rfl (any_of HT_.out (by kernel_rfl)) (fun _ _ _ h => h) (Or.inr ⟨by rfl, rfl⟩) ?_ ?_; rotate_left; · (simp only [Act.put, sT, sZ, sS, i64_w, i32_w]; rfl)
                              refine pure_ (i := 19) (N := some 109) (v := undef) (a' := ?_) #[true, true, true, true, true, true, true, true, true, true, true, true, true, true, true, true, true, true, true, true, false, false, false] rfl rfl (any_of HT_.out (by kernel_rfl)) (fun _ _ _ h => h) (Or.inr ⟨by rfl, rfl⟩) ?_ ?_; rotate_left; · (simp only [Act.put, sT, sZ, sS, i64_w, i32_w]; rfl)
                              refine pure_ (i := 20) (N := some 110) (v := undef) (a' := ?_) #[true, true, true, true, true, true, true, true, true, true, true, true, true, true, true, true, true, true, true, true, true, false, false] rfl rfl (any_of HT_.out (by kernel_rfl)) (fun _ _ _ h => h) (Or.inr ⟨by rfl, rfl⟩) ?_ ?_; rotate_left; · (simp only [Act.put, sT, sZ, sS, i64_w, i32_w]; rfl)
                              refine pure_ (i := 21) (N := some 111) (v := ?_) (a' := ?_) #[true, true, true, true, true, true, true, true, true, true, true, true, true, true, true, true, true, true, true, true, true, true, false] rfl rfl (any_of HT_.out (by kernel_rfl)) (fun _ _ _ h => h) (Or.inl ⟨by rfl, ?_⟩) ?_ ?_; rotate_left; · (intro w'; go_simp; with_reducible rfl)
                              rotate_left; · (simp only [Act.put, sT, sZ, sS, i64_w, i32_w]; rfl)
                              refine pure_ (i := 22) (N := some 112) (v := ?_) (a' := ?_) #[true, true, true, true, true, true, true, true, true, true, true, true, true, true, true, true, true, true, true, true, true, true, true] rfl rfl (any_of HT_.out (by kernel_rfl)) (fun _ _ _ h => h) (Or.inl ⟨by rfl, ?_⟩) ?_ ?_; rotate_left; · (intro w'; go_simp; with_reducible rfl)
                              rotate_left; · (simp only [Act.put, sT, sZ, sS, i64_w, i32_w]; rfl)
                              refine done_ (done_of HT_.out (by kernel_rfl)) ?_
                              try go_wp2
                              go_roundg k3
                              case measure => have := HQ1.out; have := HQ2.out; have := HQ3.out; omega
                              case rel => exact ⟨(wrap64 (x10_2 + 1)), (by first | rfl | (simp; done) | (simp [*]; done)), H', ⟨by have := HQ1.out; have := HQ2.out; have := HQ3.out; omega⟩, HS, HK⟩
                          · replace c32 := Bool.eq_false_iff.mpr c32
                            subst c32
                            rw [if_neg (show ¬ (false = true) by decide)] at H
                            exact absurd H (by simp)
                        · rw [if_neg c30] at H
                          exact absurd H (by simp)
                      · rw [if_neg c29] at H
                        have c29b0 : decide (x10_2 < (t527.length : Int)) = false := decide_eq_false c29
                        clear c29
                        have H' := Aside0.mk H
                        clear H
                        go_wp2
                        go_loopg [11] k3 (fun kq v11 w' => ∃ (x11_3 : Int), v11 = .int .i64 x11_3 ∧ Aside0 (barrowlaw24_InterestChanges.l3 kq l0 l1 t526 t527 t528 x11_3 = some r) ∧ Aside0 (kq ≤ k3) ∧ Aside0 (SL (row (Kd.int .i64) 3 (.slice Az3000071 t527.length cz3000071) t527 :: row (Kd.int .i64) 3 (.slice Az3000072 t528.length cz3000072) t528 :: L) w' S) ∧ Aside0 (Keep S w w'))
                        case atStart => exact ⟨(0), (by first | rfl | (simp; done) | (simp [*]; done)), H', ⟨Nat.le_refl _⟩, HS, HK⟩
                        case round =>
                          clear H' HS HK
                          obtain ⟨x11_3, rfl, HA, HQ4, HS, HK⟩ := hrel
                          cases gk with
                          | zero => exact absurd HA.out (by simp [barrowlaw24_InterestChanges.l3])
                          | succ k4 =>
                            have H := HA.out
                            clear HA
                            simp only [barrowlaw24_InterestChanges.l3] at H
                            by_cases c39 : x11_3 < (t528.length : Int)
                            · rw [if_pos c39] at H
                              have c39b0 : decide (x11_3 < (t528.length : Int)) = true := decide_eq_true c39
                              clear c39
                              by_cases c40 : 0 ≤ x11_3
                              · rw [if_pos c40] at H
                                have c40b0 : decide (0 ≤ x11_3) = true := decide_eq_true c40
                                clear c40
                                replace H := Option.bind_eq_some_iff.1 H
                                obtain ⟨t547, Hc410, H⟩ := H
                                try dsimp only at H
                                have Hc41 := Aside0.mk Hc410
                                clear Hc410
                                by_cases c42 : t547 = true
                                · subst c42
                                  rw [if_pos rfl] at H
                                  by_cases c43 : x11_3 > 0
                                  · rw [if_pos c43] at H
                                    have c43b0 : decide (0 < x11_3) = true := decide_eq_true c43
                                    clear c43
                                    replace H := Option.bind_eq_some_iff.1 H
                                    obtain ⟨j549, hj5490, H⟩ := H
                                    try dsimp only at H
                                    have hj549 := Option.some.inj hj5490
                                    clear hj5490
                                    have hj549w : (IntKind.i64.wrap (x11_3 - 1)) = j549 := (i64_w _).trans hj549
                                    by_cases c44 : 0 ≤ j549
                                    · rw [if_pos c44] at H
                                      have c44b0 : decide (0 ≤ j549) = true := decide_eq_true c44
                                      clear c44
                                      by_cases c45 : j549 < (t528.length : Int)
                                      · rw [if_pos c45] at H
                                        have c45b0 : decide (j549 < (t528.length : Int)) = true := decide_eq_true c45
                                        clear c45
                                        by_cases c46 : (rd t528 x11_3) ≤ (rd t528 j549)
                                        · rw [if_pos c46] at H
                                          exact absurd H (by simp)
                                        · rw [if_neg c46] at H
                                          have c46b0 : decide ((rd t528 x11_3) ≤ (rd t528 j549)) = false := decide_eq_false c46
                                          clear c46
                                          have H' := Aside0.mk H
                                          clear H
                                          try go_wp2
                                          have pq546 : 0 ≤ (x11_3 : Int) := of_decide_eq_true (by first | (with_reducible assumption) | assumption)
                                          have qq546 : x11_3 < ((t528.length : Int) : Int) := of_decide_eq_true (by first | (with_reducible assumption) | assumption)
                                          obtain ⟨adq546, eq546, hxq546_0⟩ := Kd.at_int (SL.row_c (SL.get1 HS.out)).2.2 x11_3 pq546 qq546
                                          cases eq546
                                          replace pq546 := eq_true pq546
                                          replace qq546 := eq_true qq546
                                          have pq548 : 0 ≤ (x11_3 : Int) := of_decide_eq_true (by first | (with_reducible assumption) | assumption)
                                          have qq548 : x11_3 < ((t528.length : Int) : Int) := of_decide_eq_true (by first | (with_reducible assumption) | assumption)
                                          obtain ⟨adq548, eq548, hxq548_0⟩ := Kd.at_int (SL.row_c (SL.get1 HS.out)).2.2 x11_3 pq548 qq548
                                          obtain rfl : adq546 = adq548 := (by injection eq548)
                                          replace pq548 := eq_true pq548
                                          replace qq548 := eq_true qq548
                                          have pq550 : 0 ≤ (j549 : Int) := of_decide_eq_true (by first | (with_reducible assumption) | assumption)
                                          have qq550 : j549 < ((t528.length : Int) : Int) := of_decide_eq_true (by first | (with_reducible assumption) | assumption)
                                          obtain ⟨adq550, eq550, hxq550_0⟩ := Kd.at_int (SL.row_c (SL.get1 HS.out)).2.2 j549 pq550 qq550
                                          obtain rfl : adq546 = adq550 := (by injection eq550)
                                          replace pq550 := eq_true pq550
                                          replace qq550 := eq_true qq550
                                          refine start_ (n := 23) (S := fun w' => w'.cell? (adq546.add x11_3.toNat) = some (.int .i64 (rd t528 x11_3)) ∧ w'.cell? (adq546.add x11_3.toNat) = some (.int .i64 (rd t528 x11_3)) ∧ w'.cell? (adq546.add j549.toNat) = some (.int .i64 (rd t528 j549))) (ds := []) #[false, false, false, false, false, false, false, false, false, false, false, false, false, false, false, false, false, false, false, false, false, false, false] (by kernel_rfl) rfl rfl ⟨(SL.cell_int (SL.get1 HS.out) x11_3 (of_eq_true pq546) (of_eq_true qq546)), (SL.cell_int (SL.get1 HS.out) x11_3 (of_eq_true pq548) (of_eq_true qq548)), (SL.cell_int (SL.get1 HS.out) j549 (of_eq_true pq550) (of_eq_true qq550))⟩ (fun hHeld => ?_); refine with_tabW barrowlaw24_InterestChanges.tab23 barrowlaw24_InterestChanges.bits23 (fun HT_ HW_ => ?_)
                                          replace HK := Aside0.mk (Keep.drew HK.out)
                                          replace HS := Aside0.mk (SL.drew HS.out)
                                          refine pure_ (i := 0) (N := some 119) (v := ?_) (a' := ?_) #[true, false, false, false, false, false, false, false, false, false, false, false, false, false, false, false, false, false, false, false, false, false, false] rfl rfl (any_of HT_.out (by kernel_rfl)) (fun _ _ _ h => h) (Or.inl ⟨by rfl, ?_⟩) ?_ ?_; rotate_left; · (intro w'; go_simp; with_reducible rfl)
                                          rotate_left; · (simp only [Act.put, sT, sZ, sS, i64_w, i32_w]; rfl)
                                          refine pure_ (i := 1) (N := some 120) (v := ?_) (a' := ?_) #[true, true, false, false, false, false, false, false, false, false, false, false, false, false, false, false, false, false, false, false, false, false, false] rfl rfl (any_of HT_.out (by kernel_rfl)) (fun _ _ _ h => h) (Or.inl ⟨by rfl, ?_⟩) ?_ ?_; rotate_left; · (intro w'; go_simp; with_reducible rfl)
                                          rotate_left; · (simp only [Act.put, sT, sZ, sS, i64_w, i32_w]; rfl)
                                          refine pure_ (i := 2) (N := some 121) (v := ?_) (a' := ?_) #[true, true, true, false, false, false, false, false, false, false, false, false, false, false, false, false, false, false, false, false, false, false, false] rfl rfl (any_of HT_.out (by kernel_rfl)) (fun _ _ _ h => h) (Or.inl ⟨by rfl, ?_⟩) ?_ ?_; rotate_left; · (intro w'; go_simp; with_reducible rfl)
                                          rotate_left; · (simp only [Act.put, sT, sZ, sS, i64_w, i32_w]; rfl)
                                          refine pure_ (i := 3) (N := some 122) (v := ?_) (a' := ?_) #[true, true, true, true, false, false, false, false, false, false, false, false, false, false, false, false, false, false, false, false, false, false, false] rfl rfl (any_of HT_.out (by kernel_rfl)) (fun _ _ _ h => h) (Or.inl ⟨by rfl, ?_⟩) ?_ ?_; rotate_left; · (intro w'; go_simp; with_reducible rfl)
                                          rotate_left; · (simp only [Act.put, sT, sZ, sS, i64_w, i32_w]; rfl)
                                          refine take_ (i := 4) (N := some 123) (v := ?_) (a' := ?_) #[true, true, true, true, true, false, false, false, false, false, false, false, false, false, false, false, false, false, false, false, false, false, false] rfl rfl (take_ofW HT_.out HW_.out (by kernel_rfl)) (fun _ _ _ h => h) (Or.inl ⟨by rfl, ?_⟩) hHeld ?_ ?_; rotate_left
                                          · rintro w' ⟨s0, s1, s2⟩
                                            go_simp
                                            with_reducible rfl
                                          rotate_left; · (simp only [Act.put, sT, sZ, sS, i64_w, i32_w]; rfl)
                                          refine one_ (i := 5) (N := some 124) #[true, true, true, true, true, true, false, false, false, false, false, false, false, false, false, false, false, false, false, false, false, false, false] rfl rfl (one_of HT_.out (by kernel_rfl)) (by decide) (fun K hK => ?_)
                                          refine goes_ Try.func17 (by kernel_rfl) rfl #[.slice A1 l1.length c1, .int .i64 (rd t528 x11_3)] (by rfl) rfl rfl (by (try simp only [List.map_toArray, List.map_cons, List.map_nil]); first | done | rfl | (simp; done)) ?_
                                          (with_reducible refine (barrowlaw24_has.calls k4 _ _ _ _ _ _ (RO.at_ HR1.out HK.out) HC1.out Hc41.out).mono ?_)
                                          rintro e_ w47 ⟨rfl, hb_⟩
                                          refine ⟨_, rfl, ?_⟩
                                          replace hb_ := Drawn0.below hb_
                                          replace HS := Aside0.mk (HS.out.below hb_)
                                          replace HK := Aside0.mk (HK.out.trans (Keep.below hb_))
                                          refine hK.out _ _ ⟨(SL.cell_int (SL.get1 HS.out) x11_3 (of_eq_true pq546) (of_eq_true qq546)), (SL.cell_int (SL.get1 HS.out) x11_3 (of_eq_true pq548) (of_eq_true qq548)), (SL.cell_int (SL.get1 HS.out) j549 (of_eq_true pq550) (of_eq_true qq550))⟩ (fun hHeld => ?_)
                                          clear hK K
                                          refine norm_ (a' := ?_) ?_ ?_; rotate_left
                                          · show Act.put _ (some 124) _ = _
                                            simp only [Act.put, sT, sZ, sS, i64_w, i32_w]
                                            rfl
                                          refine pure_ (i := 6) (N := some 125) (v := ?_) (a' := ?_) #[true, true, true, true, true, true, true, false, false, false, false, false, false, false, false, false, false, false, false, false, false, false, false] rfl rfl (any_of HT_.out (by kernel_rfl)) (fun _ _ _ h => h) (Or.inl ⟨by rfl, ?_⟩) ?_ ?_; rotate_left; · (intro w'; go_simp; with_reducible rfl)
                                          rotate_left; · (simp only [Act.put, sT, sZ, sS, i64_w, i32_w]; rfl)
                                          refine pure_ (i := 7) (N := some 126) (v := ?_) (a' := ?_) #[true, true, true, true, true, true, true, true, false, false, false, false, false, false, false, false, false, false, false, false, false, false, false] rfl rfl (any_of HT_.out (by kernel_rfl)) (fun _ _ _ h => h) (Or.inl ⟨by rfl, ?_⟩) ?_ ?_; rotate_left; · (intro w'; go_simp; with_reducible rfl)
                                          rotate_left; · (simp only [Act.put, sT, sZ, sS, i64_w, i32_w]; rfl)
                                          refine pure_ (i := 8) (N := some 127) (v := ?_) (a' := ?_) #[true, true, true, true, true, true, true, true, true, false, false, false, false, false, false, false, false, false, false, false, false, false, false] rfl rfl (any_of HT_.out (by kernel_rfl)) (fun _ _ _ h => h) (Or.inl ⟨by rfl, ?_⟩) ?_ ?_; rotate_left; · (intro w'; go_simp; with_reducible rfl)
                                          rotate_left; · (simp only [Act.put, sT, sZ, sS, i64_w, i32_w]; rfl)
                                          refine pure_ (i := 9) (N := some 128) (v := ?_) (a' := ?_) #[true, true, true, true, true, true, true, true, true, true, false, false, false, false, false, false, false, false, false, false, false, false, false] rfl rfl (any_of HT_.out (by kernel_rfl)) (fun _ _ _ h => h) (Or.inl ⟨by rfl, ?_⟩) ?_ ?_; rotate_left; · (intro w'; go_simp; with_reducible rfl)
                                          rotate_left; · (simp only [Act.put, sT, sZ, sS, i64_w, i32_w]; rfl)
                                          refine pure_ (i := 10) (N := some 129) (v := ?_) (a' := ?_) #[true, true, true, true, true, true, true, true, true, true, true, false, false, false, false, false, false, false, false, false, false, false, false] rfl rfl (any_of HT_.out (by kernel_rfl)) (fun _ _ _ h => h) (Or.inl ⟨by rfl, ?_⟩) ?_ ?_; rotate_left; · (intro w'; go_simp; with_reducible rfl)
                                          rotate_left; · (simp only [Act.put, sT, sZ, sS, i64_w, i32_w]; rfl)
                                          refine pure_ (i := 11) (N := some 130) (v := ?_) (a' := ?_) #[true, true, true, true, true, true, true, true, true, true, true, true, false, false, false, false, false, false, false, false, false, false, false] rfl rfl (any_of HT_.out (by kernel_rfl)) (fun _ _ _ h => h) (Or.inl ⟨by rfl, ?_⟩) ?_ ?_; rotate_left; · (intro w'; go_simp; with_reducible rfl)
                                          rotate_left; · (simp only [Act.put, sT, sZ, sS, i64_w, i32_w]; rfl)
                                          refine pure_ (i := 12) (N := some 131) (v := ?_) (a' := ?_) #[true, true, true, true, true, true, true, true, true, true, true, true, true, false, false, false, false, false, false, false, false, false, false] rfl rfl (any_of HT_.out (by kernel_rfl)) (fun _ _ _ h => h) (Or.inl ⟨by rfl, ?_⟩) ?_ ?_; rotate_left; · (intro w'; go_simp; with_reducible rfl)
                                          rotate_left; · (simp only [Act.put, sT, sZ, sS, i64_w, i32_w]; rfl)
                                          refine pure_ (i := 13) (N := some 132) (v := ?_) (a' := ?_) #[true, true, true, true, true, true, true, true, true, true, true, true, true, true, false, false, false, false, false, false, false, false, false] rfl rfl (any_of HT_.out (by kernel_rfl)) (fun _ _ _ h => h) (Or.inl ⟨by rfl, ?_⟩) ?_ ?_; rotate_left; · (intro w'; go_simp; with_reducible rfl)
                                          rotate_left; · (simp only [Act.put, sT, sZ, sS, i64_w, i32_w]; rfl)
                                          refine pure_ (i := 15) (N := some 134) (v := ?_) (a' := ?_) #[true, true, true, true, true, true, true, true, true, true, true, true, true, true, false, true, false, false, false, false, false, false, false] rfl rfl (any_of HT_.out (by kernel_rfl)) (fun _ _ _ h => h) (Or.inl ⟨by rfl, ?_⟩) ?_ ?_; rotate_left; · (intro w'; go_simp; with_reducible rfl)
                                          rotate_left; · (simp only [Act.put, sT, sZ, sS, i64_w, i32_w]; rfl)
                                          refine pure_ (i := 16) (N := some 135) (v := ?_) (a' := ?_) #[true, true, true, true, true, true, true, true, true, true, true, true, true, true, false, true, true, false, false, false, false, false, false] rfl rfl (any_of HT_.out (by kernel_rfl)) (fun _ _ _ h => h) (Or.inl ⟨by rfl, ?_⟩) ?_ ?_; rotate_left; · (intro w'; go_simp; with_reducible rfl)
                                          rotate_left; · (simp only [Act.put, sT, sZ, sS, i64_w, i32_w]; rfl)
                                          refine pure_ (i := 17) (N := some 136) (v := ?_) (a' := ?_) #[true, true, true, true, true, true, true, true, true, true, true, true, true, true, false, true, true, true, false, false, false, false, false] rfl rfl (any_of HT_.out (by kernel_rfl)) (fun _ _ _ h => h) (Or.inl ⟨by rfl, ?_⟩) ?_ ?_; rotate_left; · (intro w'; go_simp; with_reducible rfl)
                                          rotate_left; · (simp only [Act.put, sT, sZ, sS, i64_w, i32_w]; rfl)
                                          refine pure_ (i := 18) (N := some 137) (v := ?_) (a' := ?_) #[true, true, true, true, true, true, true, true, true, true, true, true, true, true, false, true, true, true, true, false, false, false, false] rfl rfl (any_of HT_.out (by kernel_rfl)) (fun _ _ _ h => h) (Or.inl ⟨by rfl, ?_⟩) ?_ ?_; rotate_left; · (intro w'; go_simp; with_reducible rfl)
                                          rotate_left; · (simp only [Act.put, sT, sZ, sS, i64_w, i32_w]; rfl)
                                          refine take_ (i := 14) (N := some 133) (v := ?_) (a' := ?_) #[true, true, true, true, true, true, true, true, true, true, true, true, true, true, true, true, true, true, true, false, false, false, false] rfl rfl (take_ofW HT_.out HW_.out (by kernel_rfl)) (fun _ _ _ h => h) (Or.inl ⟨by rfl, ?_⟩) hHeld ?_ ?_; rotate_left
                                          · rintro w' ⟨s0, s1, s2⟩
                                            go_simp
                                            with_reducible rfl
                                          rotate_left; · (simp only [Act.put, sT, sZ, sS, i64_w, i32_w]; rfl)
                                          refine take_ (i := 19) (N := some 138) (v := ?_) (a' := ?_) #[true, true, true, true, true, true, true, true, true, true, true, true, true, true, true, true, true, true, true, true, false, false, false] rfl rfl (take_ofW HT_.out HW_.out (by kernel_rfl)) (fun _ _ _ h => h) (Or.inl ⟨by rfl, ?_⟩) hHeld ?_ ?_; rotate_left
                                          · rintro w' ⟨s0, s1, s2⟩
                                            go_simp
                                            with_reducible rfl
                                          rotate_left; · (simp only [Act.put, sT, sZ, sS, i64_w, i32_w]; rfl)
                                          refine pure_ (i := 20) (N := some 139) (v := ?_) (a' := ?_) #[true, true, true, true, true, true, true, true, true, true, true, true, true, true, true, true, true, true, true, true, true, false, false] rfl rfl (any_of HT_.out (by kernel_rfl)) (fun _ _ _ h => h) (Or.inl ⟨by rfl, ?_⟩) ?_ ?_; rotate_left; · (intro w'; go_simp; with_reducible rfl)
                                          rotate_left; · (simp only [Act.put, sT, sZ, sS, i64_w, i32_w]; rfl)
                                          refine pure_ (i := 21) (N := some 140) (v := ?_) (a' := ?_) #[true, true, true, true, true, true, true, true, true, true, true, true, true, true, true, true, true, true, true, true, true, true, false] rfl rfl (any_of HT_.out (by kernel_rfl)) (fun _ _ _ h => h) (Or.inl ⟨by rfl, ?_⟩) ?_ ?_; rotate_left; · (intro w'; go_simp; with_reducible rfl)
                                          rotate_left; · (simp only [Act.put, sT, sZ, sS, i64_w, i32_w]; rfl)
                                          refine pure_ (i := 22) (N := some 141) (v := ?_) (a' := ?_) #[true, true, true, true, true, true, true, true, true, true, true, true, true, true, true, true, true, true, true, true, true, true, true] rfl rfl (any_of HT_.out (by kernel_rfl)) (fun _ _ _ h => h) (Or.inl ⟨by rfl, ?_⟩) ?_ ?_; rotate_left; · (intro w'; go_simp; with_reducible rfl)
                                          rotate_left; · (simp only [Act.put, sT, sZ, sS, i64_w, i32_w]; rfl)
                                          refine done_ (done_of HT_.out (by kernel_rfl)) ?_
                                          try go_wp2
                                          go_roundg k4
                                          case measure => have := HQ1.out; have := HQ2.out; have := HQ3.out; have := HQ4.out; omega
                                          case rel => exact ⟨(wrap64 (x11_3 + 1)), (by first | rfl | (simp; done) | (simp [*]; done)), H', ⟨by have := HQ1.out; have := HQ2.out; have := HQ3.out; have := HQ4.out; omega⟩, HS, HK⟩
                                      · rw [if_neg c45] at H
                                        exact absurd H (by simp)
                                    · rw [if_neg c44] at H
                                      exact absurd H (by simp)
                                  · rw [if_neg c43] at H
                                    have c43b0 : decide (0 < x11_3) = false := decide_eq_false c43
                                    clear c43
                                    have H' := Aside0.mk H
                                    clear H
                                    try go_wp2
                                    have pq546 : 0 ≤ (x11_3 : Int) := of_decide_eq_true (by first | (with_reducible assumption) | assumption)
                                    have qq546 : x11_3 < ((t528.length : Int) : Int) := of_decide_eq_true (by first | (with_reducible assumption) | assumption)
                                    obtain ⟨adq546, eq546, hxq546_0⟩ := Kd.at_int (SL.row_c (SL.get1 HS.out)).2.2 x11_3 pq546 qq546
                                    cases eq546
                                    replace pq546 := eq_true pq546
                                    replace qq546 := eq_true qq546
                                    refine start_ (n := 23) (S := fun w' => w'.cell? (adq546.add x11_3.toNat) = some (.int .i64 (rd t528 x11_3))) (ds := []) #[false, false, false, false, false, false, false, false, false, false, false, false, false, false, false, false, false, false, false, false, false, false, false] (by kernel_rfl) rfl rfl ((SL.cell_int (SL.get1 HS.out) x11_3 (of_eq_true pq546) (of_eq_true qq546))) (fun hHeld => ?_); refine with_tabW barrowlaw24_InterestChanges.tab23 barrowlaw24_InterestChanges.bits23 (fun HT_ HW_ => ?_)
                                    replace HK := Aside0.mk (Keep.drew HK.out)
                                    replace HS := Aside0.mk (SL.drew HS.out)
                                    refine pure_ (i := 0) (N := some 119) (v := ?_) (a' := ?_) #[true, false, false, false, false, false, false, false, false, false, false, false, false, false, false, false, false, false, false, false, false, false, false] rfl rfl (any_of HT_.out (by kernel_rfl)) (fun _ _ _ h => h) (Or.inl ⟨by rfl, ?_⟩) ?_ ?_; rotate_left; · (intro w'; go_simp; with_reducible rfl)
                                    rotate_left; · (simp only [Act.put, sT, sZ, sS, i64_w, i32_w]; rfl)
                                    refine pure_ (i := 1) (N := some 120) (v := ?_) (a' := ?_) #[true, true, false, false, false, false, false, false, false, false, false, false, false, false, false, false, false, false, false, false, false, false, false] rfl rfl (any_of HT_.out (by kernel_rfl)) (fun _ _ _ h => h) (Or.inl ⟨by rfl, ?_⟩) ?_ ?_; rotate_left; · (intro w'; go_simp; with_reducible rfl)
                                    rotate_left; · (simp only [Act.put, sT, sZ, sS, i64_w, i32_w]; rfl)
                                    refine pure_ (i := 2) (N := some 121) (v := ?_) (a' := ?_) #[true, true, true, false, false, false, false, false, false, false, false, false, false, false, false, false, false, false, false, false, false, false, false] rfl rfl (any_of HT_.out (by kernel_rfl)) (fun _ _ _ h => h) (Or.inl ⟨by rfl, ?_⟩) ?_ ?_; rotate_left; · (intro w'; go_simp; with_reducible rfl)
                                    rotate_left; · (simp only [Act.put, sT, sZ, sS, i64_w, i32_w]; rfl)
                                    refine pure_ (i := 3) (N := some 122) (v := ?_) (a' := ?_) #[true, true, true, true, false, false, false, false, false, false, false, false, false, false, false, false, false, false, false, false, false, false, false] rfl rfl (any_of HT_.out (by kernel_rfl)) (fun _ _ _ h => h) (Or.inl ⟨by rfl, ?_⟩) ?_ ?_; rotate_left; · (intro w'; go_simp; with_reducible rfl)
                                    rotate_left; · (simp only [Act.put, sT, sZ, sS, i64_w, i32_w]; rfl)
                                    refine take_ (i := 4) (N := some 123) (v := ?_) (a' := ?_) #[true, true, true, true, true, false, false, false, false, false, false, false, false, false, false, false, false, false, false, false, false, false, false] rfl rfl (take_ofW HT_.out HW_.out (by kernel_rfl)) (fun _ _ _ h => h) (Or.inl ⟨by rfl, ?_⟩) hHeld ?_ ?_; rotate_left
                                    · intro w' s0
                                      go_simp
                                      with_reducible rfl
                                    rotate_left; · (simp only [Act.put, sT, sZ, sS, i64_w, i32_w]; rfl)
                                    refine one_ (i := 5) (N := some 124) #[true, true, true, true, true, true, false, false, false, false, false, false, false, false, false, false, false, false, false, false, false, false, false] rfl rfl (one_of HT_.out (by kernel_rfl)) (by decide) (fun K hK => ?_)
                                    refine goes_ Try.func17 (by kernel_rfl) rfl #[.slice A1 l1.length c1, .int .i64 (rd t528 x11_3)] (by rfl) rfl rfl (by (try simp only [List.map_toArray, List.map_cons, List.map_nil]); first | done | rfl | (simp; done)) ?_
                                    (with_reducible refine (barrowlaw24_has.calls k4 _ _ _ _ _ _ (RO.at_ HR1.out HK.out) HC1.out Hc41.out).mono ?_)
                                    rintro e_ w48 ⟨rfl, hb_⟩
                                    refine ⟨_, rfl, ?_⟩
                                    replace hb_ := Drawn0.below hb_
                                    replace HS := Aside0.mk (HS.out.below hb_)
                                    replace HK := Aside0.mk (HK.out.trans (Keep.below hb_))
                                    refine hK.out _ _ ((SL.cell_int (SL.get1 HS.out) x11_3 (of_eq_true pq546) (of_eq_true qq546))) (fun hHeld => ?_)
                                    clear hK K
                                    refine norm_ (a' := ?_) ?_ ?_; rotate_left
                                    · show Act.put _ (some 124) _ = _
                                      simp only [Act.put, sT, sZ, sS, i64_w, i32_w]
                                      rfl
                                    refine pure_ (i := 6) (N := some 125) (v := ?_) (a' := ?_) #[true, true, true, true, true, true, true, false, false, false, false, false, false, false, false, false, false, false, false, false, false, false, false] rfl rfl (any_of HT_.out (by kernel_rfl)) (fun _ _ _ h => h) (Or.inl ⟨by rfl, ?_⟩) ?_ ?_; rotate_left; · (intro w'; go_simp; with_reducible rfl)
                                    rotate_left; · (simp only [Act.put, sT, sZ, sS, i64_w, i32_w]; rfl)
                                    refine pure_ (i := 7) (N := some 126) (v := ?_) (a' := ?_) #[true, true, true, true, true, true, true, true, false, false, false, false, false, false, false, false, false, false, false, false, false, false, false] rfl rfl (any_of HT_.out (by kernel_rfl)) (fun _ _ _ h => h) (Or.inl ⟨by rfl, ?_⟩) ?_ ?_; rotate_left; · (intro w'; go_simp; with_reducible rfl)
                                    rotate_left; · (simp only [Act.put, sT, sZ, sS, i64_w, i32_w]; rfl)
                                    refine pure_ (i := 8) (N := some 127) (v := ?_) (a' := ?_) #[true, true, true, true, true, true, true, true, true, false, false, false, false, false, false, false, false, false, false, false, false, false, false] rfl rfl (any_of HT_.out (by kernel_rfl)) (fun _ _ _ h => h) (Or.inl ⟨by rfl, ?_⟩) ?_ ?_; rotate_left; · (intro w'; go_simp; with_reducible rfl)
                                    rotate_left; · (simp only [Act.put, sT, sZ, sS, i64_w, i32_w]; rfl)
                                    refine pure_ (i := 9) (N := some 128) (v := ?_) (a' := ?_) #[true, true, true, true, true, true, true, true, true, true, false, false, false, false, false, false, false, false, false, false, false, false, false] rfl rfl (any_of HT_.out (by kernel_rfl)) (fun _ _ _ h => h) (Or.inl ⟨by rfl, ?_⟩) ?_ ?_; rotate_left; · (intro w'; go_simp; with_reducible rfl)
                                    rotate_left; · (simp only [Act.put, sT, sZ, sS, i64_w, i32_w]; rfl)
                                    refine pure_ (i := 10) (N := some 129) (v := ?_) (a' := ?_) #[true, true, true, true, true, true, true, true, true, true, true, false, false, false, false, false, false, false, false, false, false, false, false] rfl rfl (any_of HT_.out (by kernel_rfl)) (fun _ _ _ h => h) (Or.inl ⟨by rfl, ?_⟩) ?_ ?_; rotate_left; · (intro w'; go_simp; with_reducible rfl)
                                    rotate_left; · (simp only [Act.put, sT, sZ, sS, i64_w, i32_w]; rfl)
                                    refine pure_ (i := 11) (N := some 130) (v := undef) (a' := ?_) #[true, true, true, true, true, true, true, true, true, true, true, true, false, false, false, false, false, false, false, false, false, false, false] rfl rfl (any_of HT_.out (by kernel_rfl)) (fun _ _ _ h => h) (Or.inr ⟨by rfl, rfl⟩) ?_ ?_; rotate_left; · (simp only [Act.put, sT, sZ, sS, i64_w, i32_w]; rfl)
                                    refine pure_ (i := 12) (N := some 131) (v := undef) (a' := ?_) #[true, true, true, true, true, true, true, true, true, true, true, true, true, false, false, false, false, false, false, false, false, false, false] rfl rfl (any_of HT_.out (by kernel_rfl)) (fun _ _ _ h => h) (Or.inr ⟨by rfl, rfl⟩) ?_ ?_; rotate_left; · (simp only [Act.put, sT, sZ, sS, i64_w, i32_w]; rfl)
                                    refine pure_ (i := 13) (N := some 132) (v := undef) (a' := ?_) #[true, true, true, true, true, true, true, true, true, true, true, true, true, true, false, false, false, false, false, false, false, false, false] rfl rfl (any_of HT_.out (by kernel_rfl)) (fun _ _ _ h => h) (Or.inr ⟨by rfl, rfl⟩) ?_ ?_; rotate_left; · (simp only [Act.put, sT, sZ, sS, i64_w, i32_w]; rfl)
                                    refine pure_ (i := 14) (N := some 133) (v := undef) (a' := ?_) #[true, true, true, true, true, true, true, true, true, true, true, true, true, true, true, false, false, false, false, false, false, false, false] rfl rfl (any_of HT_.out (by kernel_rfl)) (fun _ _ _ h => h) (Or.inr ⟨by rfl, rfl⟩) ?_ ?_; rotate_left; · (simp only [Act.put, sT, sZ, sS, i64_w, i32_w]; rfl)
                                    refine pure_ (i := 15) (N := some 134) (v := undef) (a' := ?_) #[true, true, true, true, true, true, true, true, true, true, true, true, true, true, true, true, false, false, false, false, false, false, false] rfl rfl (any_of HT_.out (by kernel_rfl)) (fun _ _ _ h => h) (Or.inr ⟨by rfl, rfl⟩) ?_ ?_; rotate_left; · (simp only [Act.put, sT, sZ, sS, i64_w, i32_w]; rfl)
                                    refine pure_ (i := 16) (N := some 135) (v := undef) (a' := ?_) #[true, true, true, true, true, true, true, true, true, true, true, true, true, true, true, true, true, false, false, false, false, false, false] rfl rfl (any_of HT_.out (by kernel_rfl)) (fun _ _ _ h => h) (Or.inr ⟨by rfl, rfl⟩) ?_ ?_; rotate_left; · (simp only [Act.put, sT, sZ, sS, i64_w, i32_w]; rfl)
                                    refine pure_ (i := 17) (N := some 136) (v := undef) (a' := ?_) #[true, true, true, true, true, true, true, true, true, true, true, true, true, true, true, true, true, true, false, false, false, false, false] rfl rfl (any_of HT_.out (by kernel_rfl)) (fun _ _ _ h => h) (Or.inr ⟨by rfl, rfl⟩) ?_ ?_; rotate_left; · (simp only [Act.put, sT, sZ, sS, i64_w, i32_w]; rfl)
                                    refine pure_ (i := 18) (N := some 137) (v := undef) (a' := ?_) #[true, true, true, true, true, true, true, true, true, true, true, true, true, true, true, true, true, true, true, false, false, false, false] rfl rfl (any_of HT_.out (by kernel_rfl)) (fun _ _ _ h => h) (Or.inr ⟨by rfl, rfl⟩) ?_ ?_; rotate_left; · (simp only [Act.put, sT, sZ, sS, i64_w, i32_w]; rfl)
                                    refine pure_ (i := 19) (N := some 138) (v := undef) (a' := ?_) #[true, true, true, true, true, true, true, true, true, true, true, true, true, true, true, true, true, true, true, true, false, false, false] rfl rfl (any_of HT_.out (by kernel_rfl)) (fun _ _ _ h => h) (Or.inr ⟨by rfl, rfl⟩) ?_ ?_; rotate_left; · (simp only [Act.put, sT, sZ, sS, i64_w, i32_w]; rfl)
                                    refine pure_ (i := 20) (N := some 139) (v := undef) (a' := ?_) #[true, true, true, true, true, true, true, true, true, true, true, true, true, true, true, true, true, true, true, true, true, false, false] rfl rfl (any_of HT_.out (by kernel_rfl)) (fun _ _ _ h => h) (Or.inr ⟨by rfl, rfl⟩) ?_ ?_; rotate_left; · (simp only [Act.put, sT, sZ, sS, i64_w, i32_w]; rfl)
                                    refine pure_ (i := 21) (N := some 140) (v := ?_) (a' := ?_) #[true, true, true, true, true, true, true, true, true, true, true, true, true, true, true, true, true, true, true, true, true, true, false] rfl rfl (any_of HT_.out (by kernel_rfl)) (fun _ _ _ h => h) (Or.inl ⟨by rfl, ?_⟩) ?_ ?_; rotate_left; · (intro w'; go_simp; with_reducible rfl)
                                    rotate_left; · (simp only [Act.put, sT, sZ, sS, i64_w, i32_w]; rfl)
                                    refine pure_ (i := 22) (N := some 141) (v := ?_) (a' := ?_) #[true, true, true, true, true, true, true, true, true, true, true, true, true, true, true, true, true, true, true, true, true, true, true] rfl rfl (any_of HT_.out (by kernel_rfl)) (fun _ _ _ h => h) (Or.inl ⟨by rfl, ?_⟩) ?_ ?_; rotate_left; · (intro w'; go_simp; with_reducible rfl)
                                    rotate_left; · (simp only [Act.put, sT, sZ, sS, i64_w, i32_w]; rfl)
                                    refine done_ (done_of HT_.out (by kernel_rfl)) ?_
                                    try go_wp2
                                    go_roundg k4
                                    case measure => have := HQ1.out; have := HQ2.out; have := HQ3.out; have := HQ4.out; omega
                                    case rel => exact ⟨(wrap64 (x11_3 + 1)), (by first | rfl | (simp; done) | (simp [*]; done)), H', ⟨by have := HQ1.out; have := HQ2.out; have := HQ3.out; have := HQ4.out; omega⟩, HS, HK⟩
                                · replace c42 := Bool.eq_false_iff.mpr c42
                                  subst c42
                                  rw [if_neg (show ¬ (false = true) by decide)] at H
                                  exact absurd H (by simp)
                              · rw [if_neg c40] at H
                                exact absurd H (by simp)
                            · rw [if_neg c39] at H
                              have c39b0 : decide (x11_3 < (t528.length : Int)) = false := decide_eq_false c39
                              clear c39
                              replace H := Option.bind_eq_some_iff.1 H
                              obtain ⟨⟨t551, t552⟩, Hc490, H⟩ := H
                              try dsimp only at H
                              have Hc49 := Aside0.mk Hc490
                              clear Hc490
                              by_cases c50 : t526 = true
                              · subst c50
                                rw [if_pos rfl] at H
                                replace H := Option.bind_eq_some_iff.1 H
                                obtain ⟨t553, Hc510, H⟩ := H
                                try dsimp only at H
                                have Hc51 := Aside0.mk Hc510
                                clear Hc510
                                by_cases c52 : t553 = true
                                · subst c52
                                  rw [if_pos rfl] at H
                                  replace H := Option.bind_eq_some_iff.1 H
                                  obtain ⟨t554, Hc530, H⟩ := H
                                  try dsimp only at H
                                  have Hc53 := Aside0.mk Hc530
                                  clear Hc530
                                  obtain rfl := Option.some.inj H
                                  go_wp2_with (first | ((with_reducible refine gate_dst (N := 145) rfl ?_); refine goesL_ (some 145) rfl rfl Try.func13 (by kernel_rfl) rfl #[.slice A1 l1.length c1, .slice A0 l0.length c0] rfl (by (try simp only [List.map_toArray, List.map_cons, List.map_nil]); first | done | rfl | (simp; done)) ?_; have hs0_ := HS.out; (with_reducible refine (interest_Change.slcalls k4 _ _ _ _ _ _ _ _ _ _ _ (HF.out.keep HK.out) hs0_ (HR1.out.keep HK.out) HC1.out (HR0.out.keep HK.out) HC0.out Hc49.out).mono ?_); rintro e_ w54 ⟨Az3000073, cz3000073, Az3000074, cz3000074, rfl, hsr_, hkr_⟩; refine ⟨_, rfl, ?_⟩; replace HS := Aside0.mk (hsr_); replace HK := Aside0.mk (HK.out.trans hkr_)) | ((with_reducible refine gate_dst (N := 152) rfl ?_); (try (refine gate_guard (by rfl) ?_; dsimp only)); refine goesL_ (some 152) rfl rfl Try.func9 (by kernel_rfl) rfl #[.slice Az3000073 t551.length cz3000073, .slice Az3000072 t528.length cz3000072] rfl (by (try simp only [List.map_toArray, List.map_cons, List.map_nil]); first | done | rfl | (simp; done)) ?_; (with_reducible refine (barrowref02_Same.calls k4 _ _ _ _ _ _ _ _ (SL.row_c HS.out).2.2 (SL.row_c HS.out).2.1 (SL.row_c (SL.get3 HS.out)).2.2 (SL.row_c (SL.get3 HS.out)).2.1 Hc51.out).mono ?_); rintro e_ w55 ⟨rfl, hb_⟩; refine ⟨_, rfl, ?_⟩; replace hb_ := Drawn0.below hb_; replace HS := Aside0.mk (HS.out.below hb_); replace HK := Aside0.mk (HK.out.trans (Keep.below hb_))) | ((with_reducible refine gate_dst (N := 157) rfl ?_); (try (refine gate_guard (by rfl) ?_; dsimp only)); refine goesL_ (some 157) rfl rfl Try.func9 (by kernel_rfl) rfl #[.slice Az3000074 t552.length cz3000074, .slice Az3000071 t527.length cz3000071] rfl (by (try simp only [List.map_toArray, List.map_cons, List.map_nil]); first | done | rfl | (simp; done)) ?_; (with_reducible refine (barrowref02_Same.calls k4 _ _ _ _ _ _ _ _ (SL.row_c (SL.get1 HS.out)).2.2 (SL.row_c (SL.get1 HS.out)).2.1 (SL.row_c (SL.get2 HS.out)).2.2 (SL.row_c (SL.get2 HS.out)).2.1 Hc53.out).mono ?_); rintro e_ w56 ⟨rfl, hb_⟩; refine ⟨_, rfl, ?_⟩; replace hb_ := Drawn0.below hb_; replace HS := Aside0.mk (HS.out.below hb_); replace HK := Aside0.mk (HK.out.trans (Keep.below hb_))))
                                  go_ret
                                  replace HS := Aside0.mk (SL.tail (SL.tail (SL.tail (SL.tail HS.out))))
                                  unfold barrowlaw24_InterestChanges.Post
                                  exact ⟨by first | rfl | (simp; done) | (simp [*]; done) | (simp at c39b0 ⊢; first | exact c39b0 | (simp [c39b0]; done)), HS.out, HK.out⟩
                                · replace c52 := Bool.eq_false_iff.mpr c52
                                  subst c52
                                  rw [if_neg (show ¬ (false = true) by decide)] at H
                                  exact absurd H (by simp)
                              · replace c50 := Bool.eq_false_iff.mpr c50
                                subst c50
                                rw [if_neg (show ¬ (false = true) by decide)] at H
                                exact absurd H (by simp)
theorem barrowlaw24_InterestChanges.calls (k : Nat) (A0 : Option Addr) (c0 : Nat) (l0 : List Int) (A1 : Option Addr) (c1 : Nat) (l1 : List Int) (r : Bool) (w : World) (hr0 : Kd.C (Kd.int .i64) w A0 l0.length l0) (hc0 : l0.length ≤ c0) (hr1 : Kd.C (Kd.int .i64) w A1 l1.length l1) (hc1 : l1.length ≤ c1) (h : barrowlaw24_InterestChanges.f k l0 l1 = some r) :
    Calls Try.prog 6 #[.slice A0 l0.length c0, .slice A1 l1.length c1] w fun e w' => e = .returned (.bool r) ∧ Below w.heap.size w w' :=
  (barrowlaw24_InterestChanges.slcalls k A0 c0 l0 A1 c1 l1 r (news w) [] w (fresh_news w) trivial (RO.top hr0) hc0 (RO.top hr1) hc1 h).mono fun _ _ h => ⟨h.1, h.2.2.to_below⟩

/-- THE ONE PURE STATEMENT of barrowlaw24_InterestChanges. -/
noncomputable def barrowlaw24_InterestChanges.Pure : Prop := ∀ (l0 : List Int) (l1 : List Int), (l0.length ≤ maxLen ∧ l0.length * 8 ≤ 140737488351232 ∧ ∀ x555_ ∈ l0, (Lit.int .i64 x555_).wf = true) → (l1.length ≤ maxLen ∧ l1.length * 8 ≤ 140737488351232 ∧ ∀ x556_ ∈ l1, (Lit.int .i64 x556_).wf = true) → ∃ k, barrowlaw24_InterestChanges.f k l0 l1 = some true

end Go.Proofs.Ytgcbmhihiacgnaa.XIN
