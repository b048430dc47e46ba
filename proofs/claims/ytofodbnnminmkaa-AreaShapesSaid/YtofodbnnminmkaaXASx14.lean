-- Written by xprint.py (a program of this session) for this claim
import Derived.Test.YtofodbnnminmkaaSL5
import Derived.Test.YtofodbnnminmkaaXASx0
import Derived.Test.YtofodbnnminmkaaXASx1
import Derived.Test.YtofodbnnminmkaaXASx2
import Derived.Test.YtofodbnnminmkaaXASx5
import Derived.Test.YtofodbnnminmkaaXASx12
import Derived.Test.YtofodbnnminmkaaXASx13
namespace Go.Proofs.Ytofodbnnminmkaa.XAS
open Go.Proofs.YtofodbnnminmkaaV Go.Proofs.YtofodbnnminmkaaS
open Go.RowKit Go.Proofs.YtofodbnnminmkaaW.PrintWords Go.Proofs.YtofodbnnminmkaaW.PrintLast Go.Proofs.YtofodbnnminmkaaW.PrintMore
attribute [local go_sem] max2_int min2_int max_two min_two max_three min_three max_four min_four   -- for this text's walks alone
set_option linter.unusedVariables false
set_option linter.unusedSimpArgs false

attribute [local go_sem high] eqA26
/-! ### barrowlaw32_AreaShapes: function 5 -/
mutual
def barrowlaw32_AreaShapes.l199 : Nat → Int → Int → Int → Int → Int → Int → Int → Bool → Int → Int → Bool → Option (Bool)
  | 0, _, _, _, _, _, _, _, _, _, _, _ => none
  | k + 1, a0_0, a0_1, a1_0, a1_1, a2_0, a2_1, a4, t501, t502, t503, x113_199 => if x113_199 = true then (none) else ((area_In.f k 4 a0_0 a0_1 a1_0 a1_1 a4 0 a2_0 a2_1).bind fun t526 => (if t526 = true then ((area_In.f k 1 a0_0 a0_1 0 0 a4 0 a2_0 a2_1).bind fun t527 => (if t527 = true then ((area_In.f k 4 a0_0 a0_1 t502 t503 a4 0 a2_0 a2_1).bind fun t528 => (if t528 = true then (if (!(a2_0 == a0_0) || (!(a2_1 == a0_1))) = true then (none) else ((area_In.f k 4 a0_0 a0_1 a1_0 a1_1 a4 0 a0_0 a0_1).bind fun t529 => (barrowlaw32_AreaShapes.l299 k a0_0 a0_1 a1_0 a1_1 a2_0 a2_1 t501 (!t529)))) else ((area_In.f k 4 a0_0 a0_1 a1_0 a1_1 a4 0 a0_0 a0_1).bind fun t530 => (barrowlaw32_AreaShapes.l299 k a0_0 a0_1 a1_0 a1_1 a2_0 a2_1 t501 (!t530))))) else (none))) else ((area_In.f k 4 a0_0 a0_1 a1_0 a1_1 a4 0 a0_0 a0_1).bind fun t531 => (barrowlaw32_AreaShapes.l299 k a0_0 a0_1 a1_0 a1_1 a2_0 a2_1 t501 (!t531)))))
def barrowlaw32_AreaShapes.l299 : Nat → Int → Int → Int → Int → Int → Int → Bool → Bool → Option (Bool)
  | 0, _, _, _, _, _, _, _, _ => none
  | k + 1, a0_0, a0_1, a1_0, a1_1, a2_0, a2_1, t501, x138_299 => if x138_299 = true then (none) else (if t501 = true then ((area_In.f k 5 a0_0 a0_1 a1_0 a1_1 0 0 a0_0 a0_1).bind fun t532 => (if t532 = true then ((area_In.f k 5 a0_0 a0_1 a1_0 a1_1 0 0 a1_0 a1_1).bind fun t533 => (if t533 = true then ((area_In.f k 5 a0_0 a0_1 a1_0 a1_1 0 0 a2_0 a2_1).bind fun t534 => (if t534 = true then ((area_In.f k 3 a0_0 a0_1 a1_0 a1_1 0 0 a2_0 a2_1).bind fun t535 => (if t535 = true then ((area_In.f k 3 a0_0 a0_1 a1_0 a1_1 0 0 a0_0 a0_1).bind fun t536 => (if t536 = true then ((area_In.f k 3 a0_0 a0_1 a1_0 a1_1 0 0 a1_0 a1_1).bind fun t537 => (some t537)) else (none))) else (none))) else ((area_In.f k 3 a0_0 a0_1 a1_0 a1_1 0 0 a0_0 a0_1).bind fun t538 => (if t538 = true then ((area_In.f k 3 a0_0 a0_1 a1_0 a1_1 0 0 a1_0 a1_1).bind fun t539 => (some t539)) else (none))))) else (none))) else (none))) else (none))
end
noncomputable def barrowlaw32_AreaShapes.f (k : Nat) (a0_0 : Int) (a0_1 : Int) (a1_0 : Int) (a1_1 : Int) (a2_0 : Int) (a2_1 : Int) (a3 : Int) (a4 : Int) : Option (Bool) := (barrowlaw32_small.f k).bind fun t501 => ((barrowlaw32_tile.f (wrap64 ((wrap64 (2 * a0_0)) - a1_0)) (wrap64 ((wrap64 (2 * a0_1)) - a1_1))).bind fun bt502 => ((area_Right.f 2 a0_0 a0_1 0 0 a3 a4).bind fun t507 => (if t507 = true then ((area_Right.f 3 a0_0 a0_1 a1_0 a1_1 0 0).bind fun t508 => (if t508 = true then ((area_Right.f 4 a0_0 a0_1 bt502.1 bt502.2 a4 0).bind fun t509 => (if t509 = true then (if a3 < 1 then (some t501) else (if a3 ≤ a4 then ((area_In.f k 1 a0_0 a0_1 0 0 a4 0 a2_0 a2_1).bind fun t510 => ((area_In.f k 2 a0_0 a0_1 0 0 a3 a4 a2_0 a2_1).bind fun t511 => (if t511 = true then (if (t510 != true) = true then (none) else ((area_In.f k 1 a0_0 a0_1 0 0 a3 0 a2_0 a2_1).bind fun t513 => (if t513 = true then (none) else ((area_In.f k 3 a0_0 a0_1 a1_0 a1_1 0 0 a2_0 a2_1).bind fun t514 => ((area_In.f k 3 a1_0 a1_1 a0_0 a0_1 0 0 a2_0 a2_1).bind fun t515 => (barrowlaw32_AreaShapes.l199 k a0_0 a0_1 a1_0 a1_1 a2_0 a2_1 a4 t501 bt502.1 bt502.2 (t514 != t515))))))) else ((area_In.f k 1 a0_0 a0_1 0 0 a3 0 a2_0 a2_1).bind fun t516 => (if (t510 != t516) = true then (none) else ((area_In.f k 3 a0_0 a0_1 a1_0 a1_1 0 0 a2_0 a2_1).bind fun t518 => ((area_In.f k 3 a1_0 a1_1 a0_0 a0_1 0 0 a2_0 a2_1).bind fun t519 => (barrowlaw32_AreaShapes.l199 k a0_0 a0_1 a1_0 a1_1 a2_0 a2_1 a4 t501 bt502.1 bt502.2 (t518 != t519))))))))) else ((area_In.f k 2 a0_0 a0_1 0 0 a3 a4 a2_0 a2_1).bind fun t520 => (if t520 = true then ((area_In.f k 1 a0_0 a0_1 0 0 a3 0 a2_0 a2_1).bind fun t521 => (if t521 = true then (none) else ((area_In.f k 3 a0_0 a0_1 a1_0 a1_1 0 0 a2_0 a2_1).bind fun t522 => ((area_In.f k 3 a1_0 a1_1 a0_0 a0_1 0 0 a2_0 a2_1).bind fun t523 => (barrowlaw32_AreaShapes.l199 k a0_0 a0_1 a1_0 a1_1 a2_0 a2_1 a4 t501 bt502.1 bt502.2 (t522 != t523)))))) else ((area_In.f k 3 a0_0 a0_1 a1_0 a1_1 0 0 a2_0 a2_1).bind fun t524 => ((area_In.f k 3 a1_0 a1_1 a0_0 a0_1 0 0 a2_0 a2_1).bind fun t525 => (barrowlaw32_AreaShapes.l199 k a0_0 a0_1 a1_0 a1_1 a2_0 a2_1 a4 t501 bt502.1 bt502.2 (t524 != t525)))))))) else (some t501))) else (some t501))) else (some t501))))
theorem barrowlaw32_AreaShapes.mono_l : ∀ k, (∀ y0 y1 y2 y3 y4 y5 y6 y7 y8 y9 y10, LeO (barrowlaw32_AreaShapes.l199 k y0 y1 y2 y3 y4 y5 y6 y7 y8 y9 y10) (barrowlaw32_AreaShapes.l199 (k + 1) y0 y1 y2 y3 y4 y5 y6 y7 y8 y9 y10)) ∧ (∀ y0 y1 y2 y3 y4 y5 y6 y7, LeO (barrowlaw32_AreaShapes.l299 k y0 y1 y2 y3 y4 y5 y6 y7) (barrowlaw32_AreaShapes.l299 (k + 1) y0 y1 y2 y3 y4 y5 y6 y7))
  | 0 => ⟨fun _ _ _ _ _ _ _ _ _ _ _ r h => by simp [barrowlaw32_AreaShapes.l199] at h, fun _ _ _ _ _ _ _ _ r h => by simp [barrowlaw32_AreaShapes.l299] at h⟩
  | k + 1 => by
    obtain ⟨ih0, ih1⟩ := barrowlaw32_AreaShapes.mono_l k
    refine ⟨?_, ?_⟩
    · intro y0 y1 y2 y3 y4 y5 y6 y7 y8 y9 y10
      unfold barrowlaw32_AreaShapes.l199
      repeat' first
      | (with_reducible exact ih0 _ _ _ _ _ _ _ _ _ _ _)
      | (with_reducible exact ih1 _ _ _ _ _ _ _ _)
      | (with_reducible exact area_In.mono _ _ _ _ _ _ _ _ _ _)
      | (with_reducible exact barrowlaw32_small.mono _)
      | (with_reducible exact LeO.refl _)
      | (with_reducible exact LeO.none _)
      | (with_reducible refine LeO.ite ?_ ?_)
      | (with_reducible refine everyOf_le (fun _ => ?_))
      | (with_reducible refine LeO.bind ?_ (fun _ => ?_))
      | exact ih0 _ _ _ _ _ _ _ _ _ _ _
      | exact ih1 _ _ _ _ _ _ _ _
      | exact area_In.mono _ _ _ _ _ _ _ _ _ _
      | exact barrowlaw32_small.mono _
      | exact LeO.none _
      | refine LeO.ite ?_ ?_
      | refine LeO.bind ?_ (fun _ => ?_)
    · intro y0 y1 y2 y3 y4 y5 y6 y7
      unfold barrowlaw32_AreaShapes.l299
      repeat' first
      | (with_reducible exact ih0 _ _ _ _ _ _ _ _ _ _ _)
      | (with_reducible exact ih1 _ _ _ _ _ _ _ _)
      | (with_reducible exact area_In.mono _ _ _ _ _ _ _ _ _ _)
      | (with_reducible exact barrowlaw32_small.mono _)
      | (with_reducible exact LeO.refl _)
      | (with_reducible exact LeO.none _)
      | (with_reducible refine LeO.ite ?_ ?_)
      | (with_reducible refine everyOf_le (fun _ => ?_))
      | (with_reducible refine LeO.bind ?_ (fun _ => ?_))
      | exact ih0 _ _ _ _ _ _ _ _ _ _ _
      | exact ih1 _ _ _ _ _ _ _ _
      | exact area_In.mono _ _ _ _ _ _ _ _ _ _
      | exact barrowlaw32_small.mono _
      | exact LeO.none _
      | refine LeO.ite ?_ ?_
      | refine LeO.bind ?_ (fun _ => ?_)
theorem barrowlaw32_AreaShapes.mono : ∀ a0 a1 a2 a3 a4 a5 a6 a7 k, LeO (barrowlaw32_AreaShapes.f k a0 a1 a2 a3 a4 a5 a6 a7) (barrowlaw32_AreaShapes.f (k + 1) a0 a1 a2 a3 a4 a5 a6 a7) := by
  intro a0 a1 a2 a3 a4 a5 a6 a7 k
  obtain ⟨ih0, ih1⟩ := barrowlaw32_AreaShapes.mono_l k
  unfold barrowlaw32_AreaShapes.f
  repeat' first
      | (with_reducible exact ih0 _ _ _ _ _ _ _ _ _ _ _)
      | (with_reducible exact ih1 _ _ _ _ _ _ _ _)
      | (with_reducible exact area_In.mono _ _ _ _ _ _ _ _ _ _)
      | (with_reducible exact barrowlaw32_small.mono _)
      | (with_reducible exact LeO.refl _)
      | (with_reducible exact LeO.none _)
      | (with_reducible refine LeO.ite ?_ ?_)
      | (with_reducible refine everyOf_le (fun _ => ?_))
      | (with_reducible refine LeO.bind ?_ (fun _ => ?_))
      | exact ih0 _ _ _ _ _ _ _ _ _ _ _
      | exact ih1 _ _ _ _ _ _ _ _
      | exact area_In.mono _ _ _ _ _ _ _ _ _ _
      | exact barrowlaw32_small.mono _
      | exact LeO.none _
      | refine LeO.ite ?_ ?_
      | refine LeO.bind ?_ (fun _ => ?_)
def barrowlaw32_AreaShapes.T8 : Bool × List (List Nat × List Nat) := (true, [([], []), ([], []), ([1], [1]), ([2], [2]), ([], []), ([4], [4]), ([3, 5], [3, 5]), ([], []), ([7], [7]), ([8], [8]), ([], []), ([10], [10]), ([9, 11], [9, 11]), ([6, 12], [6, 12]), ([], []), ([0, 13, 14], [0, 13, 14]), ([], []), ([16, 15, 13, 0, 1, 2, 3, 4, 5, 6, 7, 8, 9, 10, 11, 12, 13, 14, 15, 16], [15, 16])])
def barrowlaw32_AreaShapes.B8 : List Nat := [0, 0, 2, 6, 0, 16, 62, 0, 128, 384, 0, 1024, 3968, 8190, 0, 32767, 0, 131071]
theorem barrowlaw32_AreaShapes.tab8 : rtab .any (opsOf Try.f5 8) = barrowlaw32_AreaShapes.T8 := by kernel_rfl
theorem barrowlaw32_AreaShapes.bits8 : waitsOk barrowlaw32_AreaShapes.T8.2 barrowlaw32_AreaShapes.B8 = true := by kernel_rfl
def barrowlaw32_AreaShapes.T12 : Bool × List (List Nat × List Nat) := (true, [([], []), ([], []), ([0, 1], [0, 1]), ([2], [2]), ([3], [3]), ([3], [3]), ([4, 5, 3, 3], [3, 4, 5]), ([3], [3]), ([3], [3]), ([7, 8, 6, 3], [3, 7, 8]), ([9, 9, 3], [3, 9]), ([10], [10]), ([10], [10]), ([11, 12, 10, 10], [10, 11, 12]), ([10, 13, 3], [3, 10, 13]), ([6, 14, 3], [3, 6, 14]), ([3, 15], [3, 15]), ([16, 13], [16]), ([17], [17]), ([17], [17]), ([18, 19, 17, 17], [17, 18, 19]), ([20, 20, 17], [17, 20]), ([21], [21]), ([21], [21]), ([22, 23, 21, 21], [21, 22, 23]), ([21, 24, 17], [17, 21, 24]), ([17, 25], [17, 25]), ([26, 24], [26]), ([27], [27]), ([27], [27]), ([28, 29, 27, 27], [27, 28, 29]), ([27], [27]), ([27], [27]), ([31, 32, 30, 27], [27, 31, 32]), ([30, 33, 27], [27, 30, 33]), ([27, 34], [27, 34])])
def barrowlaw32_AreaShapes.B12 : List Nat := [0, 0, 3, 7, 15, 15, 63, 15, 15, 511, 1023, 2047, 2047, 8191, 16383, 32767, 65535, 131071, 262143, 262143, 1048575, 2097151, 4194303, 4194303, 16777215, 33554431, 67108863, 134217727, 268435455, 268435455, 1073741823, 268435455, 268435455, 8589934591, 17179869183, 34359738367]
theorem barrowlaw32_AreaShapes.tab12 : rtab .any (opsOf Try.f5 12) = barrowlaw32_AreaShapes.T12 := by kernel_rfl
theorem barrowlaw32_AreaShapes.bits12 : waitsOk barrowlaw32_AreaShapes.T12.2 barrowlaw32_AreaShapes.B12 = true := by kernel_rfl
def barrowlaw32_AreaShapes.Post (r : Bool) (S : Nat → Prop) (L : List Asr) (w : World) (e : Ending) (w' : World) : Prop := e = .returned (.bool r) ∧ SL (L) w' S ∧ Keep S w w'
set_option maxHeartbeats 8000000 in
set_option maxRecDepth 100000 in
theorem barrowlaw32_AreaShapes.slcalls (k : Nat) (a0_0 : Int) (a0_1 : Int) (a1_0 : Int) (a1_1 : Int) (a2_0 : Int) (a2_1 : Int) (a3 : Int) (a4 : Int) (r : Bool) (S : Nat → Prop) (L : List Asr) (w : World) (hf : Fresh S w) (hs : SL (L) w S) (h : barrowlaw32_AreaShapes.f k a0_0 a0_1 a1_0 a1_1 a2_0 a2_1 a3 a4 = some r) :
    Calls Try.prog 5 #[.agg #[.int .i64 a0_0, .int .i64 a0_1], .agg #[.int .i64 a1_0, .int .i64 a1_1], .agg #[.int .i64 a2_0, .int .i64 a2_1], .int .i64 a3, .int .i64 a4] w (barrowlaw32_AreaShapes.Post r S L w) := by
  have HF := Aside0.mk hf
  have HS := Aside0.mk hs
  have HK := Aside0.mk (Keep.refl S w)
  clear hf hs
  have hu26 := Try.underlying26
  have hu28 := Try.underlying28
  have H : ((barrowlaw32_small.f k).bind fun t501 => ((barrowlaw32_tile.f (wrap64 ((wrap64 (2 * a0_0)) - a1_0)) (wrap64 ((wrap64 (2 * a0_1)) - a1_1))).bind fun bt502 => ((area_Right.f 2 a0_0 a0_1 0 0 a3 a4).bind fun t507 => (if t507 = true then ((area_Right.f 3 a0_0 a0_1 a1_0 a1_1 0 0).bind fun t508 => (if t508 = true then ((area_Right.f 4 a0_0 a0_1 bt502.1 bt502.2 a4 0).bind fun t509 => (if t509 = true then (if a3 < 1 then (some t501) else (if a3 ≤ a4 then ((area_In.f k 1 a0_0 a0_1 0 0 a4 0 a2_0 a2_1).bind fun t510 => ((area_In.f k 2 a0_0 a0_1 0 0 a3 a4 a2_0 a2_1).bind fun t511 => (if t511 = true then (if (t510 != true) = true then (none) else ((area_In.f k 1 a0_0 a0_1 0 0 a3 0 a2_0 a2_1).bind fun t513 => (if t513 = true then (none) else ((area_In.f k 3 a0_0 a0_1 a1_0 a1_1 0 0 a2_0 a2_1).bind fun t514 => ((area_In.f k 3 a1_0 a1_1 a0_0 a0_1 0 0 a2_0 a2_1).bind fun t515 => (barrowlaw32_AreaShapes.l199 k a0_0 a0_1 a1_0 a1_1 a2_0 a2_1 a4 t501 bt502.1 bt502.2 (t514 != t515))))))) else ((area_In.f k 1 a0_0 a0_1 0 0 a3 0 a2_0 a2_1).bind fun t516 => (if (t510 != t516) = true then (none) else ((area_In.f k 3 a0_0 a0_1 a1_0 a1_1 0 0 a2_0 a2_1).bind fun t518 => ((area_In.f k 3 a1_0 a1_1 a0_0 a0_1 0 0 a2_0 a2_1).bind fun t519 => (barrowlaw32_AreaShapes.l199 k a0_0 a0_1 a1_0 a1_1 a2_0 a2_1 a4 t501 bt502.1 bt502.2 (t518 != t519))))))))) else ((area_In.f k 2 a0_0 a0_1 0 0 a3 a4 a2_0 a2_1).bind fun t520 => (if t520 = true then ((area_In.f k 1 a0_0 a0_1 0 0 a3 0 a2_0 a2_1).bind fun t521 => (if t521 = true then (none) else ((area_In.f k 3 a0_0 a0_1 a1_0 a1_1 0 0 a2_0 a2_1).bind fun t522 => ((area_In.f k 3 a1_0 a1_1 a0_0 a0_1 0 0 a2_0 a2_1).bind fun t523 => (barrowlaw32_AreaShapes.l199 k a0_0 a0_1 a1_0 a1_1 a2_0 a2_1 a4 t501 bt502.1 bt502.2 (t522 != t523)))))) else ((area_In.f k 3 a0_0 a0_1 a1_0 a1_1 0 0 a2_0 a2_1).bind fun t524 => ((area_In.f k 3 a1_0 a1_1 a0_0 a0_1 0 0 a2_0 a2_1).bind fun t525 => (barrowlaw32_AreaShapes.l199 k a0_0 a0_1 a1_0 a1_1 a2_0 a2_1 a4 t501 bt502.1 bt502.2 (t524 != t525)))))))) else (some t501))) else (some t501))) else (some t501))))) = some r := h
  clear h
  replace H := Option.bind_eq_some_iff.1 H
  obtain ⟨t501, Hc10, H⟩ := H
  try dsimp only at H
  have Hc1 := Aside0.mk Hc10
  clear Hc10
  replace H := Option.bind_eq_some_iff.1 H
  obtain ⟨⟨t502, t503⟩, Hc20, H⟩ := H
  try dsimp only at H
  have Hc2 := Aside0.mk Hc20
  clear Hc20
  replace H := Option.bind_eq_some_iff.1 H
  obtain ⟨t507, Hc30, H⟩ := H
  try dsimp only at H
  have Hc3 := Aside0.mk Hc30
  clear Hc30
  have H' := Aside0.mk H
  clear H
  go_enter Try.func5, Try.ntmps5
  try go_wp2_with (first | ((with_reducible refine gate_dst (N := 5) rfl ?_); refine wpList_plain rfl (fun K_ hK_ => ?_); refine op_box (S := S) (cs := #[.int .i64 a0_0, .int .i64 a0_1]) (t := 26) (HF.out.keep HK.out) HS.out (by first | (go_simp; done) | (go_simp; rfl)) ?_; intro g3000045 w4 hs_ hk_; refine hK_ _ _ ?_; clear hK_ K_; replace HS := Aside0.mk (hs_); replace HK := Aside0.mk (HK.out.trans hk_)) | ((with_reducible refine gate_dst (N := 6) rfl ?_); refine wpList_plain rfl (fun K_ hK_ => ?_); refine op_box (S := S) (cs := #[.int .i64 a1_0, .int .i64 a1_1]) (t := 26) (HF.out.keep HK.out) HS.out (by first | (go_simp; done) | (go_simp; rfl)) ?_; intro g3000046 w5 hs_ hk_; refine hK_ _ _ ?_; clear hK_ K_; replace HS := Aside0.mk (hs_); replace HK := Aside0.mk (HK.out.trans hk_)) | ((with_reducible refine gate_dst (N := 7) rfl ?_); refine wpList_plain rfl (fun K_ hK_ => ?_); refine op_box (S := S) (cs := #[.int .i64 a2_0, .int .i64 a2_1]) (t := 26) (HF.out.keep HK.out) HS.out (by first | (go_simp; done) | (go_simp; rfl)) ?_; intro g3000047 w6 hs_ hk_; refine hK_ _ _ ?_; clear hK_ K_; replace HS := Aside0.mk (hs_); replace HK := Aside0.mk (HK.out.trans hk_)) | ((with_reducible refine gate_dst (N := 20) rfl ?_); refine goesL_ (some 20) rfl rfl Try.func7 (by kernel_rfl) rfl #[] rfl (by (try simp only [List.map_toArray, List.map_cons, List.map_nil]); first | done | rfl | (simp; done)) ?_; (with_reducible refine (barrowlaw32_small.calls k _ _  Hc1.out).mono ?_); rintro e_ w7 ⟨rfl, hb_⟩; refine ⟨_, rfl, ?_⟩; replace HS := Aside0.mk (HS.out.below hb_); replace HK := Aside0.mk (HK.out.trans (Keep.below hb_)); have hb_ := SL.at_ (SL.get2 HS.out); have hz3000045_0_4 := ((blk_cell hb_ 0).trans rfl : _ = some (.int .i64 a0_0)); have hz3000045_1_4 := ((blk_cell hb_ 1).trans rfl : _ = some (.int .i64 a0_1)); clear hb_) | ((with_reducible refine gate_dst (N := 12) rfl ?_); refine wpList_plain rfl (fun K_ hK_ => ?_); refine op_box (S := S) (cs := #[.int .i64 0, .int .i64 0, .int .i64 0, .int .i64 0, .int .i64 0, .int .i64 0, .int .i64 0]) (t := 28) (HF.out.keep HK.out) HS.out (by first | (go_simp; done) | (go_simp; rfl)) ?_; intro g3000048 w8 hs_ hk_; refine hK_ _ _ ?_; clear hK_ K_; replace HS := Aside0.mk (hs_); replace HK := Aside0.mk (HK.out.trans hk_); (try clear hz3000045_0_4 hz3000045_1_4)) | ((with_reducible refine gate_store (t := 28) (p := 12) (v := (.tmp 24)) rfl ?_); refine wpList_plain rfl (fun K_ hK_ => ?_); refine op_store (S := S) 28 (.tmp 12) (.tmp 24) rfl g3000048 0 (.agg #[.int .i64 2, .int .i64 a0_0, .int .i64 a0_1, .int .i64 0, .int .i64 0, .int .i64 a3, .int .i64 a4]) [.int .i64 2, .int .i64 a0_0, .int .i64 a0_1, .int .i64 0, .int .i64 0, .int .i64 a3, .int .i64 a4] rfl rfl rfl (by kernel_rfl) (by simp [Value.oneCell']) HS.out (by simp) ?_; intro w9 hs_ hk_; refine hK_ _ _ ?_; clear hK_ K_; replace HS := Aside0.mk ((show SL (cells g3000048 28 [.int .i64 2, .int .i64 a0_0, .int .i64 a0_1, .int .i64 0, .int .i64 0, .int .i64 a3, .int .i64 a4].toArray :: _) _ _ from hs_)); replace HK := Aside0.mk (HK.out.trans hk_); have hb_ := SL.at_ (SL.get3 HS.out); have hz3000045_0_6 := ((blk_cell hb_ 0).trans rfl : _ = some (.int .i64 a0_0)); have hz3000045_1_6 := ((blk_cell hb_ 1).trans rfl : _ = some (.int .i64 a0_1)); clear hb_) | ((with_reducible refine gate_dst (N := 13) rfl ?_); refine wpList_plain rfl (fun K_ hK_ => ?_); refine op_box (S := S) (cs := #[.int .i64 0, .int .i64 0, .int .i64 0, .int .i64 0, .int .i64 0, .int .i64 0, .int .i64 0]) (t := 28) (HF.out.keep HK.out) HS.out (by first | (go_simp; done) | (go_simp; rfl)) ?_; intro g3000049 w10 hs_ hk_; refine hK_ _ _ ?_; clear hK_ K_; replace HS := Aside0.mk (hs_); replace HK := Aside0.mk (HK.out.trans hk_); (try clear hz3000045_0_6 hz3000045_1_6)) | ((with_reducible refine gate_store (t := 28) (p := 13) (v := (.tmp 27)) rfl ?_); refine wpList_plain rfl (fun K_ hK_ => ?_); refine op_store (S := S) 28 (.tmp 13) (.tmp 27) rfl g3000049 0 (.agg #[.int .i64 1, .int .i64 a0_0, .int .i64 a0_1, .int .i64 0, .int .i64 0, .int .i64 a4, .int .i64 0]) [.int .i64 1, .int .i64 a0_0, .int .i64 a0_1, .int .i64 0, .int .i64 0, .int .i64 a4, .int .i64 0] rfl rfl rfl (by kernel_rfl) (by simp [Value.oneCell']) HS.out (by simp) ?_; intro w11 hs_ hk_; refine hK_ _ _ ?_; clear hK_ K_; replace HS := Aside0.mk ((show SL (cells g3000049 28 [.int .i64 1, .int .i64 a0_0, .int .i64 a0_1, .int .i64 0, .int .i64 0, .int .i64 a4, .int .i64 0].toArray :: _) _ _ from hs_)); replace HK := Aside0.mk (HK.out.trans hk_); have hb_ := SL.at_ (SL.get4 HS.out); have hz3000045_0_8 := ((blk_cell hb_ 0).trans rfl : _ = some (.int .i64 a0_0)); have hz3000045_1_8 := ((blk_cell hb_ 1).trans rfl : _ = some (.int .i64 a0_1)); clear hb_) | ((with_reducible refine gate_dst (N := 14) rfl ?_); refine wpList_plain rfl (fun K_ hK_ => ?_); refine op_box (S := S) (cs := #[.int .i64 0, .int .i64 0, .int .i64 0, .int .i64 0, .int .i64 0, .int .i64 0, .int .i64 0]) (t := 28) (HF.out.keep HK.out) HS.out (by first | (go_simp; done) | (go_simp; rfl)) ?_; intro g3000050 w12 hs_ hk_; refine hK_ _ _ ?_; clear hK_ K_; replace HS := Aside0.mk (hs_); replace HK := Aside0.mk (HK.out.trans hk_); (try clear hz3000045_0_8 hz3000045_1_8)) | ((with_reducible refine gate_store (t := 28) (p := 14) (v := (.tmp 30)) rfl ?_); refine wpList_plain rfl (fun K_ hK_ => ?_); refine op_store (S := S) 28 (.tmp 14) (.tmp 30) rfl g3000050 0 (.agg #[.int .i64 1, .int .i64 a0_0, .int .i64 a0_1, .int .i64 0, .int .i64 0, .int .i64 a3, .int .i64 0]) [.int .i64 1, .int .i64 a0_0, .int .i64 a0_1, .int .i64 0, .int .i64 0, .int .i64 a3, .int .i64 0] rfl rfl rfl (by kernel_rfl) (by simp [Value.oneCell']) HS.out (by simp) ?_; intro w13 hs_ hk_; refine hK_ _ _ ?_; clear hK_ K_; replace HS := Aside0.mk ((show SL (cells g3000050 28 [.int .i64 1, .int .i64 a0_0, .int .i64 a0_1, .int .i64 0, .int .i64 0, .int .i64 a3, .int .i64 0].toArray :: _) _ _ from hs_)); replace HK := Aside0.mk (HK.out.trans hk_); have hb_ := SL.at_ (SL.get4 HS.out); have hz3000046_0_10 := ((blk_cell hb_ 0).trans rfl : _ = some (.int .i64 a1_0)); have hz3000046_1_10 := ((blk_cell hb_ 1).trans rfl : _ = some (.int .i64 a1_1)); clear hb_; have hb_ := SL.at_ (SL.get5 HS.out); have hz3000045_0_10 := ((blk_cell hb_ 0).trans rfl : _ = some (.int .i64 a0_0)); have hz3000045_1_10 := ((blk_cell hb_ 1).trans rfl : _ = some (.int .i64 a0_1)); clear hb_) | ((with_reducible refine gate_dst (N := 15) rfl ?_); refine wpList_plain rfl (fun K_ hK_ => ?_); refine op_box (S := S) (cs := #[.int .i64 0, .int .i64 0, .int .i64 0, .int .i64 0, .int .i64 0, .int .i64 0, .int .i64 0]) (t := 28) (HF.out.keep HK.out) HS.out (by first | (go_simp; done) | (go_simp; rfl)) ?_; intro g3000051 w14 hs_ hk_; refine hK_ _ _ ?_; clear hK_ K_; replace HS := Aside0.mk (hs_); replace HK := Aside0.mk (HK.out.trans hk_); (try clear hz3000045_0_10 hz3000045_1_10); (try clear hz3000046_0_10 hz3000046_1_10)) | ((with_reducible refine gate_store (t := 28) (p := 15) (v := (.tmp 33)) rfl ?_); refine wpList_plain rfl (fun K_ hK_ => ?_); refine op_store (S := S) 28 (.tmp 15) (.tmp 33) rfl g3000051 0 (.agg #[.int .i64 3, .int .i64 a0_0, .int .i64 a0_1, .int .i64 a1_0, .int .i64 a1_1, .int .i64 0, .int .i64 0]) [.int .i64 3, .int .i64 a0_0, .int .i64 a0_1, .int .i64 a1_0, .int .i64 a1_1, .int .i64 0, .int .i64 0] rfl rfl rfl (by kernel_rfl) (by simp [Value.oneCell']) HS.out (by simp) ?_; intro w15 hs_ hk_; refine hK_ _ _ ?_; clear hK_ K_; replace HS := Aside0.mk ((show SL (cells g3000051 28 [.int .i64 3, .int .i64 a0_0, .int .i64 a0_1, .int .i64 a1_0, .int .i64 a1_1, .int .i64 0, .int .i64 0].toArray :: _) _ _ from hs_)); replace HK := Aside0.mk (HK.out.trans hk_); have hb_ := SL.at_ (SL.get5 HS.out); have hz3000046_0_12 := ((blk_cell hb_ 0).trans rfl : _ = some (.int .i64 a1_0)); have hz3000046_1_12 := ((blk_cell hb_ 1).trans rfl : _ = some (.int .i64 a1_1)); clear hb_; have hb_ := SL.at_ (SL.get6 HS.out); have hz3000045_0_12 := ((blk_cell hb_ 0).trans rfl : _ = some (.int .i64 a0_0)); have hz3000045_1_12 := ((blk_cell hb_ 1).trans rfl : _ = some (.int .i64 a0_1)); clear hb_) | ((with_reducible refine gate_dst (N := 16) rfl ?_); refine wpList_plain rfl (fun K_ hK_ => ?_); refine op_box (S := S) (cs := #[.int .i64 0, .int .i64 0, .int .i64 0, .int .i64 0, .int .i64 0, .int .i64 0, .int .i64 0]) (t := 28) (HF.out.keep HK.out) HS.out (by first | (go_simp; done) | (go_simp; rfl)) ?_; intro g3000052 w16 hs_ hk_; refine hK_ _ _ ?_; clear hK_ K_; replace HS := Aside0.mk (hs_); replace HK := Aside0.mk (HK.out.trans hk_); (try clear hz3000045_0_12 hz3000045_1_12); (try clear hz3000046_0_12 hz3000046_1_12)) | ((with_reducible refine gate_store (t := 28) (p := 16) (v := (.tmp 36)) rfl ?_); refine wpList_plain rfl (fun K_ hK_ => ?_); refine op_store (S := S) 28 (.tmp 16) (.tmp 36) rfl g3000052 0 (.agg #[.int .i64 3, .int .i64 a1_0, .int .i64 a1_1, .int .i64 a0_0, .int .i64 a0_1, .int .i64 0, .int .i64 0]) [.int .i64 3, .int .i64 a1_0, .int .i64 a1_1, .int .i64 a0_0, .int .i64 a0_1, .int .i64 0, .int .i64 0] rfl rfl rfl (by kernel_rfl) (by simp [Value.oneCell']) HS.out (by simp) ?_; intro w17 hs_ hk_; refine hK_ _ _ ?_; clear hK_ K_; replace HS := Aside0.mk ((show SL (cells g3000052 28 [.int .i64 3, .int .i64 a1_0, .int .i64 a1_1, .int .i64 a0_0, .int .i64 a0_1, .int .i64 0, .int .i64 0].toArray :: _) _ _ from hs_)); replace HK := Aside0.mk (HK.out.trans hk_); have hb_ := SL.at_ (SL.get6 HS.out); have hz3000046_0_14 := ((blk_cell hb_ 0).trans rfl : _ = some (.int .i64 a1_0)); have hz3000046_1_14 := ((blk_cell hb_ 1).trans rfl : _ = some (.int .i64 a1_1)); clear hb_; have hb_ := SL.at_ (SL.get7 HS.out); have hz3000045_0_14 := ((blk_cell hb_ 0).trans rfl : _ = some (.int .i64 a0_0)); have hz3000045_1_14 := ((blk_cell hb_ 1).trans rfl : _ = some (.int .i64 a0_1)); clear hb_) | ((with_reducible refine gate_dst (N := 17) rfl ?_); refine wpList_plain rfl (fun K_ hK_ => ?_); refine op_box (S := S) (cs := #[.int .i64 0, .int .i64 0, .int .i64 0, .int .i64 0, .int .i64 0, .int .i64 0, .int .i64 0]) (t := 28) (HF.out.keep HK.out) HS.out (by first | (go_simp; done) | (go_simp; rfl)) ?_; intro g3000053 w18 hs_ hk_; refine hK_ _ _ ?_; clear hK_ K_; replace HS := Aside0.mk (hs_); replace HK := Aside0.mk (HK.out.trans hk_); (try clear hz3000045_0_14 hz3000045_1_14); (try clear hz3000046_0_14 hz3000046_1_14)) | ((with_reducible refine gate_store (t := 28) (p := 17) (v := (.tmp 40)) rfl ?_); refine wpList_plain rfl (fun K_ hK_ => ?_); refine op_store (S := S) 28 (.tmp 17) (.tmp 40) rfl g3000053 0 (.agg #[.int .i64 4, .int .i64 a0_0, .int .i64 a0_1, .int .i64 a1_0, .int .i64 a1_1, .int .i64 a4, .int .i64 0]) [.int .i64 4, .int .i64 a0_0, .int .i64 a0_1, .int .i64 a1_0, .int .i64 a1_1, .int .i64 a4, .int .i64 0] rfl rfl rfl (by kernel_rfl) (by simp [Value.oneCell']) HS.out (by simp) ?_; intro w19 hs_ hk_; refine hK_ _ _ ?_; clear hK_ K_; replace HS := Aside0.mk ((show SL (cells g3000053 28 [.int .i64 4, .int .i64 a0_0, .int .i64 a0_1, .int .i64 a1_0, .int .i64 a1_1, .int .i64 a4, .int .i64 0].toArray :: _) _ _ from hs_)); replace HK := Aside0.mk (HK.out.trans hk_)))
  refine start_ (n := 18) (S := fun w' => w'.cell? ⟨g3000045, 0, none⟩ = some (.int .i64 a0_0) ∧ w'.cell? ⟨g3000045, 1, none⟩ = some (.int .i64 a0_1) ∧ w'.cell? ⟨g3000046, 0, none⟩ = some (.int .i64 a1_0) ∧ w'.cell? ⟨g3000046, 1, none⟩ = some (.int .i64 a1_1)) (ds := []) #[false, false, false, false, false, false, false, false, false, false, false, false, false, false, false, false, false, false] (by kernel_rfl) rfl rfl ⟨(((blk_cell (SL.at_ (SL.get8 HS.out)) 0).trans rfl)), (((blk_cell (SL.at_ (SL.get8 HS.out)) 1).trans rfl)), (((blk_cell (SL.at_ (SL.get7 HS.out)) 0).trans rfl)), (((blk_cell (SL.at_ (SL.get7 HS.out)) 1).trans rfl))⟩ (fun hHeld => ?_); refine with_tabW barrowlaw32_AreaShapes.tab8 barrowlaw32_AreaShapes.bits8 (fun HT_ HW_ => ?_)
  replace HK := Aside0.mk (Keep.drew HK.out)
  replace HS := Aside0.mk (SL.drew HS.out)
  refine pure_ (i := 1) (N := some 42) (v := ?_) (a' := ?_) #[false, true, false, false, false, false, false, false, false, false, false, false, false, false, false, false, false, false] rfl rfl (any_of HT_.out (by kernel_rfl)) (fun _ _ _ h => h) (Or.inl ⟨by rfl, ?_⟩) ?_ ?_; rotate_left; · (intro w'; go_simp; with_reducible rfl)
  rotate_left; · (simp only [Act.put, sT, sZ, sS, i64_w, i32_w]; rfl)
  refine pure_ (i := 4) (N := some 45) (v := ?_) (a' := ?_) #[false, true, false, false, true, false, false, false, false, false, false, false, false, false, false, false, false, false] rfl rfl (any_of HT_.out (by kernel_rfl)) (fun _ _ _ h => h) (Or.inl ⟨by rfl, ?_⟩) ?_ ?_; rotate_left; · (intro w'; go_simp; with_reducible rfl)
  rotate_left; · (simp only [Act.put, sT, sZ, sS, i64_w, i32_w]; rfl)
  refine pure_ (i := 7) (N := some 48) (v := ?_) (a' := ?_) #[false, true, false, false, true, false, false, true, false, false, false, false, false, false, false, false, false, false] rfl rfl (any_of HT_.out (by kernel_rfl)) (fun _ _ _ h => h) (Or.inl ⟨by rfl, ?_⟩) ?_ ?_; rotate_left; · (intro w'; go_simp; with_reducible rfl)
  rotate_left; · (simp only [Act.put, sT, sZ, sS, i64_w, i32_w]; rfl)
  refine pure_ (i := 10) (N := some 51) (v := ?_) (a' := ?_) #[false, true, false, false, true, false, false, true, false, false, true, false, false, false, false, false, false, false] rfl rfl (any_of HT_.out (by kernel_rfl)) (fun _ _ _ h => h) (Or.inl ⟨by rfl, ?_⟩) ?_ ?_; rotate_left; · (intro w'; go_simp; with_reducible rfl)
  rotate_left; · (simp only [Act.put, sT, sZ, sS, i64_w, i32_w]; rfl)
  refine pure_ (i := 14) (N := some 55) (v := ?_) (a' := ?_) #[false, true, false, false, true, false, false, true, false, false, true, false, false, false, true, false, false, false] rfl rfl (any_of HT_.out (by kernel_rfl)) (fun _ _ _ h => h) (Or.inl ⟨by rfl, ?_⟩) ?_ ?_; rotate_left; · (intro w'; go_simp; with_reducible rfl)
  rotate_left; · (simp only [Act.put, sT, sZ, sS, i64_w, i32_w]; rfl)
  refine take_ (i := 0) (N := some 41) (v := ?_) (a' := ?_) #[true, true, false, false, true, false, false, true, false, false, true, false, false, false, true, false, false, false] rfl rfl (take_ofW HT_.out HW_.out (by kernel_rfl)) (fun _ _ _ h => h) (Or.inl ⟨by rfl, ?_⟩) hHeld ?_ ?_; rotate_left
  · rintro w' ⟨s0, s1, s2, s3⟩
    go_simp
    with_reducible rfl
  rotate_left; · (simp only [Act.put, sT, sZ, sS, i64_w, i32_w]; rfl)
  refine take_ (i := 2) (N := some 43) (v := ?_) (a' := ?_) #[true, true, true, false, true, false, false, true, false, false, true, false, false, false, true, false, false, false] rfl rfl (take_ofW HT_.out HW_.out (by kernel_rfl)) (fun _ _ _ h => h) (Or.inl ⟨by rfl, ?_⟩) hHeld ?_ ?_; rotate_left
  · rintro w' ⟨s0, s1, s2, s3⟩
    go_simp
    with_reducible rfl
  rotate_left; · (simp only [Act.put, sT, sZ, sS, i64_w, i32_w]; rfl)
  refine pure_ (i := 3) (N := some 44) (v := ?_) (a' := ?_) #[true, true, true, true, true, false, false, true, false, false, true, false, false, false, true, false, false, false] rfl rfl (any_of HT_.out (by kernel_rfl)) (fun _ _ _ h => h) (Or.inl ⟨by rfl, ?_⟩) ?_ ?_; rotate_left; · (intro w'; go_simp; with_reducible rfl)
  rotate_left; · (simp only [Act.put, sT, sZ, sS, i64_w, i32_w]; rfl)
  refine take_ (i := 5) (N := some 46) (v := ?_) (a' := ?_) #[true, true, true, true, true, true, false, true, false, false, true, false, false, false, true, false, false, false] rfl rfl (take_ofW HT_.out HW_.out (by kernel_rfl)) (fun _ _ _ h => h) (Or.inl ⟨by rfl, ?_⟩) hHeld ?_ ?_; rotate_left
  · rintro w' ⟨s0, s1, s2, s3⟩
    go_simp
    with_reducible rfl
  rotate_left; · (simp only [Act.put, sT, sZ, sS, i64_w, i32_w]; rfl)
  refine pure_ (i := 6) (N := some 47) (v := ?_) (a' := ?_) #[true, true, true, true, true, true, true, true, false, false, true, false, false, false, true, false, false, false] rfl rfl (any_of HT_.out (by kernel_rfl)) (fun _ _ _ h => h) (Or.inl ⟨by rfl, ?_⟩) ?_ ?_; rotate_left; · (intro w'; go_simp; with_reducible rfl)
  rotate_left; · (simp only [Act.put, sT, sZ, sS, i64_w, i32_w]; rfl)
  refine take_ (i := 8) (N := some 49) (v := ?_) (a' := ?_) #[true, true, true, true, true, true, true, true, true, false, true, false, false, false, true, false, false, false] rfl rfl (take_ofW HT_.out HW_.out (by kernel_rfl)) (fun _ _ _ h => h) (Or.inl ⟨by rfl, ?_⟩) hHeld ?_ ?_; rotate_left
  · rintro w' ⟨s0, s1, s2, s3⟩
    go_simp
    with_reducible rfl
  rotate_left; · (simp only [Act.put, sT, sZ, sS, i64_w, i32_w]; rfl)
  refine pure_ (i := 9) (N := some 50) (v := ?_) (a' := ?_) #[true, true, true, true, true, true, true, true, true, true, true, false, false, false, true, false, false, false] rfl rfl (any_of HT_.out (by kernel_rfl)) (fun _ _ _ h => h) (Or.inl ⟨by rfl, ?_⟩) ?_ ?_; rotate_left; · (intro w'; go_simp; with_reducible rfl)
  rotate_left; · (simp only [Act.put, sT, sZ, sS, i64_w, i32_w]; rfl)
  refine take_ (i := 11) (N := some 52) (v := ?_) (a' := ?_) #[true, true, true, true, true, true, true, true, true, true, true, true, false, false, true, false, false, false] rfl rfl (take_ofW HT_.out HW_.out (by kernel_rfl)) (fun _ _ _ h => h) (Or.inl ⟨by rfl, ?_⟩) hHeld ?_ ?_; rotate_left
  · rintro w' ⟨s0, s1, s2, s3⟩
    go_simp
    with_reducible rfl
  rotate_left; · (simp only [Act.put, sT, sZ, sS, i64_w, i32_w]; rfl)
  refine pure_ (i := 12) (N := some 53) (v := ?_) (a' := ?_) #[true, true, true, true, true, true, true, true, true, true, true, true, true, false, true, false, false, false] rfl rfl (any_of HT_.out (by kernel_rfl)) (fun _ _ _ h => h) (Or.inl ⟨by rfl, ?_⟩) ?_ ?_; rotate_left; · (intro w'; go_simp; with_reducible rfl)
  rotate_left; · (simp only [Act.put, sT, sZ, sS, i64_w, i32_w]; rfl)
  refine join_ (σ := Nat) 1 #[true, true, true, true, true, true, true, true, true, true, true, true, true, true, true, true, true, false] (fun s_ => [(54, .agg #[.int .i64 t502, .int .i64 t503]), (56, .agg #[.int .i64 4, .int .i64 a0_0, .int .i64 a0_1, .int .i64 t502, .int .i64 t503, .int .i64 a4, .int .i64 0]), (18, .pointer (some ⟨s_, 0, none⟩))]) (fun s_ w_ => Keep S w w_ ∧ SL (cells s_ 28 [.int .i64 0, .int .i64 0, .int .i64 0, .int .i64 0, .int .i64 0, .int .i64 0, .int .i64 0].toArray :: cells g3000053 28 [.int .i64 4, .int .i64 a0_0, .int .i64 a0_1, .int .i64 a1_0, .int .i64 a1_1, .int .i64 a4, .int .i64 0].toArray :: cells g3000052 28 [.int .i64 3, .int .i64 a1_0, .int .i64 a1_1, .int .i64 a0_0, .int .i64 a0_1, .int .i64 0, .int .i64 0].toArray :: cells g3000051 28 [.int .i64 3, .int .i64 a0_0, .int .i64 a0_1, .int .i64 a1_0, .int .i64 a1_1, .int .i64 0, .int .i64 0].toArray :: cells g3000050 28 [.int .i64 1, .int .i64 a0_0, .int .i64 a0_1, .int .i64 0, .int .i64 0, .int .i64 a3, .int .i64 0].toArray :: cells g3000049 28 [.int .i64 1, .int .i64 a0_0, .int .i64 a0_1, .int .i64 0, .int .i64 0, .int .i64 a4, .int .i64 0].toArray :: cells g3000048 28 [.int .i64 2, .int .i64 a0_0, .int .i64 a0_1, .int .i64 0, .int .i64 0, .int .i64 a3, .int .i64 a4].toArray :: cells g3000047 26 [.int .i64 a2_0, .int .i64 a2_1].toArray :: cells g3000046 26 [.int .i64 a1_0, .int .i64 a1_1].toArray :: cells g3000045 26 [.int .i64 a0_0, .int .i64 a0_1].toArray :: L) w_ S) ?_ ?_; rotate_left
  · intro hCont
    refine two_ (i := 13) (j := 16) (Ni := some 54) (Nj := some 18) #[true, true, true, true, true, true, true, true, true, true, true, true, true, true, true, false, false, false] #[true, true, true, true, true, true, true, true, true, true, true, true, true, false, true, false, true, false] rfl rfl rfl rfl (two_of HT_.out (by kernel_rfl)) (by decide) (by decide) (fun K hK => ?_) (fun K hK => ?_)
    · skip
      refine goes_ Try.func21 (by kernel_rfl) rfl #[.int .i64 (wrap64 ((wrap64 (2 * a0_0)) - a1_0)), .int .i64 (wrap64 ((wrap64 (2 * a0_1)) - a1_1))] (by rfl) rfl rfl (by (try simp only [List.map_toArray, List.map_cons, List.map_nil]); first | done | rfl | (simp; done)) ?_
      (with_reducible refine (barrowlaw32_tile.calls _ _ _ _ _  Hc2.out).mono ?_)
      rintro e_ w27 ⟨rfl, hb_⟩
      refine ⟨_, rfl, ?_⟩
      replace HS := Aside0.mk (HS.out.below hb_)
      replace HK := Aside0.mk (HK.out.trans (Keep.below hb_))
      refine hK.out _ _ ⟨(((blk_cell (SL.at_ (SL.get8 HS.out)) 0).trans rfl)), (((blk_cell (SL.at_ (SL.get8 HS.out)) 1).trans rfl)), (((blk_cell (SL.at_ (SL.get7 HS.out)) 0).trans rfl)), (((blk_cell (SL.at_ (SL.get7 HS.out)) 1).trans rfl))⟩ (fun hHeld => ?_)
      clear hK K
      refine norm_ (a' := ?_) ?_ ?_; rotate_left
      · show Act.put _ (some 54) _ = _
        simp only [Act.put, sT, sZ, sS, i64_w, i32_w]
        rfl
      refine pure_ (i := 15) (N := some 56) (v := ?_) (a' := ?_) #[true, true, true, true, true, true, true, true, true, true, true, true, true, true, true, true, false, false] rfl rfl (any_of HT_.out (by kernel_rfl)) (fun _ _ _ h => h) (Or.inl ⟨by rfl, ?_⟩) ?_ ?_; rotate_left; · (intro w'; go_simp; with_reducible rfl)
      rotate_left; · (simp only [Act.put, sT, sZ, sS, i64_w, i32_w]; rfl)
      refine one_ (i := 16) (N := some 18) #[true, true, true, true, true, true, true, true, true, true, true, true, true, true, true, true, true, false] rfl rfl (one_of HT_.out (by kernel_rfl)) (by decide) (fun K hK => ?_)
      refine st_of (by rfl) ?_
      refine op_box (S := S) (cs := #[.int .i64 0, .int .i64 0, .int .i64 0, .int .i64 0, .int .i64 0, .int .i64 0, .int .i64 0]) (t := 28) (HF.out.keep HK.out) HS.out (by first | (go_simp; done) | (go_simp; rfl)) ?_
      intro g3000054 w28 hs_ hk_
      replace HS := Aside0.mk (hs_)
      replace HK := Aside0.mk (HK.out.trans hk_)
      refine hK.out _ _ ⟨(((blk_cell (SL.at_ (SL.get9 HS.out)) 0).trans rfl)), (((blk_cell (SL.at_ (SL.get9 HS.out)) 1).trans rfl)), (((blk_cell (SL.at_ (SL.get8 HS.out)) 0).trans rfl)), (((blk_cell (SL.at_ (SL.get8 HS.out)) 1).trans rfl))⟩ (fun hHeld => ?_)
      clear hK K
      refine norm_ (a' := ?_) ?_ ?_; rotate_left
      · show Act.put _ (some 18) _ = _
        simp only [Act.put, sT, sZ, sS, i64_w, i32_w]
        rfl
      exact norm_ (by simp only [putAll, Act.put, sT, sZ, sS]) (hCont g3000054 _ ⟨HK.out, HS.out⟩)
    · skip
      refine st_of (by rfl) ?_
      refine op_box (S := S) (cs := #[.int .i64 0, .int .i64 0, .int .i64 0, .int .i64 0, .int .i64 0, .int .i64 0, .int .i64 0]) (t := 28) (HF.out.keep HK.out) HS.out (by first | (go_simp; done) | (go_simp; rfl)) ?_
      intro g3000054 w29 hs_ hk_
      replace HS := Aside0.mk (hs_)
      replace HK := Aside0.mk (HK.out.trans hk_)
      refine hK.out _ _ ⟨(((blk_cell (SL.at_ (SL.get9 HS.out)) 0).trans rfl)), (((blk_cell (SL.at_ (SL.get9 HS.out)) 1).trans rfl)), (((blk_cell (SL.at_ (SL.get8 HS.out)) 0).trans rfl)), (((blk_cell (SL.at_ (SL.get8 HS.out)) 1).trans rfl))⟩ (fun hHeld => ?_)
      clear hK K
      refine norm_ (a' := ?_) ?_ ?_; rotate_left
      · show Act.put _ (some 18) _ = _
        simp only [Act.put, sT, sZ, sS, i64_w, i32_w]
        rfl
      refine one_ (i := 13) (N := some 54) #[true, true, true, true, true, true, true, true, true, true, true, true, true, true, true, false, true, false] rfl rfl (one_of HT_.out (by kernel_rfl)) (by decide) (fun K hK => ?_)
      replace HS := Aside0.mk (SL.get9 (SL.get9 (SL.get9 (SL.get9 (SL.get9 (SL.get9 (SL.get9 (SL.get9 (SL.get9 HS.out)))))))))
      refine goes_ Try.func21 (by kernel_rfl) rfl #[.int .i64 (wrap64 ((wrap64 (2 * a0_0)) - a1_0)), .int .i64 (wrap64 ((wrap64 (2 * a0_1)) - a1_1))] (by rfl) rfl rfl (by (try simp only [List.map_toArray, List.map_cons, List.map_nil]); first | done | rfl | (simp; done)) ?_
      (with_reducible refine (barrowlaw32_tile.calls _ _ _ _ _  Hc2.out).mono ?_)
      rintro e_ w30 ⟨rfl, hb_⟩
      refine ⟨_, rfl, ?_⟩
      replace HS := Aside0.mk (HS.out.below hb_)
      replace HK := Aside0.mk (HK.out.trans (Keep.below hb_))
      refine hK.out _ _ ⟨(((blk_cell (SL.at_ (SL.get8 HS.out)) 0).trans rfl)), (((blk_cell (SL.at_ (SL.get8 HS.out)) 1).trans rfl)), (((blk_cell (SL.at_ (SL.get7 HS.out)) 0).trans rfl)), (((blk_cell (SL.at_ (SL.get7 HS.out)) 1).trans rfl))⟩ (fun hHeld => ?_)
      clear hK K
      refine norm_ (a' := ?_) ?_ ?_; rotate_left
      · show Act.put _ (some 54) _ = _
        simp only [Act.put, sT, sZ, sS, i64_w, i32_w]
        rfl
      refine pure_ (i := 15) (N := some 56) (v := ?_) (a' := ?_) #[true, true, true, true, true, true, true, true, true, true, true, true, true, true, true, true, true, false] rfl rfl (any_of HT_.out (by kernel_rfl)) (fun _ _ _ h => h) (Or.inl ⟨by rfl, ?_⟩) ?_ ?_; rotate_left; · (intro w'; go_simp; with_reducible rfl)
      rotate_left; · (simp only [Act.put, sT, sZ, sS, i64_w, i32_w]; rfl)
      exact norm_ (by simp only [putAll, Act.put, sT, sZ, sS]) (hCont g3000054 _ ⟨HK.out, (SL.get9 (SL.get8 (SL.get8 (SL.get8 (SL.get8 (SL.get8 (SL.get8 (SL.get8 (SL.get8 (SL.get8 HS.out))))))))))⟩)
  rintro g3000054 w26 ⟨hk_, hs_⟩
  clear HK HS
  have HK := Aside0.mk hk_
  have HS := Aside0.mk hs_
  clear hk_ hs_
  have hHeld := (⟨(((blk_cell (SL.at_ (SL.get9 HS.out)) 0).trans rfl)), (((blk_cell (SL.at_ (SL.get9 HS.out)) 1).trans rfl)), (((blk_cell (SL.at_ (SL.get8 HS.out)) 0).trans rfl)), (((blk_cell (SL.at_ (SL.get8 HS.out)) 1).trans rfl))⟩ : w26.cell? ⟨g3000045, 0, none⟩ = some (.int .i64 a0_0) ∧ w26.cell? ⟨g3000045, 1, none⟩ = some (.int .i64 a0_1) ∧ w26.cell? ⟨g3000046, 0, none⟩ = some (.int .i64 a1_0) ∧ w26.cell? ⟨g3000046, 1, none⟩ = some (.int .i64 a1_1))
  refine norm_ (a' := ?_) ?_ ?_; rotate_left; · (simp only [putAll, Act.put, sT, sZ, sS]; rfl)
  refine one_ (i := 17) (N := none) #[true, true, true, true, true, true, true, true, true, true, true, true, true, true, true, true, true, true] rfl rfl (one_of HT_.out (by kernel_rfl)) (by decide) (fun K hK => ?_)
  refine st_of (by rfl) ?_
  refine op_store (S := S) 28 (.tmp 18) (.tmp 56) rfl g3000054 0 (.agg #[.int .i64 4, .int .i64 a0_0, .int .i64 a0_1, .int .i64 t502, .int .i64 t503, .int .i64 a4, .int .i64 0]) [.int .i64 4, .int .i64 a0_0, .int .i64 a0_1, .int .i64 t502, .int .i64 t503, .int .i64 a4, .int .i64 0] rfl rfl rfl (by kernel_rfl) (by simp [Value.oneCell']) HS.out (by simp) ?_
  intro w22 hs_ hk_
  replace HS := Aside0.mk ((show SL (cells g3000054 28 [.int .i64 4, .int .i64 a0_0, .int .i64 a0_1, .int .i64 t502, .int .i64 t503, .int .i64 a4, .int .i64 0].toArray :: _) _ _ from hs_))
  replace HK := Aside0.mk (HK.out.trans hk_)
  refine hK.out _ _ ⟨(((blk_cell (SL.at_ (SL.get9 HS.out)) 0).trans rfl)), (((blk_cell (SL.at_ (SL.get9 HS.out)) 1).trans rfl)), (((blk_cell (SL.at_ (SL.get8 HS.out)) 0).trans rfl)), (((blk_cell (SL.at_ (SL.get8 HS.out)) 1).trans rfl))⟩ (fun hHeld => ?_)
  clear hK K
  refine done_ (done_of HT_.out (by kernel_rfl)) ?_
  have hb_ := SL.at_ (SL.get8 HS.out)
  have hz3000046_0_20 := ((blk_cell hb_ 0).trans rfl : _ = some (.int .i64 a1_0))
  have hz3000046_1_20 := ((blk_cell hb_ 1).trans rfl : _ = some (.int .i64 a1_1))
  clear hb_
  have hb_ := SL.at_ (SL.get9 HS.out)
  have hz3000045_0_20 := ((blk_cell hb_ 0).trans rfl : _ = some (.int .i64 a0_0))
  have hz3000045_1_20 := ((blk_cell hb_ 1).trans rfl : _ = some (.int .i64 a0_1))
  clear hb_
  try go_wp2_with (first | ((with_reducible refine gate_dst (N := 19) rfl ?_); refine wpList_plain rfl (fun K_ hK_ => ?_); refine op_box (S := S) (cs := #[.int .i64 0, .int .i64 0, .int .i64 0, .int .i64 0, .int .i64 0, .int .i64 0, .int .i64 0]) (t := 28) (HF.out.keep HK.out) HS.out (by first | (go_simp; done) | (go_simp; rfl)) ?_; intro g3000055 w23 hs_ hk_; refine hK_ _ _ ?_; clear hK_ K_; replace HS := Aside0.mk (hs_); replace HK := Aside0.mk (HK.out.trans hk_); (try clear hz3000045_0_20 hz3000045_1_20); (try clear hz3000046_0_20 hz3000046_1_20)) | ((with_reducible refine gate_store (t := 28) (p := 19) (v := (.tmp 59)) rfl ?_); refine wpList_plain rfl (fun K_ hK_ => ?_); refine op_store (S := S) 28 (.tmp 19) (.tmp 59) rfl g3000055 0 (.agg #[.int .i64 5, .int .i64 a0_0, .int .i64 a0_1, .int .i64 a1_0, .int .i64 a1_1, .int .i64 0, .int .i64 0]) [.int .i64 5, .int .i64 a0_0, .int .i64 a0_1, .int .i64 a1_0, .int .i64 a1_1, .int .i64 0, .int .i64 0] rfl rfl rfl (by kernel_rfl) (by simp [Value.oneCell']) HS.out (by simp) ?_; intro w24 hs_ hk_; refine hK_ _ _ ?_; clear hK_ K_; replace HS := Aside0.mk ((show SL (cells g3000055 28 [.int .i64 5, .int .i64 a0_0, .int .i64 a0_1, .int .i64 a1_0, .int .i64 a1_1, .int .i64 0, .int .i64 0].toArray :: _) _ _ from hs_)); replace HK := Aside0.mk (HK.out.trans hk_); have hb_ := SL.at_ (SL.get7 HS.out); have hz3000048_0_22 := ((blk_cell hb_ 0).trans rfl : _ = some (.int .i64 2)); have hz3000048_1_22 := ((blk_cell hb_ 1).trans rfl : _ = some (.int .i64 a0_0)); have hz3000048_2_22 := ((blk_cell hb_ 2).trans rfl : _ = some (.int .i64 a0_1)); have hz3000048_3_22 := ((blk_cell hb_ 3).trans rfl : _ = some (.int .i64 0)); have hz3000048_4_22 := ((blk_cell hb_ 4).trans rfl : _ = some (.int .i64 0)); have hz3000048_5_22 := ((blk_cell hb_ 5).trans rfl : _ = some (.int .i64 a3)); have hz3000048_6_22 := ((blk_cell hb_ 6).trans rfl : _ = some (.int .i64 a4)); clear hb_) | ((with_reducible refine gate_dst (N := 61) rfl ?_); refine goesL_ (some 61) rfl rfl Try.func9 (by kernel_rfl) rfl #[.agg #[.int .i64 2, .int .i64 a0_0, .int .i64 a0_1, .int .i64 0, .int .i64 0, .int .i64 a3, .int .i64 a4]] rfl (by (try simp only [List.map_toArray, List.map_cons, List.map_nil]); first | done | rfl | (simp; done)) ?_; (with_reducible refine (area_Right.calls _ _ _ _ _ _ _ _ _  Hc3.out).mono ?_); rintro e_ w25 ⟨rfl, hb_⟩; refine ⟨_, rfl, ?_⟩; replace HS := Aside0.mk (HS.out.below hb_); replace HK := Aside0.mk (HK.out.trans (Keep.below hb_)); (try clear hz3000048_0_22 hz3000048_1_22 hz3000048_2_22 hz3000048_3_22 hz3000048_4_22 hz3000048_5_22 hz3000048_6_22); refine stop_ ?_; intro G_ hG_))
  have H := H'.out
  clear H'
  by_cases c31 : t507 = true
  · subst c31
    rw [if_pos rfl] at H
    replace H := Option.bind_eq_some_iff.1 H
    obtain ⟨t508, Hc320, H⟩ := H
    try dsimp only at H
    have Hc32 := Aside0.mk Hc320
    clear Hc320
    by_cases c33 : t508 = true
    · subst c33
      rw [if_pos rfl] at H
      replace H := Option.bind_eq_some_iff.1 H
      obtain ⟨t509, Hc340, H⟩ := H
      try dsimp only at H
      have Hc34 := Aside0.mk Hc340
      clear Hc340
      by_cases c35 : t509 = true
      · subst c35
        rw [if_pos rfl] at H
        by_cases c36 : a3 < 1
        · rw [if_pos c36] at H
          have c36b0 : decide (a3 < 1) = true := decide_eq_true c36
          clear c36
          obtain rfl := Option.some.inj H
          have hb_ := SL.at_ (SL.get4 HS.out)
          have hz3000051_0_0 := ((blk_cell hb_ 0).trans rfl : _ = some (.int .i64 3))
          have hz3000051_1_0 := ((blk_cell hb_ 1).trans rfl : _ = some (.int .i64 a0_0))
          have hz3000051_2_0 := ((blk_cell hb_ 2).trans rfl : _ = some (.int .i64 a0_1))
          have hz3000051_3_0 := ((blk_cell hb_ 3).trans rfl : _ = some (.int .i64 a1_0))
          have hz3000051_4_0 := ((blk_cell hb_ 4).trans rfl : _ = some (.int .i64 a1_1))
          have hz3000051_5_0 := ((blk_cell hb_ 5).trans rfl : _ = some (.int .i64 0))
          have hz3000051_6_0 := ((blk_cell hb_ 6).trans rfl : _ = some (.int .i64 0))
          clear hb_
          refine hG_.out ?_
          try simp only [c36b0]
          go_wp2_with (first | ((with_reducible refine gate_dst (N := 65) rfl ?_); (try (refine gate_guard (by rfl) ?_; dsimp only)); refine goesL_ (some 65) rfl rfl Try.func9 (by kernel_rfl) rfl #[.agg #[.int .i64 3, .int .i64 a0_0, .int .i64 a0_1, .int .i64 a1_0, .int .i64 a1_1, .int .i64 0, .int .i64 0]] rfl (by (try simp only [List.map_toArray, List.map_cons, List.map_nil]); first | done | rfl | (simp; done)) ?_; (with_reducible refine (area_Right.calls _ _ _ _ _ _ _ _ _  Hc32.out).mono ?_); rintro e_ w37 ⟨rfl, hb_⟩; refine ⟨_, rfl, ?_⟩; replace HS := Aside0.mk (HS.out.below hb_); replace HK := Aside0.mk (HK.out.trans (Keep.below hb_)); (try clear hz3000051_0_0 hz3000051_1_0 hz3000051_2_0 hz3000051_3_0 hz3000051_4_0 hz3000051_5_0 hz3000051_6_0); have hb_ := SL.at_ (SL.get1 HS.out); have hz3000054_0_1 := ((blk_cell hb_ 0).trans rfl : _ = some (.int .i64 4)); have hz3000054_1_1 := ((blk_cell hb_ 1).trans rfl : _ = some (.int .i64 a0_0)); have hz3000054_2_1 := ((blk_cell hb_ 2).trans rfl : _ = some (.int .i64 a0_1)); have hz3000054_3_1 := ((blk_cell hb_ 3).trans rfl : _ = some (.int .i64 t502)); have hz3000054_4_1 := ((blk_cell hb_ 4).trans rfl : _ = some (.int .i64 t503)); have hz3000054_5_1 := ((blk_cell hb_ 5).trans rfl : _ = some (.int .i64 a4)); have hz3000054_6_1 := ((blk_cell hb_ 6).trans rfl : _ = some (.int .i64 0)); clear hb_) | ((with_reducible refine gate_dst (N := 70) rfl ?_); (try (refine gate_guard (by rfl) ?_; dsimp only)); refine goesL_ (some 70) rfl rfl Try.func9 (by kernel_rfl) rfl #[.agg #[.int .i64 4, .int .i64 a0_0, .int .i64 a0_1, .int .i64 t502, .int .i64 t503, .int .i64 a4, .int .i64 0]] rfl (by (try simp only [List.map_toArray, List.map_cons, List.map_nil]); first | done | rfl | (simp; done)) ?_; (with_reducible refine (area_Right.calls _ _ _ _ _ _ _ _ _  Hc34.out).mono ?_); rintro e_ w38 ⟨rfl, hb_⟩; refine ⟨_, rfl, ?_⟩; replace HS := Aside0.mk (HS.out.below hb_); replace HK := Aside0.mk (HK.out.trans (Keep.below hb_)); (try clear hz3000054_0_1 hz3000054_1_1 hz3000054_2_1 hz3000054_3_1 hz3000054_4_1 hz3000054_5_1 hz3000054_6_1)))
          go_ret
          replace HS := Aside0.mk (SL.tail (SL.tail (SL.tail (SL.tail (SL.tail (SL.tail (SL.tail (SL.tail (SL.tail (SL.tail (SL.tail HS.out)))))))))))
          unfold barrowlaw32_AreaShapes.Post
          exact ⟨by first | rfl | (simp; done) | (simp [*]; done) | (simp at c36b0 ⊢; first | exact c36b0 | (simp [c36b0]; done)), HS.out, HK.out⟩
        · rw [if_neg c36] at H
          have c36b0 : decide (a3 < 1) = false := decide_eq_false c36
          clear c36
          have H' := Aside0.mk H
          clear H
          have hb_ := SL.at_ (SL.get4 HS.out)
          have hz3000051_0_0 := ((blk_cell hb_ 0).trans rfl : _ = some (.int .i64 3))
          have hz3000051_1_0 := ((blk_cell hb_ 1).trans rfl : _ = some (.int .i64 a0_0))
          have hz3000051_2_0 := ((blk_cell hb_ 2).trans rfl : _ = some (.int .i64 a0_1))
          have hz3000051_3_0 := ((blk_cell hb_ 3).trans rfl : _ = some (.int .i64 a1_0))
          have hz3000051_4_0 := ((blk_cell hb_ 4).trans rfl : _ = some (.int .i64 a1_1))
          have hz3000051_5_0 := ((blk_cell hb_ 5).trans rfl : _ = some (.int .i64 0))
          have hz3000051_6_0 := ((blk_cell hb_ 6).trans rfl : _ = some (.int .i64 0))
          clear hb_
          refine hG_.out ?_
          try simp only [c36b0]
          try go_upto_region 12 with (first | ((with_reducible refine gate_dst (N := 65) rfl ?_); (try (refine gate_guard (by rfl) ?_; dsimp only)); refine goesL_ (some 65) rfl rfl Try.func9 (by kernel_rfl) rfl #[.agg #[.int .i64 3, .int .i64 a0_0, .int .i64 a0_1, .int .i64 a1_0, .int .i64 a1_1, .int .i64 0, .int .i64 0]] rfl (by (try simp only [List.map_toArray, List.map_cons, List.map_nil]); first | done | rfl | (simp; done)) ?_; (with_reducible refine (area_Right.calls _ _ _ _ _ _ _ _ _  Hc32.out).mono ?_); rintro e_ w39 ⟨rfl, hb_⟩; refine ⟨_, rfl, ?_⟩; replace HS := Aside0.mk (HS.out.below hb_); replace HK := Aside0.mk (HK.out.trans (Keep.below hb_)); (try clear hz3000051_0_0 hz3000051_1_0 hz3000051_2_0 hz3000051_3_0 hz3000051_4_0 hz3000051_5_0 hz3000051_6_0); have hb_ := SL.at_ (SL.get1 HS.out); have hz3000054_0_1 := ((blk_cell hb_ 0).trans rfl : _ = some (.int .i64 4)); have hz3000054_1_1 := ((blk_cell hb_ 1).trans rfl : _ = some (.int .i64 a0_0)); have hz3000054_2_1 := ((blk_cell hb_ 2).trans rfl : _ = some (.int .i64 a0_1)); have hz3000054_3_1 := ((blk_cell hb_ 3).trans rfl : _ = some (.int .i64 t502)); have hz3000054_4_1 := ((blk_cell hb_ 4).trans rfl : _ = some (.int .i64 t503)); have hz3000054_5_1 := ((blk_cell hb_ 5).trans rfl : _ = some (.int .i64 a4)); have hz3000054_6_1 := ((blk_cell hb_ 6).trans rfl : _ = some (.int .i64 0)); clear hb_) | ((with_reducible refine gate_dst (N := 70) rfl ?_); (try (refine gate_guard (by rfl) ?_; dsimp only)); refine goesL_ (some 70) rfl rfl Try.func9 (by kernel_rfl) rfl #[.agg #[.int .i64 4, .int .i64 a0_0, .int .i64 a0_1, .int .i64 t502, .int .i64 t503, .int .i64 a4, .int .i64 0]] rfl (by (try simp only [List.map_toArray, List.map_cons, List.map_nil]); first | done | rfl | (simp; done)) ?_; (with_reducible refine (area_Right.calls _ _ _ _ _ _ _ _ _  Hc34.out).mono ?_); rintro e_ w40 ⟨rfl, hb_⟩; refine ⟨_, rfl, ?_⟩; replace HS := Aside0.mk (HS.out.below hb_); replace HK := Aside0.mk (HK.out.trans (Keep.below hb_)); (try clear hz3000054_0_1 hz3000054_1_1 hz3000054_2_1 hz3000054_3_1 hz3000054_4_1 hz3000054_5_1 hz3000054_6_1)))
          go_cut [113] (fun v113 wc => ∃ (kq : Nat) (x113_199 : Bool), v113 = .bool x113_199 ∧ Aside0 (barrowlaw32_AreaShapes.l199 kq a0_0 a0_1 a1_0 a1_1 a2_0 a2_1 a4 t501 t502 t503 x113_199 = some r) ∧ Aside0 (kq ≤ k) ∧ Aside0 (SL (cells g3000055 28 [.int .i64 5, .int .i64 a0_0, .int .i64 a0_1, .int .i64 a1_0, .int .i64 a1_1, .int .i64 0, .int .i64 0].toArray :: cells g3000054 28 [.int .i64 4, .int .i64 a0_0, .int .i64 a0_1, .int .i64 t502, .int .i64 t503, .int .i64 a4, .int .i64 0].toArray :: cells g3000053 28 [.int .i64 4, .int .i64 a0_0, .int .i64 a0_1, .int .i64 a1_0, .int .i64 a1_1, .int .i64 a4, .int .i64 0].toArray :: cells g3000052 28 [.int .i64 3, .int .i64 a1_0, .int .i64 a1_1, .int .i64 a0_0, .int .i64 a0_1, .int .i64 0, .int .i64 0].toArray :: cells g3000051 28 [.int .i64 3, .int .i64 a0_0, .int .i64 a0_1, .int .i64 a1_0, .int .i64 a1_1, .int .i64 0, .int .i64 0].toArray :: cells g3000050 28 [.int .i64 1, .int .i64 a0_0, .int .i64 a0_1, .int .i64 0, .int .i64 0, .int .i64 a3, .int .i64 0].toArray :: cells g3000049 28 [.int .i64 1, .int .i64 a0_0, .int .i64 a0_1, .int .i64 0, .int .i64 0, .int .i64 a4, .int .i64 0].toArray :: cells g3000048 28 [.int .i64 2, .int .i64 a0_0, .int .i64 a0_1, .int .i64 0, .int .i64 0, .int .i64 a3, .int .i64 a4].toArray :: cells g3000047 26 [.int .i64 a2_0, .int .i64 a2_1].toArray :: cells g3000046 26 [.int .i64 a1_0, .int .i64 a1_1].toArray :: cells g3000045 26 [.int .i64 a0_0, .int .i64 a0_1].toArray :: L) wc S) ∧ Aside0 (Keep S w wc))
          case first =>
            have H := H'.out
            clear H'
            by_cases c41 : a3 ≤ a4
            · rw [if_pos c41] at H
              have c41b0 : decide (a3 ≤ a4) = true := decide_eq_true c41
              clear c41
              replace H := Option.bind_eq_some_iff.1 H
              obtain ⟨t510, Hc420, H⟩ := H
              try dsimp only at H
              have Hc42 := Aside0.mk Hc420
              clear Hc420
              replace H := Option.bind_eq_some_iff.1 H
              obtain ⟨t511, Hc430, H⟩ := H
              try dsimp only at H
              have Hc43 := Aside0.mk Hc430
              clear Hc430
              by_cases c44 : t511 = true
              · subst c44
                rw [if_pos rfl] at H
                by_cases c45 : (t510 != true) = true
                · rw [if_pos c45] at H
                  have c45b0 : (t510 != true) = true := c45
                  (try (have c45b1 : decide (t510 = true) = false := by simpa using c45))
                  (try (have c45b2 : (t510 == true) = false := by simpa using c45))
                  (try (have c45b3 : ¬ (t510 = true) := by simpa using c45))
                  clear c45
                  exact absurd H (by simp)
                · rw [if_neg c45] at H
                  have c45b0 : (t510 != true) = false := by simpa using c45
                  (try (have c45b1 : decide (t510 = true) = true := by simpa using c45))
                  (try (have c45b2 : (t510 == true) = true := by simpa using c45))
                  clear c45
                  replace H := Option.bind_eq_some_iff.1 H
                  obtain ⟨t513, Hc460, H⟩ := H
                  try dsimp only at H
                  have Hc46 := Aside0.mk Hc460
                  clear Hc460
                  by_cases c47 : t513 = true
                  · subst c47
                    rw [if_pos rfl] at H
                    exact absurd H (by simp)
                  · replace c47 := Bool.eq_false_iff.mpr c47
                    subst c47
                    rw [if_neg (show ¬ (false = true) by decide)] at H
                    replace H := Option.bind_eq_some_iff.1 H
                    obtain ⟨t514, Hc480, H⟩ := H
                    try dsimp only at H
                    have Hc48 := Aside0.mk Hc480
                    clear Hc480
                    replace H := Option.bind_eq_some_iff.1 H
                    obtain ⟨t515, Hc490, H⟩ := H
                    try dsimp only at H
                    have Hc49 := Aside0.mk Hc490
                    clear Hc490
                    have H' := Aside0.mk H
                    clear H
                    try go_wp2
                    refine start_ (n := 36) (S := fun w' => w'.cell? ⟨g3000049, 0, none⟩ = some (.int .i64 1) ∧ w'.cell? ⟨g3000049, 1, none⟩ = some (.int .i64 a0_0) ∧ w'.cell? ⟨g3000049, 2, none⟩ = some (.int .i64 a0_1) ∧ w'.cell? ⟨g3000049, 3, none⟩ = some (.int .i64 0) ∧ w'.cell? ⟨g3000049, 4, none⟩ = some (.int .i64 0) ∧ w'.cell? ⟨g3000049, 5, none⟩ = some (.int .i64 a4) ∧ w'.cell? ⟨g3000049, 6, none⟩ = some (.int .i64 0) ∧ w'.cell? ⟨g3000047, 0, none⟩ = some (.int .i64 a2_0) ∧ w'.cell? ⟨g3000047, 1, none⟩ = some (.int .i64 a2_1) ∧ w'.cell? ⟨g3000048, 0, none⟩ = some (.int .i64 2) ∧ w'.cell? ⟨g3000048, 1, none⟩ = some (.int .i64 a0_0) ∧ w'.cell? ⟨g3000048, 2, none⟩ = some (.int .i64 a0_1) ∧ w'.cell? ⟨g3000048, 3, none⟩ = some (.int .i64 0) ∧ w'.cell? ⟨g3000048, 4, none⟩ = some (.int .i64 0) ∧ w'.cell? ⟨g3000048, 5, none⟩ = some (.int .i64 a3) ∧ w'.cell? ⟨g3000048, 6, none⟩ = some (.int .i64 a4) ∧ w'.cell? ⟨g3000050, 0, none⟩ = some (.int .i64 1) ∧ w'.cell? ⟨g3000050, 1, none⟩ = some (.int .i64 a0_0) ∧ w'.cell? ⟨g3000050, 2, none⟩ = some (.int .i64 a0_1) ∧ w'.cell? ⟨g3000050, 3, none⟩ = some (.int .i64 0) ∧ w'.cell? ⟨g3000050, 4, none⟩ = some (.int .i64 0) ∧ w'.cell? ⟨g3000050, 5, none⟩ = some (.int .i64 a3) ∧ w'.cell? ⟨g3000050, 6, none⟩ = some (.int .i64 0) ∧ w'.cell? ⟨g3000051, 0, none⟩ = some (.int .i64 3) ∧ w'.cell? ⟨g3000051, 1, none⟩ = some (.int .i64 a0_0) ∧ w'.cell? ⟨g3000051, 2, none⟩ = some (.int .i64 a0_1) ∧ w'.cell? ⟨g3000051, 3, none⟩ = some (.int .i64 a1_0) ∧ w'.cell? ⟨g3000051, 4, none⟩ = some (.int .i64 a1_1) ∧ w'.cell? ⟨g3000051, 5, none⟩ = some (.int .i64 0) ∧ w'.cell? ⟨g3000051, 6, none⟩ = some (.int .i64 0) ∧ w'.cell? ⟨g3000052, 0, none⟩ = some (.int .i64 3) ∧ w'.cell? ⟨g3000052, 1, none⟩ = some (.int .i64 a1_0) ∧ w'.cell? ⟨g3000052, 2, none⟩ = some (.int .i64 a1_1) ∧ w'.cell? ⟨g3000052, 3, none⟩ = some (.int .i64 a0_0) ∧ w'.cell? ⟨g3000052, 4, none⟩ = some (.int .i64 a0_1) ∧ w'.cell? ⟨g3000052, 5, none⟩ = some (.int .i64 0) ∧ w'.cell? ⟨g3000052, 6, none⟩ = some (.int .i64 0)) (ds := []) #[false, false, false, false, false, false, false, false, false, false, false, false, false, false, false, false, false, false, false, false, false, false, false, false, false, false, false, false, false, false, false, false, false, false, false, false] (by kernel_rfl) rfl rfl ⟨(((blk_cell (SL.at_ (SL.get6 HS.out)) 0).trans rfl)), (((blk_cell (SL.at_ (SL.get6 HS.out)) 1).trans rfl)), (((blk_cell (SL.at_ (SL.get6 HS.out)) 2).trans rfl)), (((blk_cell (SL.at_ (SL.get6 HS.out)) 3).trans rfl)), (((blk_cell (SL.at_ (SL.get6 HS.out)) 4).trans rfl)), (((blk_cell (SL.at_ (SL.get6 HS.out)) 5).trans rfl)), (((blk_cell (SL.at_ (SL.get6 HS.out)) 6).trans rfl)), (((blk_cell (SL.at_ (SL.get8 HS.out)) 0).trans rfl)), (((blk_cell (SL.at_ (SL.get8 HS.out)) 1).trans rfl)), (((blk_cell (SL.at_ (SL.get7 HS.out)) 0).trans rfl)), (((blk_cell (SL.at_ (SL.get7 HS.out)) 1).trans rfl)), (((blk_cell (SL.at_ (SL.get7 HS.out)) 2).trans rfl)), (((blk_cell (SL.at_ (SL.get7 HS.out)) 3).trans rfl)), (((blk_cell (SL.at_ (SL.get7 HS.out)) 4).trans rfl)), (((blk_cell (SL.at_ (SL.get7 HS.out)) 5).trans rfl)), (((blk_cell (SL.at_ (SL.get7 HS.out)) 6).trans rfl)), (((blk_cell (SL.at_ (SL.get5 HS.out)) 0).trans rfl)), (((blk_cell (SL.at_ (SL.get5 HS.out)) 1).trans rfl)), (((blk_cell (SL.at_ (SL.get5 HS.out)) 2).trans rfl)), (((blk_cell (SL.at_ (SL.get5 HS.out)) 3).trans rfl)), (((blk_cell (SL.at_ (SL.get5 HS.out)) 4).trans rfl)), (((blk_cell (SL.at_ (SL.get5 HS.out)) 5).trans rfl)), (((blk_cell (SL.at_ (SL.get5 HS.out)) 6).trans rfl)), (((blk_cell (SL.at_ (SL.get4 HS.out)) 0).trans rfl)), (((blk_cell (SL.at_ (SL.get4 HS.out)) 1).trans rfl)), (((blk_cell (SL.at_ (SL.get4 HS.out)) 2).trans rfl)), (((blk_cell (SL.at_ (SL.get4 HS.out)) 3).trans rfl)), (((blk_cell (SL.at_ (SL.get4 HS.out)) 4).trans rfl)), (((blk_cell (SL.at_ (SL.get4 HS.out)) 5).trans rfl)), (((blk_cell (SL.at_ (SL.get4 HS.out)) 6).trans rfl)), (((blk_cell (SL.at_ (SL.get3 HS.out)) 0).trans rfl)), (((blk_cell (SL.at_ (SL.get3 HS.out)) 1).trans rfl)), (((blk_cell (SL.at_ (SL.get3 HS.out)) 2).trans rfl)), (((blk_cell (SL.at_ (SL.get3 HS.out)) 3).trans rfl)), (((blk_cell (SL.at_ (SL.get3 HS.out)) 4).trans rfl)), (((blk_cell (SL.at_ (SL.get3 HS.out)) 5).trans rfl)), (((blk_cell (SL.at_ (SL.get3 HS.out)) 6).trans rfl))⟩ (fun hHeld => ?_); refine with_tabW barrowlaw32_AreaShapes.tab12 barrowlaw32_AreaShapes.bits12 (fun HT_ HW_ => ?_)
                    replace HK := Aside0.mk (Keep.drew HK.out)
                    replace HS := Aside0.mk (SL.drew HS.out)
                    refine pure_ (i := 0) (N := some 78) (v := ?_) (a' := ?_) #[true, false, false, false, false, false, false, false, false, false, false, false, false, false, false, false, false, false, false, false, false, false, false, false, false, false, false, false, false, false, false, false, false, false, false, false] rfl rfl (any_of HT_.out (by kernel_rfl)) (fun _ _ _ h => h) (Or.inl ⟨by rfl, ?_⟩) ?_ ?_; rotate_left; · (intro w'; go_simp; with_reducible rfl)
                    rotate_left; · (simp only [Act.put, sT, sZ, sS, i64_w, i32_w]; rfl)
                    refine pure_ (i := 1) (N := some 79) (v := ?_) (a' := ?_) #[true, true, false, false, false, false, false, false, false, false, false, false, false, false, false, false, false, false, false, false, false, false, false, false, false, false, false, false, false, false, false, false, false, false, false, false] rfl rfl (any_of HT_.out (by kernel_rfl)) (fun _ _ _ h => h) (Or.inl ⟨by rfl, ?_⟩) ?_ ?_; rotate_left; · (intro w'; go_simp; with_reducible rfl)
                    rotate_left; · (simp only [Act.put, sT, sZ, sS, i64_w, i32_w]; rfl)
                    refine pure_ (i := 2) (N := some 80) (v := ?_) (a' := ?_) #[true, true, true, false, false, false, false, false, false, false, false, false, false, false, false, false, false, false, false, false, false, false, false, false, false, false, false, false, false, false, false, false, false, false, false, false] rfl rfl (any_of HT_.out (by kernel_rfl)) (fun _ _ _ h => h) (Or.inl ⟨by rfl, ?_⟩) ?_ ?_; rotate_left; · (intro w'; go_simp; with_reducible rfl)
                    rotate_left; · (simp only [Act.put, sT, sZ, sS, i64_w, i32_w]; rfl)
                    refine pure_ (i := 3) (N := some 81) (v := ?_) (a' := ?_) #[true, true, true, true, false, false, false, false, false, false, false, false, false, false, false, false, false, false, false, false, false, false, false, false, false, false, false, false, false, false, false, false, false, false, false, false] rfl rfl (any_of HT_.out (by kernel_rfl)) (fun _ _ _ h => h) (Or.inl ⟨by rfl, ?_⟩) ?_ ?_; rotate_left; · (intro w'; go_simp; with_reducible rfl)
                    rotate_left; · (simp only [Act.put, sT, sZ, sS, i64_w, i32_w]; rfl)
                    refine take_ (i := 4) (N := some 82) (v := ?_) (a' := ?_) #[true, true, true, true, true, false, false, false, false, false, false, false, false, false, false, false, false, false, false, false, false, false, false, false, false, false, false, false, false, false, false, false, false, false, false, false] rfl rfl (take_ofW HT_.out HW_.out (by kernel_rfl)) (fun _ _ _ h => h) (Or.inl ⟨by rfl, ?_⟩) hHeld ?_ ?_; rotate_left
                    · rintro w' ⟨s0, s1, s2, s3, s4, s5, s6, s7, s8, s9, s10, s11, s12, s13, s14, s15, s16, s17, s18, s19, s20, s21, s22, s23, s24, s25, s26, s27, s28, s29, s30, s31, s32, s33, s34, s35, s36⟩
                      go_simp
                      with_reducible rfl
                    rotate_left; · (simp only [Act.put, sT, sZ, sS, i64_w, i32_w]; rfl)
                    refine take_ (i := 5) (N := some 83) (v := ?_) (a' := ?_) #[true, true, true, true, true, true, false, false, false, false, false, false, false, false, false, false, false, false, false, false, false, false, false, false, false, false, false, false, false, false, false, false, false, false, false, false] rfl rfl (take_ofW HT_.out HW_.out (by kernel_rfl)) (fun _ _ _ h => h) (Or.inl ⟨by rfl, ?_⟩) hHeld ?_ ?_; rotate_left
                    · rintro w' ⟨s0, s1, s2, s3, s4, s5, s6, s7, s8, s9, s10, s11, s12, s13, s14, s15, s16, s17, s18, s19, s20, s21, s22, s23, s24, s25, s26, s27, s28, s29, s30, s31, s32, s33, s34, s35, s36⟩
                      go_simp
                      with_reducible rfl
                    rotate_left; · (simp only [Act.put, sT, sZ, sS, i64_w, i32_w]; rfl)
                    refine take_ (i := 7) (N := some 85) (v := ?_) (a' := ?_) #[true, true, true, true, true, true, false, true, false, false, false, false, false, false, false, false, false, false, false, false, false, false, false, false, false, false, false, false, false, false, false, false, false, false, false, false] rfl rfl (take_ofW HT_.out HW_.out (by kernel_rfl)) (fun _ _ _ h => h) (Or.inl ⟨by rfl, ?_⟩) hHeld ?_ ?_; rotate_left
                    · rintro w' ⟨s0, s1, s2, s3, s4, s5, s6, s7, s8, s9, s10, s11, s12, s13, s14, s15, s16, s17, s18, s19, s20, s21, s22, s23, s24, s25, s26, s27, s28, s29, s30, s31, s32, s33, s34, s35, s36⟩
                      go_simp
                      with_reducible rfl
                    rotate_left; · (simp only [Act.put, sT, sZ, sS, i64_w, i32_w]; rfl)
                    refine take_ (i := 8) (N := some 86) (v := ?_) (a' := ?_) #[true, true, true, true, true, true, false, true, true, false, false, false, false, false, false, false, false, false, false, false, false, false, false, false, false, false, false, false, false, false, false, false, false, false, false, false] rfl rfl (take_ofW HT_.out HW_.out (by kernel_rfl)) (fun _ _ _ h => h) (Or.inl ⟨by rfl, ?_⟩) hHeld ?_ ?_; rotate_left
                    · rintro w' ⟨s0, s1, s2, s3, s4, s5, s6, s7, s8, s9, s10, s11, s12, s13, s14, s15, s16, s17, s18, s19, s20, s21, s22, s23, s24, s25, s26, s27, s28, s29, s30, s31, s32, s33, s34, s35, s36⟩
                      go_simp
                      with_reducible rfl
                    rotate_left; · (simp only [Act.put, sT, sZ, sS, i64_w, i32_w]; rfl)
                    refine one_ (i := 6) (N := some 84) #[true, true, true, true, true, true, true, true, true, false, false, false, false, false, false, false, false, false, false, false, false, false, false, false, false, false, false, false, false, false, false, false, false, false, false, false] rfl rfl (one_of HT_.out (by kernel_rfl)) (by decide) (fun K hK => ?_)
                    refine goes_ Try.func11 (by kernel_rfl) rfl #[.agg #[.int .i64 1, .int .i64 a0_0, .int .i64 a0_1, .int .i64 0, .int .i64 0, .int .i64 a4, .int .i64 0], .agg #[.int .i64 a2_0, .int .i64 a2_1]] (by rfl) rfl rfl (by (try simp only [List.map_toArray, List.map_cons, List.map_nil]); first | done | rfl | (simp; done)) ?_
                    (with_reducible refine (area_In.calls k _ _ _ _ _ _ _ _ _ _ _  Hc42.out).mono ?_)
                    rintro e_ w50 ⟨rfl, hb_⟩
                    refine ⟨_, rfl, ?_⟩
                    replace HS := Aside0.mk (HS.out.below hb_)
                    replace HK := Aside0.mk (HK.out.trans (Keep.below hb_))
                    refine hK.out _ _ ⟨(((blk_cell (SL.at_ (SL.get6 HS.out)) 0).trans rfl)), (((blk_cell (SL.at_ (SL.get6 HS.out)) 1).trans rfl)), (((blk_cell (SL.at_ (SL.get6 HS.out)) 2).trans rfl)), (((blk_cell (SL.at_ (SL.get6 HS.out)) 3).trans rfl)), (((blk_cell (SL.at_ (SL.get6 HS.out)) 4).trans rfl)), (((blk_cell (SL.at_ (SL.get6 HS.out)) 5).trans rfl)), (((blk_cell (SL.at_ (SL.get6 HS.out)) 6).trans rfl)), (((blk_cell (SL.at_ (SL.get8 HS.out)) 0).trans rfl)), (((blk_cell (SL.at_ (SL.get8 HS.out)) 1).trans rfl)), (((blk_cell (SL.at_ (SL.get7 HS.out)) 0).trans rfl)), (((blk_cell (SL.at_ (SL.get7 HS.out)) 1).trans rfl)), (((blk_cell (SL.at_ (SL.get7 HS.out)) 2).trans rfl)), (((blk_cell (SL.at_ (SL.get7 HS.out)) 3).trans rfl)), (((blk_cell (SL.at_ (SL.get7 HS.out)) 4).trans rfl)), (((blk_cell (SL.at_ (SL.get7 HS.out)) 5).trans rfl)), (((blk_cell (SL.at_ (SL.get7 HS.out)) 6).trans rfl)), (((blk_cell (SL.at_ (SL.get5 HS.out)) 0).trans rfl)), (((blk_cell (SL.at_ (SL.get5 HS.out)) 1).trans rfl)), (((blk_cell (SL.at_ (SL.get5 HS.out)) 2).trans rfl)), (((blk_cell (SL.at_ (SL.get5 HS.out)) 3).trans rfl)), (((blk_cell (SL.at_ (SL.get5 HS.out)) 4).trans rfl)), (((blk_cell (SL.at_ (SL.get5 HS.out)) 5).trans rfl)), (((blk_cell (SL.at_ (SL.get5 HS.out)) 6).trans rfl)), (((blk_cell (SL.at_ (SL.get4 HS.out)) 0).trans rfl)), (((blk_cell (SL.at_ (SL.get4 HS.out)) 1).trans rfl)), (((blk_cell (SL.at_ (SL.get4 HS.out)) 2).trans rfl)), (((blk_cell (SL.at_ (SL.get4 HS.out)) 3).trans rfl)), (((blk_cell (SL.at_ (SL.get4 HS.out)) 4).trans rfl)), (((blk_cell (SL.at_ (SL.get4 HS.out)) 5).trans rfl)), (((blk_cell (SL.at_ (SL.get4 HS.out)) 6).trans rfl)), (((blk_cell (SL.at_ (SL.get3 HS.out)) 0).trans rfl)), (((blk_cell (SL.at_ (SL.get3 HS.out)) 1).trans rfl)), (((blk_cell (SL.at_ (SL.get3 HS.out)) 2).trans rfl)), (((blk_cell (SL.at_ (SL.get3 HS.out)) 3).trans rfl)), (((blk_cell (SL.at_ (SL.get3 HS.out)) 4).trans rfl)), (((blk_cell (SL.at_ (SL.get3 HS.out)) 5).trans rfl)), (((blk_cell (SL.at_ (SL.get3 HS.out)) 6).trans rfl))⟩ (fun hHeld => ?_)
                    clear hK K
                    refine norm_ (a' := ?_) ?_ ?_; rotate_left
                    · show Act.put _ (some 84) _ = _
                      simp only [Act.put, sT, sZ, sS, i64_w, i32_w]
                      rfl
                    refine one_ (i := 9) (N := some 87) #[true, true, true, true, true, true, true, true, true, true, false, false, false, false, false, false, false, false, false, false, false, false, false, false, false, false, false, false, false, false, false, false, false, false, false, false] rfl rfl (one_of HT_.out (by kernel_rfl)) (by decide) (fun K hK => ?_)
                    refine goes_ Try.func11 (by kernel_rfl) rfl #[.agg #[.int .i64 2, .int .i64 a0_0, .int .i64 a0_1, .int .i64 0, .int .i64 0, .int .i64 a3, .int .i64 a4], .agg #[.int .i64 a2_0, .int .i64 a2_1]] (by rfl) rfl rfl (by (try simp only [List.map_toArray, List.map_cons, List.map_nil]); first | done | rfl | (simp; done)) ?_
                    (with_reducible refine (area_In.calls k _ _ _ _ _ _ _ _ _ _ _  Hc43.out).mono ?_)
                    rintro e_ w51 ⟨rfl, hb_⟩
                    refine ⟨_, rfl, ?_⟩
                    replace HS := Aside0.mk (HS.out.below hb_)
                    replace HK := Aside0.mk (HK.out.trans (Keep.below hb_))
                    refine hK.out _ _ ⟨(((blk_cell (SL.at_ (SL.get6 HS.out)) 0).trans rfl)), (((blk_cell (SL.at_ (SL.get6 HS.out)) 1).trans rfl)), (((blk_cell (SL.at_ (SL.get6 HS.out)) 2).trans rfl)), (((blk_cell (SL.at_ (SL.get6 HS.out)) 3).trans rfl)), (((blk_cell (SL.at_ (SL.get6 HS.out)) 4).trans rfl)), (((blk_cell (SL.at_ (SL.get6 HS.out)) 5).trans rfl)), (((blk_cell (SL.at_ (SL.get6 HS.out)) 6).trans rfl)), (((blk_cell (SL.at_ (SL.get8 HS.out)) 0).trans rfl)), (((blk_cell (SL.at_ (SL.get8 HS.out)) 1).trans rfl)), (((blk_cell (SL.at_ (SL.get7 HS.out)) 0).trans rfl)), (((blk_cell (SL.at_ (SL.get7 HS.out)) 1).trans rfl)), (((blk_cell (SL.at_ (SL.get7 HS.out)) 2).trans rfl)), (((blk_cell (SL.at_ (SL.get7 HS.out)) 3).trans rfl)), (((blk_cell (SL.at_ (SL.get7 HS.out)) 4).trans rfl)), (((blk_cell (SL.at_ (SL.get7 HS.out)) 5).trans rfl)), (((blk_cell (SL.at_ (SL.get7 HS.out)) 6).trans rfl)), (((blk_cell (SL.at_ (SL.get5 HS.out)) 0).trans rfl)), (((blk_cell (SL.at_ (SL.get5 HS.out)) 1).trans rfl)), (((blk_cell (SL.at_ (SL.get5 HS.out)) 2).trans rfl)), (((blk_cell (SL.at_ (SL.get5 HS.out)) 3).trans rfl)), (((blk_cell (SL.at_ (SL.get5 HS.out)) 4).trans rfl)), (((blk_cell (SL.at_ (SL.get5 HS.out)) 5).trans rfl)), (((blk_cell (SL.at_ (SL.get5 HS.out)) 6).trans rfl)), (((blk_cell (SL.at_ (SL.get4 HS.out)) 0).trans rfl)), (((blk_cell (SL.at_ (SL.get4 HS.out)) 1).trans rfl)), (((blk_cell (SL.at_ (SL.get4 HS.out)) 2).trans rfl)), (((blk_cell (SL.at_ (SL.get4 HS.out)) 3).trans rfl)), (((blk_cell (SL.at_ (SL.get4 HS.out)) 4).trans rfl)), (((blk_cell (SL.at_ (SL.get4 HS.out)) 5).trans rfl)), (((blk_cell (SL.at_ (SL.get4 HS.out)) 6).trans rfl)), (((blk_cell (SL.at_ (SL.get3 HS.out)) 0).trans rfl)), (((blk_cell (SL.at_ (SL.get3 HS.out)) 1).trans rfl)), (((blk_cell (SL.at_ (SL.get3 HS.out)) 2).trans rfl)), (((blk_cell (SL.at_ (SL.get3 HS.out)) 3).trans rfl)), (((blk_cell (SL.at_ (SL.get3 HS.out)) 4).trans rfl)), (((blk_cell (SL.at_ (SL.get3 HS.out)) 5).trans rfl)), (((blk_cell (SL.at_ (SL.get3 HS.out)) 6).trans rfl))⟩ (fun hHeld => ?_)
                    clear hK K
                    refine norm_ (a' := ?_) ?_ ?_; rotate_left
                    · show Act.put _ (some 87) _ = _
                      simp only [Act.put, sT, sZ, sS, i64_w, i32_w]
                      rfl
                    refine pure_ (i := 10) (N := some 88) (v := ?_) (a' := ?_) #[true, true, true, true, true, true, true, true, true, true, true, false, false, false, false, false, false, false, false, false, false, false, false, false, false, false, false, false, false, false, false, false, false, false, false, false] rfl rfl (any_of HT_.out (by kernel_rfl)) (fun _ _ _ h => h) (Or.inl ⟨by rfl, ?_⟩) ?_ ?_; rotate_left; · (intro w'; go_simp; with_reducible rfl)
                    rotate_left; · (simp only [Act.put, sT, sZ, sS, i64_w, i32_w]; rfl)
                    refine pure_ (i := 11) (N := some 89) (v := undef) (a' := ?_) #[true, true, true, true, true, true, true, true, true, true, true, true, false, false, false, false, false, false, false, false, false, false, false, false, false, false, false, false, false, false, false, false, false, false, false, false] rfl rfl (any_of HT_.out (by kernel_rfl)) (fun _ _ _ h => h) (Or.inr ⟨by rfl, rfl⟩) ?_ ?_; rotate_left; · (simp only [Act.put, sT, sZ, sS, i64_w, i32_w]; rfl)
                    refine pure_ (i := 12) (N := some 90) (v := undef) (a' := ?_) #[true, true, true, true, true, true, true, true, true, true, true, true, true, false, false, false, false, false, false, false, false, false, false, false, false, false, false, false, false, false, false, false, false, false, false, false] rfl rfl (any_of HT_.out (by kernel_rfl)) (fun _ _ _ h => h) (Or.inr ⟨by rfl, rfl⟩) ?_ ?_; rotate_left; · (simp only [Act.put, sT, sZ, sS, i64_w, i32_w]; rfl)
                    refine pure_ (i := 13) (N := some 91) (v := undef) (a' := ?_) #[true, true, true, true, true, true, true, true, true, true, true, true, true, true, false, false, false, false, false, false, false, false, false, false, false, false, false, false, false, false, false, false, false, false, false, false] rfl rfl (any_of HT_.out (by kernel_rfl)) (fun _ _ _ h => h) (Or.inr ⟨by rfl, rfl⟩) ?_ ?_; rotate_left; · (simp only [Act.put, sT, sZ, sS, i64_w, i32_w]; rfl)
                    refine pure_ (i := 14) (N := some 92) (v := ?_) (a' := ?_) #[true, true, true, true, true, true, true, true, true, true, true, true, true, true, true, false, false, false, false, false, false, false, false, false, false, false, false, false, false, false, false, false, false, false, false, false] rfl rfl (any_of HT_.out (by kernel_rfl)) (fun _ _ _ h => h) (Or.inl ⟨by rfl, ?_⟩) ?_ ?_; rotate_left; · (intro w'; go_simp; with_reducible rfl)
                    rotate_left; · (simp only [Act.put, sT, sZ, sS, i64_w, i32_w]; rfl)
                    refine pure_ (i := 15) (N := some 93) (v := ?_) (a' := ?_) #[true, true, true, true, true, true, true, true, true, true, true, true, true, true, true, true, false, false, false, false, false, false, false, false, false, false, false, false, false, false, false, false, false, false, false, false] rfl rfl (any_of HT_.out (by kernel_rfl)) (fun _ _ _ h => h) (Or.inl ⟨by rfl, ?_⟩) ?_ ?_; rotate_left; · (intro w'; go_simp; with_reducible rfl)
                    rotate_left; · (simp only [Act.put, sT, sZ, sS, i64_w, i32_w]; rfl)
                    refine pure_ (i := 16) (N := some 94) (v := ?_) (a' := ?_) #[true, true, true, true, true, true, true, true, true, true, true, true, true, true, true, true, true, false, false, false, false, false, false, false, false, false, false, false, false, false, false, false, false, false, false, false] rfl rfl (any_of HT_.out (by kernel_rfl)) (fun _ _ _ h => h) (Or.inl ⟨by rfl, ?_⟩) ?_ ?_; rotate_left; · (intro w'; go_simp; with_reducible rfl)
                    rotate_left; · (simp only [Act.put, sT, sZ, sS, i64_w, i32_w]; rfl)
                    refine pure_ (i := 17) (N := some 95) (v := ?_) (a' := ?_) #[true, true, true, true, true, true, true, true, true, true, true, true, true, true, true, true, true, true, false, false, false, false, false, false, false, false, false, false, false, false, false, false, false, false, false, false] rfl rfl (any_of HT_.out (by kernel_rfl)) (fun _ _ _ h => h) (Or.inl ⟨by rfl, ?_⟩) ?_ ?_; rotate_left; · (intro w'; go_simp; with_reducible rfl)
                    rotate_left; · (simp only [Act.put, sT, sZ, sS, i64_w, i32_w]; rfl)
                    refine take_ (i := 18) (N := some 96) (v := ?_) (a' := ?_) #[true, true, true, true, true, true, true, true, true, true, true, true, true, true, true, true, true, true, true, false, false, false, false, false, false, false, false, false, false, false, false, false, false, false, false, false] rfl rfl (take_ofW HT_.out HW_.out (by kernel_rfl)) (fun _ _ _ h => h) (Or.inl ⟨by rfl, ?_⟩) hHeld ?_ ?_; rotate_left
                    · rintro w' ⟨s0, s1, s2, s3, s4, s5, s6, s7, s8, s9, s10, s11, s12, s13, s14, s15, s16, s17, s18, s19, s20, s21, s22, s23, s24, s25, s26, s27, s28, s29, s30, s31, s32, s33, s34, s35, s36⟩
                      go_simp
                      with_reducible rfl
                    rotate_left; · (simp only [Act.put, sT, sZ, sS, i64_w, i32_w]; rfl)
                    refine take_ (i := 19) (N := some 97) (v := ?_) (a' := ?_) #[true, true, true, true, true, true, true, true, true, true, true, true, true, true, true, true, true, true, true, true, false, false, false, false, false, false, false, false, false, false, false, false, false, false, false, false] rfl rfl (take_ofW HT_.out HW_.out (by kernel_rfl)) (fun _ _ _ h => h) (Or.inl ⟨by rfl, ?_⟩) hHeld ?_ ?_; rotate_left
                    · rintro w' ⟨s0, s1, s2, s3, s4, s5, s6, s7, s8, s9, s10, s11, s12, s13, s14, s15, s16, s17, s18, s19, s20, s21, s22, s23, s24, s25, s26, s27, s28, s29, s30, s31, s32, s33, s34, s35, s36⟩
                      go_simp
                      with_reducible rfl
                    rotate_left; · (simp only [Act.put, sT, sZ, sS, i64_w, i32_w]; rfl)
                    refine one_ (i := 20) (N := some 98) #[true, true, true, true, true, true, true, true, true, true, true, true, true, true, true, true, true, true, true, true, true, false, false, false, false, false, false, false, false, false, false, false, false, false, false, false] rfl rfl (one_of HT_.out (by kernel_rfl)) (by decide) (fun K hK => ?_)
                    refine goes_ Try.func11 (by kernel_rfl) rfl #[.agg #[.int .i64 2, .int .i64 a0_0, .int .i64 a0_1, .int .i64 0, .int .i64 0, .int .i64 a3, .int .i64 a4], .agg #[.int .i64 a2_0, .int .i64 a2_1]] (by rfl) rfl rfl (by (try simp only [List.map_toArray, List.map_cons, List.map_nil]); first | done | rfl | (simp; done)) ?_
                    (with_reducible refine (area_In.calls k _ _ _ _ _ _ _ _ _ _ _  Hc43.out).mono ?_)
                    rintro e_ w52 ⟨rfl, hb_⟩
                    refine ⟨_, rfl, ?_⟩
                    replace HS := Aside0.mk (HS.out.below hb_)
                    replace HK := Aside0.mk (HK.out.trans (Keep.below hb_))
                    refine hK.out _ _ ⟨(((blk_cell (SL.at_ (SL.get6 HS.out)) 0).trans rfl)), (((blk_cell (SL.at_ (SL.get6 HS.out)) 1).trans rfl)), (((blk_cell (SL.at_ (SL.get6 HS.out)) 2).trans rfl)), (((blk_cell (SL.at_ (SL.get6 HS.out)) 3).trans rfl)), (((blk_cell (SL.at_ (SL.get6 HS.out)) 4).trans rfl)), (((blk_cell (SL.at_ (SL.get6 HS.out)) 5).trans rfl)), (((blk_cell (SL.at_ (SL.get6 HS.out)) 6).trans rfl)), (((blk_cell (SL.at_ (SL.get8 HS.out)) 0).trans rfl)), (((blk_cell (SL.at_ (SL.get8 HS.out)) 1).trans rfl)), (((blk_cell (SL.at_ (SL.get7 HS.out)) 0).trans rfl)), (((blk_cell (SL.at_ (SL.get7 HS.out)) 1).trans rfl)), (((blk_cell (SL.at_ (SL.get7 HS.out)) 2).trans rfl)), (((blk_cell (SL.at_ (SL.get7 HS.out)) 3).trans rfl)), (((blk_cell (SL.at_ (SL.get7 HS.out)) 4).trans rfl)), (((blk_cell (SL.at_ (SL.get7 HS.out)) 5).trans rfl)), (((blk_cell (SL.at_ (SL.get7 HS.out)) 6).trans rfl)), (((blk_cell (SL.at_ (SL.get5 HS.out)) 0).trans rfl)), (((blk_cell (SL.at_ (SL.get5 HS.out)) 1).trans rfl)), (((blk_cell (SL.at_ (SL.get5 HS.out)) 2).trans rfl)), (((blk_cell (SL.at_ (SL.get5 HS.out)) 3).trans rfl)), (((blk_cell (SL.at_ (SL.get5 HS.out)) 4).trans rfl)), (((blk_cell (SL.at_ (SL.get5 HS.out)) 5).trans rfl)), (((blk_cell (SL.at_ (SL.get5 HS.out)) 6).trans rfl)), (((blk_cell (SL.at_ (SL.get4 HS.out)) 0).trans rfl)), (((blk_cell (SL.at_ (SL.get4 HS.out)) 1).trans rfl)), (((blk_cell (SL.at_ (SL.get4 HS.out)) 2).trans rfl)), (((blk_cell (SL.at_ (SL.get4 HS.out)) 3).trans rfl)), (((blk_cell (SL.at_ (SL.get4 HS.out)) 4).trans rfl)), (((blk_cell (SL.at_ (SL.get4 HS.out)) 5).trans rfl)), (((blk_cell (SL.at_ (SL.get4 HS.out)) 6).trans rfl)), (((blk_cell (SL.at_ (SL.get3 HS.out)) 0).trans rfl)), (((blk_cell (SL.at_ (SL.get3 HS.out)) 1).trans rfl)), (((blk_cell (SL.at_ (SL.get3 HS.out)) 2).trans rfl)), (((blk_cell (SL.at_ (SL.get3 HS.out)) 3).trans rfl)), (((blk_cell (SL.at_ (SL.get3 HS.out)) 4).trans rfl)), (((blk_cell (SL.at_ (SL.get3 HS.out)) 5).trans rfl)), (((blk_cell (SL.at_ (SL.get3 HS.out)) 6).trans rfl))⟩ (fun hHeld => ?_)
                    clear hK K
                    refine norm_ (a' := ?_) ?_ ?_; rotate_left
                    · show Act.put _ (some 98) _ = _
                      simp only [Act.put, sT, sZ, sS, i64_w, i32_w]
                      rfl
                    refine pure_ (i := 21) (N := some 99) (v := ?_) (a' := ?_) #[true, true, true, true, true, true, true, true, true, true, true, true, true, true, true, true, true, true, true, true, true, true, false, false, false, false, false, false, false, false, false, false, false, false, false, false] rfl rfl (any_of HT_.out (by kernel_rfl)) (fun _ _ _ h => h) (Or.inl ⟨by rfl, ?_⟩) ?_ ?_; rotate_left; · (intro w'; go_simp; with_reducible rfl)
                    rotate_left; · (simp only [Act.put, sT, sZ, sS, i64_w, i32_w]; rfl)
                    refine take_ (i := 22) (N := some 100) (v := ?_) (a' := ?_) #[true, true, true, true, true, true, true, true, true, true, true, true, true, true, true, true, true, true, true, true, true, true, true, false, false, false, false, false, false, false, false, false, false, false, false, false] rfl rfl (take_ofW HT_.out HW_.out (by kernel_rfl)) (fun _ _ _ h => h) (Or.inl ⟨by rfl, ?_⟩) hHeld ?_ ?_; rotate_left
                    · rintro w' ⟨s0, s1, s2, s3, s4, s5, s6, s7, s8, s9, s10, s11, s12, s13, s14, s15, s16, s17, s18, s19, s20, s21, s22, s23, s24, s25, s26, s27, s28, s29, s30, s31, s32, s33, s34, s35, s36⟩
                      go_simp
                      with_reducible rfl
                    rotate_left; · (simp only [Act.put, sT, sZ, sS, i64_w, i32_w]; rfl)
                    refine take_ (i := 23) (N := some 101) (v := ?_) (a' := ?_) #[true, true, true, true, true, true, true, true, true, true, true, true, true, true, true, true, true, true, true, true, true, true, true, true, false, false, false, false, false, false, false, false, false, false, false, false] rfl rfl (take_ofW HT_.out HW_.out (by kernel_rfl)) (fun _ _ _ h => h) (Or.inl ⟨by rfl, ?_⟩) hHeld ?_ ?_; rotate_left
                    · rintro w' ⟨s0, s1, s2, s3, s4, s5, s6, s7, s8, s9, s10, s11, s12, s13, s14, s15, s16, s17, s18, s19, s20, s21, s22, s23, s24, s25, s26, s27, s28, s29, s30, s31, s32, s33, s34, s35, s36⟩
                      go_simp
                      with_reducible rfl
                    rotate_left; · (simp only [Act.put, sT, sZ, sS, i64_w, i32_w]; rfl)
                    refine one_ (i := 24) (N := some 102) #[true, true, true, true, true, true, true, true, true, true, true, true, true, true, true, true, true, true, true, true, true, true, true, true, true, false, false, false, false, false, false, false, false, false, false, false] rfl rfl (one_of HT_.out (by kernel_rfl)) (by decide) (fun K hK => ?_)
                    refine goes_ Try.func11 (by kernel_rfl) rfl #[.agg #[.int .i64 1, .int .i64 a0_0, .int .i64 a0_1, .int .i64 0, .int .i64 0, .int .i64 a3, .int .i64 0], .agg #[.int .i64 a2_0, .int .i64 a2_1]] (by rfl) rfl rfl (by (try simp only [List.map_toArray, List.map_cons, List.map_nil]); first | done | rfl | (simp; done)) ?_
                    (with_reducible refine (area_In.calls k _ _ _ _ _ _ _ _ _ _ _  Hc46.out).mono ?_)
                    rintro e_ w53 ⟨rfl, hb_⟩
                    refine ⟨_, rfl, ?_⟩
                    replace HS := Aside0.mk (HS.out.below hb_)
                    replace HK := Aside0.mk (HK.out.trans (Keep.below hb_))
                    refine hK.out _ _ ⟨(((blk_cell (SL.at_ (SL.get6 HS.out)) 0).trans rfl)), (((blk_cell (SL.at_ (SL.get6 HS.out)) 1).trans rfl)), (((blk_cell (SL.at_ (SL.get6 HS.out)) 2).trans rfl)), (((blk_cell (SL.at_ (SL.get6 HS.out)) 3).trans rfl)), (((blk_cell (SL.at_ (SL.get6 HS.out)) 4).trans rfl)), (((blk_cell (SL.at_ (SL.get6 HS.out)) 5).trans rfl)), (((blk_cell (SL.at_ (SL.get6 HS.out)) 6).trans rfl)), (((blk_cell (SL.at_ (SL.get8 HS.out)) 0).trans rfl)), (((blk_cell (SL.at_ (SL.get8 HS.out)) 1).trans rfl)), (((blk_cell (SL.at_ (SL.get7 HS.out)) 0).trans rfl)), (((blk_cell (SL.at_ (SL.get7 HS.out)) 1).trans rfl)), (((blk_cell (SL.at_ (SL.get7 HS.out)) 2).trans rfl)), (((blk_cell (SL.at_ (SL.get7 HS.out)) 3).trans rfl)), (((blk_cell (SL.at_ (SL.get7 HS.out)) 4).trans rfl)), (((blk_cell (SL.at_ (SL.get7 HS.out)) 5).trans rfl)), (((blk_cell (SL.at_ (SL.get7 HS.out)) 6).trans rfl)), (((blk_cell (SL.at_ (SL.get5 HS.out)) 0).trans rfl)), (((blk_cell (SL.at_ (SL.get5 HS.out)) 1).trans rfl)), (((blk_cell (SL.at_ (SL.get5 HS.out)) 2).trans rfl)), (((blk_cell (SL.at_ (SL.get5 HS.out)) 3).trans rfl)), (((blk_cell (SL.at_ (SL.get5 HS.out)) 4).trans rfl)), (((blk_cell (SL.at_ (SL.get5 HS.out)) 5).trans rfl)), (((blk_cell (SL.at_ (SL.get5 HS.out)) 6).trans rfl)), (((blk_cell (SL.at_ (SL.get4 HS.out)) 0).trans rfl)), (((blk_cell (SL.at_ (SL.get4 HS.out)) 1).trans rfl)), (((blk_cell (SL.at_ (SL.get4 HS.out)) 2).trans rfl)), (((blk_cell (SL.at_ (SL.get4 HS.out)) 3).trans rfl)), (((blk_cell (SL.at_ (SL.get4 HS.out)) 4).trans rfl)), (((blk_cell (SL.at_ (SL.get4 HS.out)) 5).trans rfl)), (((blk_cell (SL.at_ (SL.get4 HS.out)) 6).trans rfl)), (((blk_cell (SL.at_ (SL.get3 HS.out)) 0).trans rfl)), (((blk_cell (SL.at_ (SL.get3 HS.out)) 1).trans rfl)), (((blk_cell (SL.at_ (SL.get3 HS.out)) 2).trans rfl)), (((blk_cell (SL.at_ (SL.get3 HS.out)) 3).trans rfl)), (((blk_cell (SL.at_ (SL.get3 HS.out)) 4).trans rfl)), (((blk_cell (SL.at_ (SL.get3 HS.out)) 5).trans rfl)), (((blk_cell (SL.at_ (SL.get3 HS.out)) 6).trans rfl))⟩ (fun hHeld => ?_)
                    clear hK K
                    refine norm_ (a' := ?_) ?_ ?_; rotate_left
                    · show Act.put _ (some 102) _ = _
                      simp only [Act.put, sT, sZ, sS, i64_w, i32_w]
                      rfl
                    refine pure_ (i := 25) (N := some 103) (v := ?_) (a' := ?_) #[true, true, true, true, true, true, true, true, true, true, true, true, true, true, true, true, true, true, true, true, true, true, true, true, true, true, false, false, false, false, false, false, false, false, false, false] rfl rfl (any_of HT_.out (by kernel_rfl)) (fun _ _ _ h => h) (Or.inl ⟨by rfl, ?_⟩) ?_ ?_; rotate_left; · (intro w'; go_simp; with_reducible rfl)
                    rotate_left; · (simp only [Act.put, sT, sZ, sS, i64_w, i32_w]; rfl)
                    refine pure_ (i := 26) (N := some 104) (v := ?_) (a' := ?_) #[true, true, true, true, true, true, true, true, true, true, true, true, true, true, true, true, true, true, true, true, true, true, true, true, true, true, true, false, false, false, false, false, false, false, false, false] rfl rfl (any_of HT_.out (by kernel_rfl)) (fun _ _ _ h => h) (Or.inl ⟨by rfl, ?_⟩) ?_ ?_; rotate_left; · (intro w'; go_simp; with_reducible rfl)
                    rotate_left; · (simp only [Act.put, sT, sZ, sS, i64_w, i32_w]; rfl)
                    refine pure_ (i := 27) (N := some 105) (v := ?_) (a' := ?_) #[true, true, true, true, true, true, true, true, true, true, true, true, true, true, true, true, true, true, true, true, true, true, true, true, true, true, true, true, false, false, false, false, false, false, false, false] rfl rfl (any_of HT_.out (by kernel_rfl)) (fun _ _ _ h => h) (Or.inl ⟨by rfl, ?_⟩) ?_ ?_; rotate_left; · (intro w'; go_simp; with_reducible rfl)
                    rotate_left; · (simp only [Act.put, sT, sZ, sS, i64_w, i32_w]; rfl)
                    refine take_ (i := 28) (N := some 106) (v := ?_) (a' := ?_) #[true, true, true, true, true, true, true, true, true, true, true, true, true, true, true, true, true, true, true, true, true, true, true, true, true, true, true, true, true, false, false, false, false, false, false, false] rfl rfl (take_ofW HT_.out HW_.out (by kernel_rfl)) (fun _ _ _ h => h) (Or.inl ⟨by rfl, ?_⟩) hHeld ?_ ?_; rotate_left
                    · rintro w' ⟨s0, s1, s2, s3, s4, s5, s6, s7, s8, s9, s10, s11, s12, s13, s14, s15, s16, s17, s18, s19, s20, s21, s22, s23, s24, s25, s26, s27, s28, s29, s30, s31, s32, s33, s34, s35, s36⟩
                      go_simp
                      with_reducible rfl
                    rotate_left; · (simp only [Act.put, sT, sZ, sS, i64_w, i32_w]; rfl)
                    refine take_ (i := 29) (N := some 107) (v := ?_) (a' := ?_) #[true, true, true, true, true, true, true, true, true, true, true, true, true, true, true, true, true, true, true, true, true, true, true, true, true, true, true, true, true, true, false, false, false, false, false, false] rfl rfl (take_ofW HT_.out HW_.out (by kernel_rfl)) (fun _ _ _ h => h) (Or.inl ⟨by rfl, ?_⟩) hHeld ?_ ?_; rotate_left
                    · rintro w' ⟨s0, s1, s2, s3, s4, s5, s6, s7, s8, s9, s10, s11, s12, s13, s14, s15, s16, s17, s18, s19, s20, s21, s22, s23, s24, s25, s26, s27, s28, s29, s30, s31, s32, s33, s34, s35, s36⟩
                      go_simp
                      with_reducible rfl
                    rotate_left; · (simp only [Act.put, sT, sZ, sS, i64_w, i32_w]; rfl)
                    refine take_ (i := 31) (N := some 109) (v := ?_) (a' := ?_) #[true, true, true, true, true, true, true, true, true, true, true, true, true, true, true, true, true, true, true, true, true, true, true, true, true, true, true, true, true, true, false, true, false, false, false, false] rfl rfl (take_ofW HT_.out HW_.out (by kernel_rfl)) (fun _ _ _ h => h) (Or.inl ⟨by rfl, ?_⟩) hHeld ?_ ?_; rotate_left
                    · rintro w' ⟨s0, s1, s2, s3, s4, s5, s6, s7, s8, s9, s10, s11, s12, s13, s14, s15, s16, s17, s18, s19, s20, s21, s22, s23, s24, s25, s26, s27, s28, s29, s30, s31, s32, s33, s34, s35, s36⟩
                      go_simp
                      with_reducible rfl
                    rotate_left; · (simp only [Act.put, sT, sZ, sS, i64_w, i32_w]; rfl)
                    refine take_ (i := 32) (N := some 110) (v := ?_) (a' := ?_) #[true, true, true, true, true, true, true, true, true, true, true, true, true, true, true, true, true, true, true, true, true, true, true, true, true, true, true, true, true, true, false, true, true, false, false, false] rfl rfl (take_ofW HT_.out HW_.out (by kernel_rfl)) (fun _ _ _ h => h) (Or.inl ⟨by rfl, ?_⟩) hHeld ?_ ?_; rotate_left
                    · rintro w' ⟨s0, s1, s2, s3, s4, s5, s6, s7, s8, s9, s10, s11, s12, s13, s14, s15, s16, s17, s18, s19, s20, s21, s22, s23, s24, s25, s26, s27, s28, s29, s30, s31, s32, s33, s34, s35, s36⟩
                      go_simp
                      with_reducible rfl
                    rotate_left; · (simp only [Act.put, sT, sZ, sS, i64_w, i32_w]; rfl)
                    refine one_ (i := 30) (N := some 108) #[true, true, true, true, true, true, true, true, true, true, true, true, true, true, true, true, true, true, true, true, true, true, true, true, true, true, true, true, true, true, true, true, true, false, false, false] rfl rfl (one_of HT_.out (by kernel_rfl)) (by decide) (fun K hK => ?_)
                    refine goes_ Try.func11 (by kernel_rfl) rfl #[.agg #[.int .i64 3, .int .i64 a0_0, .int .i64 a0_1, .int .i64 a1_0, .int .i64 a1_1, .int .i64 0, .int .i64 0], .agg #[.int .i64 a2_0, .int .i64 a2_1]] (by rfl) rfl rfl (by (try simp only [List.map_toArray, List.map_cons, List.map_nil]); first | done | rfl | (simp; done)) ?_
                    (with_reducible refine (area_In.calls k _ _ _ _ _ _ _ _ _ _ _  Hc48.out).mono ?_)
                    rintro e_ w54 ⟨rfl, hb_⟩
                    refine ⟨_, rfl, ?_⟩
                    replace HS := Aside0.mk (HS.out.below hb_)
                    replace HK := Aside0.mk (HK.out.trans (Keep.below hb_))
                    refine hK.out _ _ ⟨(((blk_cell (SL.at_ (SL.get6 HS.out)) 0).trans rfl)), (((blk_cell (SL.at_ (SL.get6 HS.out)) 1).trans rfl)), (((blk_cell (SL.at_ (SL.get6 HS.out)) 2).trans rfl)), (((blk_cell (SL.at_ (SL.get6 HS.out)) 3).trans rfl)), (((blk_cell (SL.at_ (SL.get6 HS.out)) 4).trans rfl)), (((blk_cell (SL.at_ (SL.get6 HS.out)) 5).trans rfl)), (((blk_cell (SL.at_ (SL.get6 HS.out)) 6).trans rfl)), (((blk_cell (SL.at_ (SL.get8 HS.out)) 0).trans rfl)), (((blk_cell (SL.at_ (SL.get8 HS.out)) 1).trans rfl)), (((blk_cell (SL.at_ (SL.get7 HS.out)) 0).trans rfl)), (((blk_cell (SL.at_ (SL.get7 HS.out)) 1).trans rfl)), (((blk_cell (SL.at_ (SL.get7 HS.out)) 2).trans rfl)), (((blk_cell (SL.at_ (SL.get7 HS.out)) 3).trans rfl)), (((blk_cell (SL.at_ (SL.get7 HS.out)) 4).trans rfl)), (((blk_cell (SL.at_ (SL.get7 HS.out)) 5).trans rfl)), (((blk_cell (SL.at_ (SL.get7 HS.out)) 6).trans rfl)), (((blk_cell (SL.at_ (SL.get5 HS.out)) 0).trans rfl)), (((blk_cell (SL.at_ (SL.get5 HS.out)) 1).trans rfl)), (((blk_cell (SL.at_ (SL.get5 HS.out)) 2).trans rfl)), (((blk_cell (SL.at_ (SL.get5 HS.out)) 3).trans rfl)), (((blk_cell (SL.at_ (SL.get5 HS.out)) 4).trans rfl)), (((blk_cell (SL.at_ (SL.get5 HS.out)) 5).trans rfl)), (((blk_cell (SL.at_ (SL.get5 HS.out)) 6).trans rfl)), (((blk_cell (SL.at_ (SL.get4 HS.out)) 0).trans rfl)), (((blk_cell (SL.at_ (SL.get4 HS.out)) 1).trans rfl)), (((blk_cell (SL.at_ (SL.get4 HS.out)) 2).trans rfl)), (((blk_cell (SL.at_ (SL.get4 HS.out)) 3).trans rfl)), (((blk_cell (SL.at_ (SL.get4 HS.out)) 4).trans rfl)), (((blk_cell (SL.at_ (SL.get4 HS.out)) 5).trans rfl)), (((blk_cell (SL.at_ (SL.get4 HS.out)) 6).trans rfl)), (((blk_cell (SL.at_ (SL.get3 HS.out)) 0).trans rfl)), (((blk_cell (SL.at_ (SL.get3 HS.out)) 1).trans rfl)), (((blk_cell (SL.at_ (SL.get3 HS.out)) 2).trans rfl)), (((blk_cell (SL.at_ (SL.get3 HS.out)) 3).trans rfl)), (((blk_cell (SL.at_ (SL.get3 HS.out)) 4).trans rfl)), (((blk_cell (SL.at_ (SL.get3 HS.out)) 5).trans rfl)), (((blk_cell (SL.at_ (SL.get3 HS.out)) 6).trans rfl))⟩ (fun hHeld => ?_)
                    clear hK K
                    refine norm_ (a' := ?_) ?_ ?_; rotate_left
                    · show Act.put _ (some 108) _ = _
                      simp only [Act.put, sT, sZ, sS, i64_w, i32_w]
                      rfl
                    refine one_ (i := 33) (N := some 111) #[true, true, true, true, true, true, true, true, true, true, true, true, true, true, true, true, true, true, true, true, true, true, true, true, true, true, true, true, true, true, true, true, true, true, false, false] rfl rfl (one_of HT_.out (by kernel_rfl)) (by decide) (fun K hK => ?_)
                    refine goes_ Try.func11 (by kernel_rfl) rfl #[.agg #[.int .i64 3, .int .i64 a1_0, .int .i64 a1_1, .int .i64 a0_0, .int .i64 a0_1, .int .i64 0, .int .i64 0], .agg #[.int .i64 a2_0, .int .i64 a2_1]] (by rfl) rfl rfl (by (try simp only [List.map_toArray, List.map_cons, List.map_nil]); first | done | rfl | (simp; done)) ?_
                    (with_reducible refine (area_In.calls k _ _ _ _ _ _ _ _ _ _ _  Hc49.out).mono ?_)
                    rintro e_ w55 ⟨rfl, hb_⟩
                    refine ⟨_, rfl, ?_⟩
                    replace HS := Aside0.mk (HS.out.below hb_)
                    replace HK := Aside0.mk (HK.out.trans (Keep.below hb_))
                    refine hK.out _ _ ⟨(((blk_cell (SL.at_ (SL.get6 HS.out)) 0).trans rfl)), (((blk_cell (SL.at_ (SL.get6 HS.out)) 1).trans rfl)), (((blk_cell (SL.at_ (SL.get6 HS.out)) 2).trans rfl)), (((blk_cell (SL.at_ (SL.get6 HS.out)) 3).trans rfl)), (((blk_cell (SL.at_ (SL.get6 HS.out)) 4).trans rfl)), (((blk_cell (SL.at_ (SL.get6 HS.out)) 5).trans rfl)), (((blk_cell (SL.at_ (SL.get6 HS.out)) 6).trans rfl)), (((blk_cell (SL.at_ (SL.get8 HS.out)) 0).trans rfl)), (((blk_cell (SL.at_ (SL.get8 HS.out)) 1).trans rfl)), (((blk_cell (SL.at_ (SL.get7 HS.out)) 0).trans rfl)), (((blk_cell (SL.at_ (SL.get7 HS.out)) 1).trans rfl)), (((blk_cell (SL.at_ (SL.get7 HS.out)) 2).trans rfl)), (((blk_cell (SL.at_ (SL.get7 HS.out)) 3).trans rfl)), (((blk_cell (SL.at_ (SL.get7 HS.out)) 4).trans rfl)), (((blk_cell (SL.at_ (SL.get7 HS.out)) 5).trans rfl)), (((blk_cell (SL.at_ (SL.get7 HS.out)) 6).trans rfl)), (((blk_cell (SL.at_ (SL.get5 HS.out)) 0).trans rfl)), (((blk_cell (SL.at_ (SL.get5 HS.out)) 1).trans rfl)), (((blk_cell (SL.at_ (SL.get5 HS.out)) 2).trans rfl)), (((blk_cell (SL.at_ (SL.get5 HS.out)) 3).trans rfl)), (((blk_cell (SL.at_ (SL.get5 HS.out)) 4).trans rfl)), (((blk_cell (SL.at_ (SL.get5 HS.out)) 5).trans rfl)), (((blk_cell (SL.at_ (SL.get5 HS.out)) 6).trans rfl)), (((blk_cell (SL.at_ (SL.get4 HS.out)) 0).trans rfl)), (((blk_cell (SL.at_ (SL.get4 HS.out)) 1).trans rfl)), (((blk_cell (SL.at_ (SL.get4 HS.out)) 2).trans rfl)), (((blk_cell (SL.at_ (SL.get4 HS.out)) 3).trans rfl)), (((blk_cell (SL.at_ (SL.get4 HS.out)) 4).trans rfl)), (((blk_cell (SL.at_ (SL.get4 HS.out)) 5).trans rfl)), (((blk_cell (SL.at_ (SL.get4 HS.out)) 6).trans rfl)), (((blk_cell (SL.at_ (SL.get3 HS.out)) 0).trans rfl)), (((blk_cell (SL.at_ (SL.get3 HS.out)) 1).trans rfl)), (((blk_cell (SL.at_ (SL.get3 HS.out)) 2).trans rfl)), (((blk_cell (SL.at_ (SL.get3 HS.out)) 3).trans rfl)), (((blk_cell (SL.at_ (SL.get3 HS.out)) 4).trans rfl)), (((blk_cell (SL.at_ (SL.get3 HS.out)) 5).trans rfl)), (((blk_cell (SL.at_ (SL.get3 HS.out)) 6).trans rfl))⟩ (fun hHeld => ?_)
                    clear hK K
                    refine norm_ (a' := ?_) ?_ ?_; rotate_left
                    · show Act.put _ (some 111) _ = _
                      simp only [Act.put, sT, sZ, sS, i64_w, i32_w]
                      rfl
                    refine pure_ (i := 34) (N := some 112) (v := ?_) (a' := ?_) #[true, true, true, true, true, true, true, true, true, true, true, true, true, true, true, true, true, true, true, true, true, true, true, true, true, true, true, true, true, true, true, true, true, true, true, false] rfl rfl (any_of HT_.out (by kernel_rfl)) (fun _ _ _ h => h) (Or.inl ⟨by rfl, ?_⟩) ?_ ?_; rotate_left; · (intro w'; go_simp; with_reducible rfl)
                    rotate_left; · (simp only [Act.put, sT, sZ, sS, i64_w, i32_w]; rfl)
                    refine pure_ (i := 35) (N := some 113) (v := ?_) (a' := ?_) #[true, true, true, true, true, true, true, true, true, true, true, true, true, true, true, true, true, true, true, true, true, true, true, true, true, true, true, true, true, true, true, true, true, true, true, true] rfl rfl (any_of HT_.out (by kernel_rfl)) (fun _ _ _ h => h) (Or.inl ⟨by rfl, ?_⟩) ?_ ?_; rotate_left; · (intro w'; go_simp; with_reducible rfl)
                    rotate_left; · (simp only [Act.put, sT, sZ, sS, i64_w, i32_w]; rfl)
                    refine done_ (done_of HT_.out (by kernel_rfl)) ?_
                    try go_wp2
                    go_meet
                    case rel => exact ⟨k, ((t514 != t515)), (by first | rfl | (simp; done) | (simp [*]; done)), H', ⟨by omega⟩, HS, HK⟩
              · replace c44 := Bool.eq_false_iff.mpr c44
                subst c44
                rw [if_neg (show ¬ (false = true) by decide)] at H
                replace H := Option.bind_eq_some_iff.1 H
                obtain ⟨t516, Hc560, H⟩ := H
                try dsimp only at H
                have Hc56 := Aside0.mk Hc560
                clear Hc560
                by_cases c57 : (t510 != t516) = true
                · rw [if_pos c57] at H
                  have c57b0 : (t510 != t516) = true := c57
                  (try (have c57b1 : decide (t510 = t516) = false := by simpa using c57))
                  (try (have c57b2 : (t510 == t516) = false := by simpa using c57))
                  (try (have c57b3 : ¬ (t510 = t516) := by simpa using c57))
                  clear c57
                  exact absurd H (by simp)
                · rw [if_neg c57] at H
                  have c57b0 : (t510 != t516) = false := by simpa using c57
                  (try (have c57b1 : decide (t510 = t516) = true := by simpa using c57))
                  (try (have c57b2 : (t510 == t516) = true := by simpa using c57))
                  clear c57
                  replace H := Option.bind_eq_some_iff.1 H
                  obtain ⟨t518, Hc580, H⟩ := H
                  try dsimp only at H
                  have Hc58 := Aside0.mk Hc580
                  clear Hc580
                  replace H := Option.bind_eq_some_iff.1 H
                  obtain ⟨t519, Hc590, H⟩ := H
                  try dsimp only at H
                  have Hc59 := Aside0.mk Hc590
                  clear Hc590
                  have H' := Aside0.mk H
                  clear H
                  try go_wp2
                  refine start_ (n := 36) (S := fun w' => w'.cell? ⟨g3000049, 0, none⟩ = some (.int .i64 1) ∧ w'.cell? ⟨g3000049, 1, none⟩ = some (.int .i64 a0_0) ∧ w'.cell? ⟨g3000049, 2, none⟩ = some (.int .i64 a0_1) ∧ w'.cell? ⟨g3000049, 3, none⟩ = some (.int .i64 0) ∧ w'.cell? ⟨g3000049, 4, none⟩ = some (.int .i64 0) ∧ w'.cell? ⟨g3000049, 5, none⟩ = some (.int .i64 a4) ∧ w'.cell? ⟨g3000049, 6, none⟩ = some (.int .i64 0) ∧ w'.cell? ⟨g3000047, 0, none⟩ = some (.int .i64 a2_0) ∧ w'.cell? ⟨g3000047, 1, none⟩ = some (.int .i64 a2_1) ∧ w'.cell? ⟨g3000048, 0, none⟩ = some (.int .i64 2) ∧ w'.cell? ⟨g3000048, 1, none⟩ = some (.int .i64 a0_0) ∧ w'.cell? ⟨g3000048, 2, none⟩ = some (.int .i64 a0_1) ∧ w'.cell? ⟨g3000048, 3, none⟩ = some (.int .i64 0) ∧ w'.cell? ⟨g3000048, 4, none⟩ = some (.int .i64 0) ∧ w'.cell? ⟨g3000048, 5, none⟩ = some (.int .i64 a3) ∧ w'.cell? ⟨g3000048, 6, none⟩ = some (.int .i64 a4) ∧ w'.cell? ⟨g3000050, 0, none⟩ = some (.int .i64 1) ∧ w'.cell? ⟨g3000050, 1, none⟩ = some (.int .i64 a0_0) ∧ w'.cell? ⟨g3000050, 2, none⟩ = some (.int .i64 a0_1) ∧ w'.cell? ⟨g3000050, 3, none⟩ = some (.int .i64 0) ∧ w'.cell? ⟨g3000050, 4, none⟩ = some (.int .i64 0) ∧ w'.cell? ⟨g3000050, 5, none⟩ = some (.int .i64 a3) ∧ w'.cell? ⟨g3000050, 6, none⟩ = some (.int .i64 0) ∧ w'.cell? ⟨g3000051, 0, none⟩ = some (.int .i64 3) ∧ w'.cell? ⟨g3000051, 1, none⟩ = some (.int .i64 a0_0) ∧ w'.cell? ⟨g3000051, 2, none⟩ = some (.int .i64 a0_1) ∧ w'.cell? ⟨g3000051, 3, none⟩ = some (.int .i64 a1_0) ∧ w'.cell? ⟨g3000051, 4, none⟩ = some (.int .i64 a1_1) ∧ w'.cell? ⟨g3000051, 5, none⟩ = some (.int .i64 0) ∧ w'.cell? ⟨g3000051, 6, none⟩ = some (.int .i64 0) ∧ w'.cell? ⟨g3000052, 0, none⟩ = some (.int .i64 3) ∧ w'.cell? ⟨g3000052, 1, none⟩ = some (.int .i64 a1_0) ∧ w'.cell? ⟨g3000052, 2, none⟩ = some (.int .i64 a1_1) ∧ w'.cell? ⟨g3000052, 3, none⟩ = some (.int .i64 a0_0) ∧ w'.cell? ⟨g3000052, 4, none⟩ = some (.int .i64 a0_1) ∧ w'.cell? ⟨g3000052, 5, none⟩ = some (.int .i64 0) ∧ w'.cell? ⟨g3000052, 6, none⟩ = some (.int .i64 0)) (ds := []) #[false, false, false, false, false, false, false, false, false, false, false, false, false, false, false, false, false, false, false, false, false, false, false, false, false, false, false, false, false, false, false, false, false, false, false, false] (by kernel_rfl) rfl rfl ⟨(((blk_cell (SL.at_ (SL.get6 HS.out)) 0).trans rfl)), (((blk_cell (SL.at_ (SL.get6 HS.out)) 1).trans rfl)), (((blk_cell (SL.at_ (SL.get6 HS.out)) 2).trans rfl)), (((blk_cell (SL.at_ (SL.get6 HS.out)) 3).trans rfl)), (((blk_cell (SL.at_ (SL.get6 HS.out)) 4).trans rfl)), (((blk_cell (SL.at_ (SL.get6 HS.out)) 5).trans rfl)), (((blk_cell (SL.at_ (SL.get6 HS.out)) 6).trans rfl)), (((blk_cell (SL.at_ (SL.get8 HS.out)) 0).trans rfl)), (((blk_cell (SL.at_ (SL.get8 HS.out)) 1).trans rfl)), (((blk_cell (SL.at_ (SL.get7 HS.out)) 0).trans rfl)), (((blk_cell (SL.at_ (SL.get7 HS.out)) 1).trans rfl)), (((blk_cell (SL.at_ (SL.get7 HS.out)) 2).trans rfl)), (((blk_cell (SL.at_ (SL.get7 HS.out)) 3).trans rfl)), (((blk_cell (SL.at_ (SL.get7 HS.out)) 4).trans rfl)), (((blk_cell (SL.at_ (SL.get7 HS.out)) 5).trans rfl)), (((blk_cell (SL.at_ (SL.get7 HS.out)) 6).trans rfl)), (((blk_cell (SL.at_ (SL.get5 HS.out)) 0).trans rfl)), (((blk_cell (SL.at_ (SL.get5 HS.out)) 1).trans rfl)), (((blk_cell (SL.at_ (SL.get5 HS.out)) 2).trans rfl)), (((blk_cell (SL.at_ (SL.get5 HS.out)) 3).trans rfl)), (((blk_cell (SL.at_ (SL.get5 HS.out)) 4).trans rfl)), (((blk_cell (SL.at_ (SL.get5 HS.out)) 5).trans rfl)), (((blk_cell (SL.at_ (SL.get5 HS.out)) 6).trans rfl)), (((blk_cell (SL.at_ (SL.get4 HS.out)) 0).trans rfl)), (((blk_cell (SL.at_ (SL.get4 HS.out)) 1).trans rfl)), (((blk_cell (SL.at_ (SL.get4 HS.out)) 2).trans rfl)), (((blk_cell (SL.at_ (SL.get4 HS.out)) 3).trans rfl)), (((blk_cell (SL.at_ (SL.get4 HS.out)) 4).trans rfl)), (((blk_cell (SL.at_ (SL.get4 HS.out)) 5).trans rfl)), (((blk_cell (SL.at_ (SL.get4 HS.out)) 6).trans rfl)), (((blk_cell (SL.at_ (SL.get3 HS.out)) 0).trans rfl)), (((blk_cell (SL.at_ (SL.get3 HS.out)) 1).trans rfl)), (((blk_cell (SL.at_ (SL.get3 HS.out)) 2).trans rfl)), (((blk_cell (SL.at_ (SL.get3 HS.out)) 3).trans rfl)), (((blk_cell (SL.at_ (SL.get3 HS.out)) 4).trans rfl)), (((blk_cell (SL.at_ (SL.get3 HS.out)) 5).trans rfl)), (((blk_cell (SL.at_ (SL.get3 HS.out)) 6).trans rfl))⟩ (fun hHeld => ?_); refine with_tabW barrowlaw32_AreaShapes.tab12 barrowlaw32_AreaShapes.bits12 (fun HT_ HW_ => ?_)
                  replace HK := Aside0.mk (Keep.drew HK.out)
                  replace HS := Aside0.mk (SL.drew HS.out)
                  refine pure_ (i := 0) (N := some 78) (v := ?_) (a' := ?_) #[true, false, false, false, false, false, false, false, false, false, false, false, false, false, false, false, false, false, false, false, false, false, false, false, false, false, false, false, false, false, false, false, false, false, false, false] rfl rfl (any_of HT_.out (by kernel_rfl)) (fun _ _ _ h => h) (Or.inl ⟨by rfl, ?_⟩) ?_ ?_; rotate_left; · (intro w'; go_simp; with_reducible rfl)
                  rotate_left; · (simp only [Act.put, sT, sZ, sS, i64_w, i32_w]; rfl)
                  refine pure_ (i := 1) (N := some 79) (v := ?_) (a' := ?_) #[true, true, false, false, false, false, false, false, false, false, false, false, false, false, false, false, false, false, false, false, false, false, false, false, false, false, false, false, false, false, false, false, false, false, false, false] rfl rfl (any_of HT_.out (by kernel_rfl)) (fun _ _ _ h => h) (Or.inl ⟨by rfl, ?_⟩) ?_ ?_; rotate_left; · (intro w'; go_simp; with_reducible rfl)
                  rotate_left; · (simp only [Act.put, sT, sZ, sS, i64_w, i32_w]; rfl)
                  refine pure_ (i := 2) (N := some 80) (v := ?_) (a' := ?_) #[true, true, true, false, false, false, false, false, false, false, false, false, false, false, false, false, false, false, false, false, false, false, false, false, false, false, false, false, false, false, false, false, false, false, false, false] rfl rfl (any_of HT_.out (by kernel_rfl)) (fun _ _ _ h => h) (Or.inl ⟨by rfl, ?_⟩) ?_ ?_; rotate_left; · (intro w'; go_simp; with_reducible rfl)
                  rotate_left; · (simp only [Act.put, sT, sZ, sS, i64_w, i32_w]; rfl)
                  refine pure_ (i := 3) (N := some 81) (v := ?_) (a' := ?_) #[true, true, true, true, false, false, false, false, false, false, false, false, false, false, false, false, false, false, false, false, false, false, false, false, false, false, false, false, false, false, false, false, false, false, false, false] rfl rfl (any_of HT_.out (by kernel_rfl)) (fun _ _ _ h => h) (Or.inl ⟨by rfl, ?_⟩) ?_ ?_; rotate_left; · (intro w'; go_simp; with_reducible rfl)
                  rotate_left; · (simp only [Act.put, sT, sZ, sS, i64_w, i32_w]; rfl)
                  refine take_ (i := 4) (N := some 82) (v := ?_) (a' := ?_) #[true, true, true, true, true, false, false, false, false, false, false, false, false, false, false, false, false, false, false, false, false, false, false, false, false, false, false, false, false, false, false, false, false, false, false, false] rfl rfl (take_ofW HT_.out HW_.out (by kernel_rfl)) (fun _ _ _ h => h) (Or.inl ⟨by rfl, ?_⟩) hHeld ?_ ?_; rotate_left
                  · rintro w' ⟨s0, s1, s2, s3, s4, s5, s6, s7, s8, s9, s10, s11, s12, s13, s14, s15, s16, s17, s18, s19, s20, s21, s22, s23, s24, s25, s26, s27, s28, s29, s30, s31, s32, s33, s34, s35, s36⟩
                    go_simp
                    with_reducible rfl
                  rotate_left; · (simp only [Act.put, sT, sZ, sS, i64_w, i32_w]; rfl)
                  refine take_ (i := 5) (N := some 83) (v := ?_) (a' := ?_) #[true, true, true, true, true, true, false, false, false, false, false, false, false, false, false, false, false, false, false, false, false, false, false, false, false, false, false, false, false, false, false, false, false, false, false, false] rfl rfl (take_ofW HT_.out HW_.out (by kernel_rfl)) (fun _ _ _ h => h) (Or.inl ⟨by rfl, ?_⟩) hHeld ?_ ?_; rotate_left
                  · rintro w' ⟨s0, s1, s2, s3, s4, s5, s6, s7, s8, s9, s10, s11, s12, s13, s14, s15, s16, s17, s18, s19, s20, s21, s22, s23, s24, s25, s26, s27, s28, s29, s30, s31, s32, s33, s34, s35, s36⟩
                    go_simp
                    with_reducible rfl
                  rotate_left; · (simp only [Act.put, sT, sZ, sS, i64_w, i32_w]; rfl)
                  refine take_ (i := 7) (N := some 85) (v := ?_) (a' := ?_) #[true, true, true, true, true, true, false, true, false, false, false, false, false, false, false, false, false, false, false, false, false, false, false, false, false, false, false, false, false, false, false, false, false, false, false, false] rfl rfl (take_ofW HT_.out HW_.out (by kernel_rfl)) (fun _ _ _ h => h) (Or.inl ⟨by rfl, ?_⟩) hHeld ?_ ?_; rotate_left
                  · rintro w' ⟨s0, s1, s2, s3, s4, s5, s6, s7, s8, s9, s10, s11, s12, s13, s14, s15, s16, s17, s18, s19, s20, s21, s22, s23, s24, s25, s26, s27, s28, s29, s30, s31, s32, s33, s34, s35, s36⟩
                    go_simp
                    with_reducible rfl
                  rotate_left; · (simp only [Act.put, sT, sZ, sS, i64_w, i32_w]; rfl)
                  refine take_ (i := 8) (N := some 86) (v := ?_) (a' := ?_) #[true, true, true, true, true, true, false, true, true, false, false, false, false, false, false, false, false, false, false, false, false, false, false, false, false, false, false, false, false, false, false, false, false, false, false, false] rfl rfl (take_ofW HT_.out HW_.out (by kernel_rfl)) (fun _ _ _ h => h) (Or.inl ⟨by rfl, ?_⟩) hHeld ?_ ?_; rotate_left
                  · rintro w' ⟨s0, s1, s2, s3, s4, s5, s6, s7, s8, s9, s10, s11, s12, s13, s14, s15, s16, s17, s18, s19, s20, s21, s22, s23, s24, s25, s26, s27, s28, s29, s30, s31, s32, s33, s34, s35, s36⟩
                    go_simp
                    with_reducible rfl
                  rotate_left; · (simp only [Act.put, sT, sZ, sS, i64_w, i32_w]; rfl)
                  refine one_ (i := 6) (N := some 84) #[true, true, true, true, true, true, true, true, true, false, false, false, false, false, false, false, false, false, false, false, false, false, false, false, false, false, false, false, false, false, false, false, false, false, false, false] rfl rfl (one_of HT_.out (by kernel_rfl)) (by decide) (fun K hK => ?_)
                  refine goes_ Try.func11 (by kernel_rfl) rfl #[.agg #[.int .i64 1, .int .i64 a0_0, .int .i64 a0_1, .int .i64 0, .int .i64 0, .int .i64 a4, .int .i64 0], .agg #[.int .i64 a2_0, .int .i64 a2_1]] (by rfl) rfl rfl (by (try simp only [List.map_toArray, List.map_cons, List.map_nil]); first | done | rfl | (simp; done)) ?_
                  (with_reducible refine (area_In.calls k _ _ _ _ _ _ _ _ _ _ _  Hc42.out).mono ?_)
                  rintro e_ w60 ⟨rfl, hb_⟩
                  refine ⟨_, rfl, ?_⟩
                  replace HS := Aside0.mk (HS.out.below hb_)
                  replace HK := Aside0.mk (HK.out.trans (Keep.below hb_))
                  refine hK.out _ _ ⟨(((blk_cell (SL.at_ (SL.get6 HS.out)) 0).trans rfl)), (((blk_cell (SL.at_ (SL.get6 HS.out)) 1).trans rfl)), (((blk_cell (SL.at_ (SL.get6 HS.out)) 2).trans rfl)), (((blk_cell (SL.at_ (SL.get6 HS.out)) 3).trans rfl)), (((blk_cell (SL.at_ (SL.get6 HS.out)) 4).trans rfl)), (((blk_cell (SL.at_ (SL.get6 HS.out)) 5).trans rfl)), (((blk_cell (SL.at_ (SL.get6 HS.out)) 6).trans rfl)), (((blk_cell (SL.at_ (SL.get8 HS.out)) 0).trans rfl)), (((blk_cell (SL.at_ (SL.get8 HS.out)) 1).trans rfl)), (((blk_cell (SL.at_ (SL.get7 HS.out)) 0).trans rfl)), (((blk_cell (SL.at_ (SL.get7 HS.out)) 1).trans rfl)), (((blk_cell (SL.at_ (SL.get7 HS.out)) 2).trans rfl)), (((blk_cell (SL.at_ (SL.get7 HS.out)) 3).trans rfl)), (((blk_cell (SL.at_ (SL.get7 HS.out)) 4).trans rfl)), (((blk_cell (SL.at_ (SL.get7 HS.out)) 5).trans rfl)), (((blk_cell (SL.at_ (SL.get7 HS.out)) 6).trans rfl)), (((blk_cell (SL.at_ (SL.get5 HS.out)) 0).trans rfl)), (((blk_cell (SL.at_ (SL.get5 HS.out)) 1).trans rfl)), (((blk_cell (SL.at_ (SL.get5 HS.out)) 2).trans rfl)), (((blk_cell (SL.at_ (SL.get5 HS.out)) 3).trans rfl)), (((blk_cell (SL.at_ (SL.get5 HS.out)) 4).trans rfl)), (((blk_cell (SL.at_ (SL.get5 HS.out)) 5).trans rfl)), (((blk_cell (SL.at_ (SL.get5 HS.out)) 6).trans rfl)), (((blk_cell (SL.at_ (SL.get4 HS.out)) 0).trans rfl)), (((blk_cell (SL.at_ (SL.get4 HS.out)) 1).trans rfl)), (((blk_cell (SL.at_ (SL.get4 HS.out)) 2).trans rfl)), (((blk_cell (SL.at_ (SL.get4 HS.out)) 3).trans rfl)), (((blk_cell (SL.at_ (SL.get4 HS.out)) 4).trans rfl)), (((blk_cell (SL.at_ (SL.get4 HS.out)) 5).trans rfl)), (((blk_cell (SL.at_ (SL.get4 HS.out)) 6).trans rfl)), (((blk_cell (SL.at_ (SL.get3 HS.out)) 0).trans rfl)), (((blk_cell (SL.at_ (SL.get3 HS.out)) 1).trans rfl)), (((blk_cell (SL.at_ (SL.get3 HS.out)) 2).trans rfl)), (((blk_cell (SL.at_ (SL.get3 HS.out)) 3).trans rfl)), (((blk_cell (SL.at_ (SL.get3 HS.out)) 4).trans rfl)), (((blk_cell (SL.at_ (SL.get3 HS.out)) 5).trans rfl)), (((blk_cell (SL.at_ (SL.get3 HS.out)) 6).trans rfl))⟩ (fun hHeld => ?_)
                  clear hK K
                  refine norm_ (a' := ?_) ?_ ?_; rotate_left
                  · show Act.put _ (some 84) _ = _
                    simp only [Act.put, sT, sZ, sS, i64_w, i32_w]
                    rfl
                  refine one_ (i := 9) (N := some 87) #[true, true, true, true, true, true, true, true, true, true, false, false, false, false, false, false, false, false, false, false, false, false, false, false, false, false, false, false, false, false, false, false, false, false, false, false] rfl rfl (one_of HT_.out (by kernel_rfl)) (by decide) (fun K hK => ?_)
                  refine goes_ Try.func11 (by kernel_rfl) rfl #[.agg #[.int .i64 2, .int .i64 a0_0, .int .i64 a0_1, .int .i64 0, .int .i64 0, .int .i64 a3, .int .i64 a4], .agg #[.int .i64 a2_0, .int .i64 a2_1]] (by rfl) rfl rfl (by (try simp only [List.map_toArray, List.map_cons, List.map_nil]); first | done | rfl | (simp; done)) ?_
                  (with_reducible refine (area_In.calls k _ _ _ _ _ _ _ _ _ _ _  Hc43.out).mono ?_)
                  rintro e_ w61 ⟨rfl, hb_⟩
                  refine ⟨_, rfl, ?_⟩
                  replace HS := Aside0.mk (HS.out.below hb_)
                  replace HK := Aside0.mk (HK.out.trans (Keep.below hb_))
                  refine hK.out _ _ ⟨(((blk_cell (SL.at_ (SL.get6 HS.out)) 0).trans rfl)), (((blk_cell (SL.at_ (SL.get6 HS.out)) 1).trans rfl)), (((blk_cell (SL.at_ (SL.get6 HS.out)) 2).trans rfl)), (((blk_cell (SL.at_ (SL.get6 HS.out)) 3).trans rfl)), (((blk_cell (SL.at_ (SL.get6 HS.out)) 4).trans rfl)), (((blk_cell (SL.at_ (SL.get6 HS.out)) 5).trans rfl)), (((blk_cell (SL.at_ (SL.get6 HS.out)) 6).trans rfl)), (((blk_cell (SL.at_ (SL.get8 HS.out)) 0).trans rfl)), (((blk_cell (SL.at_ (SL.get8 HS.out)) 1).trans rfl)), (((blk_cell (SL.at_ (SL.get7 HS.out)) 0).trans rfl)), (((blk_cell (SL.at_ (SL.get7 HS.out)) 1).trans rfl)), (((blk_cell (SL.at_ (SL.get7 HS.out)) 2).trans rfl)), (((blk_cell (SL.at_ (SL.get7 HS.out)) 3).trans rfl)), (((blk_cell (SL.at_ (SL.get7 HS.out)) 4).trans rfl)), (((blk_cell (SL.at_ (SL.get7 HS.out)) 5).trans rfl)), (((blk_cell (SL.at_ (SL.get7 HS.out)) 6).trans rfl)), (((blk_cell (SL.at_ (SL.get5 HS.out)) 0).trans rfl)), (((blk_cell (SL.at_ (SL.get5 HS.out)) 1).trans rfl)), (((blk_cell (SL.at_ (SL.get5 HS.out)) 2).trans rfl)), (((blk_cell (SL.at_ (SL.get5 HS.out)) 3).trans rfl)), (((blk_cell (SL.at_ (SL.get5 HS.out)) 4).trans rfl)), (((blk_cell (SL.at_ (SL.get5 HS.out)) 5).trans rfl)), (((blk_cell (SL.at_ (SL.get5 HS.out)) 6).trans rfl)), (((blk_cell (SL.at_ (SL.get4 HS.out)) 0).trans rfl)), (((blk_cell (SL.at_ (SL.get4 HS.out)) 1).trans rfl)), (((blk_cell (SL.at_ (SL.get4 HS.out)) 2).trans rfl)), (((blk_cell (SL.at_ (SL.get4 HS.out)) 3).trans rfl)), (((blk_cell (SL.at_ (SL.get4 HS.out)) 4).trans rfl)), (((blk_cell (SL.at_ (SL.get4 HS.out)) 5).trans rfl)), (((blk_cell (SL.at_ (SL.get4 HS.out)) 6).trans rfl)), (((blk_cell (SL.at_ (SL.get3 HS.out)) 0).trans rfl)), (((blk_cell (SL.at_ (SL.get3 HS.out)) 1).trans rfl)), (((blk_cell (SL.at_ (SL.get3 HS.out)) 2).trans rfl)), (((blk_cell (SL.at_ (SL.get3 HS.out)) 3).trans rfl)), (((blk_cell (SL.at_ (SL.get3 HS.out)) 4).trans rfl)), (((blk_cell (SL.at_ (SL.get3 HS.out)) 5).trans rfl)), (((blk_cell (SL.at_ (SL.get3 HS.out)) 6).trans rfl))⟩ (fun hHeld => ?_)
                  clear hK K
                  refine norm_ (a' := ?_) ?_ ?_; rotate_left
                  · show Act.put _ (some 87) _ = _
                    simp only [Act.put, sT, sZ, sS, i64_w, i32_w]
                    rfl
                  refine pure_ (i := 10) (N := some 88) (v := ?_) (a' := ?_) #[true, true, true, true, true, true, true, true, true, true, true, false, false, false, false, false, false, false, false, false, false, false, false, false, false, false, false, false, false, false, false, false, false, false, false, false] rfl rfl (any_of HT_.out (by kernel_rfl)) (fun _ _ _ h => h) (Or.inl ⟨by rfl, ?_⟩) ?_ ?_; rotate_left; · (intro w'; go_simp; with_reducible rfl)
                  rotate_left; · (simp only [Act.put, sT, sZ, sS, i64_w, i32_w]; rfl)
                  refine take_ (i := 11) (N := some 89) (v := ?_) (a' := ?_) #[true, true, true, true, true, true, true, true, true, true, true, true, false, false, false, false, false, false, false, false, false, false, false, false, false, false, false, false, false, false, false, false, false, false, false, false] rfl rfl (take_ofW HT_.out HW_.out (by kernel_rfl)) (fun _ _ _ h => h) (Or.inl ⟨by rfl, ?_⟩) hHeld ?_ ?_; rotate_left
                  · rintro w' ⟨s0, s1, s2, s3, s4, s5, s6, s7, s8, s9, s10, s11, s12, s13, s14, s15, s16, s17, s18, s19, s20, s21, s22, s23, s24, s25, s26, s27, s28, s29, s30, s31, s32, s33, s34, s35, s36⟩
                    go_simp
                    with_reducible rfl
                  rotate_left; · (simp only [Act.put, sT, sZ, sS, i64_w, i32_w]; rfl)
                  refine take_ (i := 12) (N := some 90) (v := ?_) (a' := ?_) #[true, true, true, true, true, true, true, true, true, true, true, true, true, false, false, false, false, false, false, false, false, false, false, false, false, false, false, false, false, false, false, false, false, false, false, false] rfl rfl (take_ofW HT_.out HW_.out (by kernel_rfl)) (fun _ _ _ h => h) (Or.inl ⟨by rfl, ?_⟩) hHeld ?_ ?_; rotate_left
                  · rintro w' ⟨s0, s1, s2, s3, s4, s5, s6, s7, s8, s9, s10, s11, s12, s13, s14, s15, s16, s17, s18, s19, s20, s21, s22, s23, s24, s25, s26, s27, s28, s29, s30, s31, s32, s33, s34, s35, s36⟩
                    go_simp
                    with_reducible rfl
                  rotate_left; · (simp only [Act.put, sT, sZ, sS, i64_w, i32_w]; rfl)
                  refine one_ (i := 13) (N := some 91) #[true, true, true, true, true, true, true, true, true, true, true, true, true, true, false, false, false, false, false, false, false, false, false, false, false, false, false, false, false, false, false, false, false, false, false, false] rfl rfl (one_of HT_.out (by kernel_rfl)) (by decide) (fun K hK => ?_)
                  refine goes_ Try.func11 (by kernel_rfl) rfl #[.agg #[.int .i64 1, .int .i64 a0_0, .int .i64 a0_1, .int .i64 0, .int .i64 0, .int .i64 a3, .int .i64 0], .agg #[.int .i64 a2_0, .int .i64 a2_1]] (by rfl) rfl rfl (by (try simp only [List.map_toArray, List.map_cons, List.map_nil]); first | done | rfl | (simp; done)) ?_
                  (with_reducible refine (area_In.calls k _ _ _ _ _ _ _ _ _ _ _  Hc56.out).mono ?_)
                  rintro e_ w62 ⟨rfl, hb_⟩
                  refine ⟨_, rfl, ?_⟩
                  replace HS := Aside0.mk (HS.out.below hb_)
                  replace HK := Aside0.mk (HK.out.trans (Keep.below hb_))
                  refine hK.out _ _ ⟨(((blk_cell (SL.at_ (SL.get6 HS.out)) 0).trans rfl)), (((blk_cell (SL.at_ (SL.get6 HS.out)) 1).trans rfl)), (((blk_cell (SL.at_ (SL.get6 HS.out)) 2).trans rfl)), (((blk_cell (SL.at_ (SL.get6 HS.out)) 3).trans rfl)), (((blk_cell (SL.at_ (SL.get6 HS.out)) 4).trans rfl)), (((blk_cell (SL.at_ (SL.get6 HS.out)) 5).trans rfl)), (((blk_cell (SL.at_ (SL.get6 HS.out)) 6).trans rfl)), (((blk_cell (SL.at_ (SL.get8 HS.out)) 0).trans rfl)), (((blk_cell (SL.at_ (SL.get8 HS.out)) 1).trans rfl)), (((blk_cell (SL.at_ (SL.get7 HS.out)) 0).trans rfl)), (((blk_cell (SL.at_ (SL.get7 HS.out)) 1).trans rfl)), (((blk_cell (SL.at_ (SL.get7 HS.out)) 2).trans rfl)), (((blk_cell (SL.at_ (SL.get7 HS.out)) 3).trans rfl)), (((blk_cell (SL.at_ (SL.get7 HS.out)) 4).trans rfl)), (((blk_cell (SL.at_ (SL.get7 HS.out)) 5).trans rfl)), (((blk_cell (SL.at_ (SL.get7 HS.out)) 6).trans rfl)), (((blk_cell (SL.at_ (SL.get5 HS.out)) 0).trans rfl)), (((blk_cell (SL.at_ (SL.get5 HS.out)) 1).trans rfl)), (((blk_cell (SL.at_ (SL.get5 HS.out)) 2).trans rfl)), (((blk_cell (SL.at_ (SL.get5 HS.out)) 3).trans rfl)), (((blk_cell (SL.at_ (SL.get5 HS.out)) 4).trans rfl)), (((blk_cell (SL.at_ (SL.get5 HS.out)) 5).trans rfl)), (((blk_cell (SL.at_ (SL.get5 HS.out)) 6).trans rfl)), (((blk_cell (SL.at_ (SL.get4 HS.out)) 0).trans rfl)), (((blk_cell (SL.at_ (SL.get4 HS.out)) 1).trans rfl)), (((blk_cell (SL.at_ (SL.get4 HS.out)) 2).trans rfl)), (((blk_cell (SL.at_ (SL.get4 HS.out)) 3).trans rfl)), (((blk_cell (SL.at_ (SL.get4 HS.out)) 4).trans rfl)), (((blk_cell (SL.at_ (SL.get4 HS.out)) 5).trans rfl)), (((blk_cell (SL.at_ (SL.get4 HS.out)) 6).trans rfl)), (((blk_cell (SL.at_ (SL.get3 HS.out)) 0).trans rfl)), (((blk_cell (SL.at_ (SL.get3 HS.out)) 1).trans rfl)), (((blk_cell (SL.at_ (SL.get3 HS.out)) 2).trans rfl)), (((blk_cell (SL.at_ (SL.get3 HS.out)) 3).trans rfl)), (((blk_cell (SL.at_ (SL.get3 HS.out)) 4).trans rfl)), (((blk_cell (SL.at_ (SL.get3 HS.out)) 5).trans rfl)), (((blk_cell (SL.at_ (SL.get3 HS.out)) 6).trans rfl))⟩ (fun hHeld => ?_)
                  clear hK K
                  refine norm_ (a' := ?_) ?_ ?_; rotate_left
                  · show Act.put _ (some 91) _ = _
                    simp only [Act.put, sT, sZ, sS, i64_w, i32_w]
                    rfl
                  refine pure_ (i := 14) (N := some 92) (v := ?_) (a' := ?_) #[true, true, true, true, true, true, true, true, true, true, true, true, true, true, true, false, false, false, false, false, false, false, false, false, false, false, false, false, false, false, false, false, false, false, false, false] rfl rfl (any_of HT_.out (by kernel_rfl)) (fun _ _ _ h => h) (Or.inl ⟨by rfl, ?_⟩) ?_ ?_; rotate_left; · (intro w'; go_simp; with_reducible rfl)
                  rotate_left; · (simp only [Act.put, sT, sZ, sS, i64_w, i32_w]; rfl)
                  refine pure_ (i := 15) (N := some 93) (v := ?_) (a' := ?_) #[true, true, true, true, true, true, true, true, true, true, true, true, true, true, true, true, false, false, false, false, false, false, false, false, false, false, false, false, false, false, false, false, false, false, false, false] rfl rfl (any_of HT_.out (by kernel_rfl)) (fun _ _ _ h => h) (Or.inl ⟨by rfl, ?_⟩) ?_ ?_; rotate_left; · (intro w'; go_simp; with_reducible rfl)
                  rotate_left; · (simp only [Act.put, sT, sZ, sS, i64_w, i32_w]; rfl)
                  refine pure_ (i := 16) (N := some 94) (v := ?_) (a' := ?_) #[true, true, true, true, true, true, true, true, true, true, true, true, true, true, true, true, true, false, false, false, false, false, false, false, false, false, false, false, false, false, false, false, false, false, false, false] rfl rfl (any_of HT_.out (by kernel_rfl)) (fun _ _ _ h => h) (Or.inl ⟨by rfl, ?_⟩) ?_ ?_; rotate_left; · (intro w'; go_simp; with_reducible rfl)
                  rotate_left; · (simp only [Act.put, sT, sZ, sS, i64_w, i32_w]; rfl)
                  refine pure_ (i := 17) (N := some 95) (v := ?_) (a' := ?_) #[true, true, true, true, true, true, true, true, true, true, true, true, true, true, true, true, true, true, false, false, false, false, false, false, false, false, false, false, false, false, false, false, false, false, false, false] rfl rfl (any_of HT_.out (by kernel_rfl)) (fun _ _ _ h => h) (Or.inl ⟨by rfl, ?_⟩) ?_ ?_; rotate_left; · (intro w'; go_simp; with_reducible rfl)
                  rotate_left; · (simp only [Act.put, sT, sZ, sS, i64_w, i32_w]; rfl)
                  refine take_ (i := 18) (N := some 96) (v := ?_) (a' := ?_) #[true, true, true, true, true, true, true, true, true, true, true, true, true, true, true, true, true, true, true, false, false, false, false, false, false, false, false, false, false, false, false, false, false, false, false, false] rfl rfl (take_ofW HT_.out HW_.out (by kernel_rfl)) (fun _ _ _ h => h) (Or.inl ⟨by rfl, ?_⟩) hHeld ?_ ?_; rotate_left
                  · rintro w' ⟨s0, s1, s2, s3, s4, s5, s6, s7, s8, s9, s10, s11, s12, s13, s14, s15, s16, s17, s18, s19, s20, s21, s22, s23, s24, s25, s26, s27, s28, s29, s30, s31, s32, s33, s34, s35, s36⟩
                    go_simp
                    with_reducible rfl
                  rotate_left; · (simp only [Act.put, sT, sZ, sS, i64_w, i32_w]; rfl)
                  refine take_ (i := 19) (N := some 97) (v := ?_) (a' := ?_) #[true, true, true, true, true, true, true, true, true, true, true, true, true, true, true, true, true, true, true, true, false, false, false, false, false, false, false, false, false, false, false, false, false, false, false, false] rfl rfl (take_ofW HT_.out HW_.out (by kernel_rfl)) (fun _ _ _ h => h) (Or.inl ⟨by rfl, ?_⟩) hHeld ?_ ?_; rotate_left
                  · rintro w' ⟨s0, s1, s2, s3, s4, s5, s6, s7, s8, s9, s10, s11, s12, s13, s14, s15, s16, s17, s18, s19, s20, s21, s22, s23, s24, s25, s26, s27, s28, s29, s30, s31, s32, s33, s34, s35, s36⟩
                    go_simp
                    with_reducible rfl
                  rotate_left; · (simp only [Act.put, sT, sZ, sS, i64_w, i32_w]; rfl)
                  refine one_ (i := 20) (N := some 98) #[true, true, true, true, true, true, true, true, true, true, true, true, true, true, true, true, true, true, true, true, true, false, false, false, false, false, false, false, false, false, false, false, false, false, false, false] rfl rfl (one_of HT_.out (by kernel_rfl)) (by decide) (fun K hK => ?_)
                  refine goes_ Try.func11 (by kernel_rfl) rfl #[.agg #[.int .i64 2, .int .i64 a0_0, .int .i64 a0_1, .int .i64 0, .int .i64 0, .int .i64 a3, .int .i64 a4], .agg #[.int .i64 a2_0, .int .i64 a2_1]] (by rfl) rfl rfl (by (try simp only [List.map_toArray, List.map_cons, List.map_nil]); first | done | rfl | (simp; done)) ?_
                  (with_reducible refine (area_In.calls k _ _ _ _ _ _ _ _ _ _ _  Hc43.out).mono ?_)
                  rintro e_ w63 ⟨rfl, hb_⟩
                  refine ⟨_, rfl, ?_⟩
                  replace HS := Aside0.mk (HS.out.below hb_)
                  replace HK := Aside0.mk (HK.out.trans (Keep.below hb_))
                  refine hK.out _ _ ⟨(((blk_cell (SL.at_ (SL.get6 HS.out)) 0).trans rfl)), (((blk_cell (SL.at_ (SL.get6 HS.out)) 1).trans rfl)), (((blk_cell (SL.at_ (SL.get6 HS.out)) 2).trans rfl)), (((blk_cell (SL.at_ (SL.get6 HS.out)) 3).trans rfl)), (((blk_cell (SL.at_ (SL.get6 HS.out)) 4).trans rfl)), (((blk_cell (SL.at_ (SL.get6 HS.out)) 5).trans rfl)), (((blk_cell (SL.at_ (SL.get6 HS.out)) 6).trans rfl)), (((blk_cell (SL.at_ (SL.get8 HS.out)) 0).trans rfl)), (((blk_cell (SL.at_ (SL.get8 HS.out)) 1).trans rfl)), (((blk_cell (SL.at_ (SL.get7 HS.out)) 0).trans rfl)), (((blk_cell (SL.at_ (SL.get7 HS.out)) 1).trans rfl)), (((blk_cell (SL.at_ (SL.get7 HS.out)) 2).trans rfl)), (((blk_cell (SL.at_ (SL.get7 HS.out)) 3).trans rfl)), (((blk_cell (SL.at_ (SL.get7 HS.out)) 4).trans rfl)), (((blk_cell (SL.at_ (SL.get7 HS.out)) 5).trans rfl)), (((blk_cell (SL.at_ (SL.get7 HS.out)) 6).trans rfl)), (((blk_cell (SL.at_ (SL.get5 HS.out)) 0).trans rfl)), (((blk_cell (SL.at_ (SL.get5 HS.out)) 1).trans rfl)), (((blk_cell (SL.at_ (SL.get5 HS.out)) 2).trans rfl)), (((blk_cell (SL.at_ (SL.get5 HS.out)) 3).trans rfl)), (((blk_cell (SL.at_ (SL.get5 HS.out)) 4).trans rfl)), (((blk_cell (SL.at_ (SL.get5 HS.out)) 5).trans rfl)), (((blk_cell (SL.at_ (SL.get5 HS.out)) 6).trans rfl)), (((blk_cell (SL.at_ (SL.get4 HS.out)) 0).trans rfl)), (((blk_cell (SL.at_ (SL.get4 HS.out)) 1).trans rfl)), (((blk_cell (SL.at_ (SL.get4 HS.out)) 2).trans rfl)), (((blk_cell (SL.at_ (SL.get4 HS.out)) 3).trans rfl)), (((blk_cell (SL.at_ (SL.get4 HS.out)) 4).trans rfl)), (((blk_cell (SL.at_ (SL.get4 HS.out)) 5).trans rfl)), (((blk_cell (SL.at_ (SL.get4 HS.out)) 6).trans rfl)), (((blk_cell (SL.at_ (SL.get3 HS.out)) 0).trans rfl)), (((blk_cell (SL.at_ (SL.get3 HS.out)) 1).trans rfl)), (((blk_cell (SL.at_ (SL.get3 HS.out)) 2).trans rfl)), (((blk_cell (SL.at_ (SL.get3 HS.out)) 3).trans rfl)), (((blk_cell (SL.at_ (SL.get3 HS.out)) 4).trans rfl)), (((blk_cell (SL.at_ (SL.get3 HS.out)) 5).trans rfl)), (((blk_cell (SL.at_ (SL.get3 HS.out)) 6).trans rfl))⟩ (fun hHeld => ?_)
                  clear hK K
                  refine norm_ (a' := ?_) ?_ ?_; rotate_left
                  · show Act.put _ (some 98) _ = _
                    simp only [Act.put, sT, sZ, sS, i64_w, i32_w]
                    rfl
                  refine pure_ (i := 21) (N := some 99) (v := ?_) (a' := ?_) #[true, true, true, true, true, true, true, true, true, true, true, true, true, true, true, true, true, true, true, true, true, true, false, false, false, false, false, false, false, false, false, false, false, false, false, false] rfl rfl (any_of HT_.out (by kernel_rfl)) (fun _ _ _ h => h) (Or.inl ⟨by rfl, ?_⟩) ?_ ?_; rotate_left; · (intro w'; go_simp; with_reducible rfl)
                  rotate_left; · (simp only [Act.put, sT, sZ, sS, i64_w, i32_w]; rfl)
                  refine pure_ (i := 22) (N := some 100) (v := undef) (a' := ?_) #[true, true, true, true, true, true, true, true, true, true, true, true, true, true, true, true, true, true, true, true, true, true, true, false, false, false, false, false, false, false, false, false, false, false, false, false] rfl rfl (any_of HT_.out (by kernel_rfl)) (fun _ _ _ h => h) (Or.inr ⟨by rfl, rfl⟩) ?_ ?_; rotate_left; · (simp only [Act.put, sT, sZ, sS, i64_w, i32_w]; rfl)
                  refine pure_ (i := 23) (N := some 101) (v := undef) (a' := ?_) #[true, true, true, true, true, true, true, true, true, true, true, true, true, true, true, true, true, true, true, true, true, true, true, true, false, false, false, false, false, false, false, false, false, false, false, false] rfl rfl (any_of HT_.out (by kernel_rfl)) (fun _ _ _ h => h) (Or.inr ⟨by rfl, rfl⟩) ?_ ?_; rotate_left; · (simp only [Act.put, sT, sZ, sS, i64_w, i32_w]; rfl)
                  refine pure_ (i := 24) (N := some 102) (v := undef) (a' := ?_) #[true, true, true, true, true, true, true, true, true, true, true, true, true, true, true, true, true, true, true, true, true, true, true, true, true, false, false, false, false, false, false, false, false, false, false, false] rfl rfl (any_of HT_.out (by kernel_rfl)) (fun _ _ _ h => h) (Or.inr ⟨by rfl, rfl⟩) ?_ ?_; rotate_left; · (simp only [Act.put, sT, sZ, sS, i64_w, i32_w]; rfl)
                  refine pure_ (i := 25) (N := some 103) (v := ?_) (a' := ?_) #[true, true, true, true, true, true, true, true, true, true, true, true, true, true, true, true, true, true, true, true, true, true, true, true, true, true, false, false, false, false, false, false, false, false, false, false] rfl rfl (any_of HT_.out (by kernel_rfl)) (fun _ _ _ h => h) (Or.inl ⟨by rfl, ?_⟩) ?_ ?_; rotate_left; · (intro w'; go_simp; with_reducible rfl)
                  rotate_left; · (simp only [Act.put, sT, sZ, sS, i64_w, i32_w]; rfl)
                  refine pure_ (i := 26) (N := some 104) (v := ?_) (a' := ?_) #[true, true, true, true, true, true, true, true, true, true, true, true, true, true, true, true, true, true, true, true, true, true, true, true, true, true, true, false, false, false, false, false, false, false, false, false] rfl rfl (any_of HT_.out (by kernel_rfl)) (fun _ _ _ h => h) (Or.inl ⟨by rfl, ?_⟩) ?_ ?_; rotate_left; · (intro w'; go_simp; with_reducible rfl)
                  rotate_left; · (simp only [Act.put, sT, sZ, sS, i64_w, i32_w]; rfl)
                  refine pure_ (i := 27) (N := some 105) (v := ?_) (a' := ?_) #[true, true, true, true, true, true, true, true, true, true, true, true, true, true, true, true, true, true, true, true, true, true, true, true, true, true, true, true, false, false, false, false, false, false, false, false] rfl rfl (any_of HT_.out (by kernel_rfl)) (fun _ _ _ h => h) (Or.inl ⟨by rfl, ?_⟩) ?_ ?_; rotate_left; · (intro w'; go_simp; with_reducible rfl)
                  rotate_left; · (simp only [Act.put, sT, sZ, sS, i64_w, i32_w]; rfl)
                  refine take_ (i := 28) (N := some 106) (v := ?_) (a' := ?_) #[true, true, true, true, true, true, true, true, true, true, true, true, true, true, true, true, true, true, true, true, true, true, true, true, true, true, true, true, true, false, false, false, false, false, false, false] rfl rfl (take_ofW HT_.out HW_.out (by kernel_rfl)) (fun _ _ _ h => h) (Or.inl ⟨by rfl, ?_⟩) hHeld ?_ ?_; rotate_left
                  · rintro w' ⟨s0, s1, s2, s3, s4, s5, s6, s7, s8, s9, s10, s11, s12, s13, s14, s15, s16, s17, s18, s19, s20, s21, s22, s23, s24, s25, s26, s27, s28, s29, s30, s31, s32, s33, s34, s35, s36⟩
                    go_simp
                    with_reducible rfl
                  rotate_left; · (simp only [Act.put, sT, sZ, sS, i64_w, i32_w]; rfl)
                  refine take_ (i := 29) (N := some 107) (v := ?_) (a' := ?_) #[true, true, true, true, true, true, true, true, true, true, true, true, true, true, true, true, true, true, true, true, true, true, true, true, true, true, true, true, true, true, false, false, false, false, false, false] rfl rfl (take_ofW HT_.out HW_.out (by kernel_rfl)) (fun _ _ _ h => h) (Or.inl ⟨by rfl, ?_⟩) hHeld ?_ ?_; rotate_left
                  · rintro w' ⟨s0, s1, s2, s3, s4, s5, s6, s7, s8, s9, s10, s11, s12, s13, s14, s15, s16, s17, s18, s19, s20, s21, s22, s23, s24, s25, s26, s27, s28, s29, s30, s31, s32, s33, s34, s35, s36⟩
                    go_simp
                    with_reducible rfl
                  rotate_left; · (simp only [Act.put, sT, sZ, sS, i64_w, i32_w]; rfl)
                  refine take_ (i := 31) (N := some 109) (v := ?_) (a' := ?_) #[true, true, true, true, true, true, true, true, true, true, true, true, true, true, true, true, true, true, true, true, true, true, true, true, true, true, true, true, true, true, false, true, false, false, false, false] rfl rfl (take_ofW HT_.out HW_.out (by kernel_rfl)) (fun _ _ _ h => h) (Or.inl ⟨by rfl, ?_⟩) hHeld ?_ ?_; rotate_left
                  · rintro w' ⟨s0, s1, s2, s3, s4, s5, s6, s7, s8, s9, s10, s11, s12, s13, s14, s15, s16, s17, s18, s19, s20, s21, s22, s23, s24, s25, s26, s27, s28, s29, s30, s31, s32, s33, s34, s35, s36⟩
                    go_simp
                    with_reducible rfl
                  rotate_left; · (simp only [Act.put, sT, sZ, sS, i64_w, i32_w]; rfl)
                  refine take_ (i := 32) (N := some 110) (v := ?_) (a' := ?_) #[true, true, true, true, true, true, true, true, true, true, true, true, true, true, true, true, true, true, true, true, true, true, true, true, true, true, true, true, true, true, false, true, true, false, false, false] rfl rfl (take_ofW HT_.out HW_.out (by kernel_rfl)) (fun _ _ _ h => h) (Or.inl ⟨by rfl, ?_⟩) hHeld ?_ ?_; rotate_left
                  · rintro w' ⟨s0, s1, s2, s3, s4, s5, s6, s7, s8, s9, s10, s11, s12, s13, s14, s15, s16, s17, s18, s19, s20, s21, s22, s23, s24, s25, s26, s27, s28, s29, s30, s31, s32, s33, s34, s35, s36⟩
                    go_simp
                    with_reducible rfl
                  rotate_left; · (simp only [Act.put, sT, sZ, sS, i64_w, i32_w]; rfl)
                  refine one_ (i := 30) (N := some 108) #[true, true, true, true, true, true, true, true, true, true, true, true, true, true, true, true, true, true, true, true, true, true, true, true, true, true, true, true, true, true, true, true, true, false, false, false] rfl rfl (one_of HT_.out (by kernel_rfl)) (by decide) (fun K hK => ?_)
                  refine goes_ Try.func11 (by kernel_rfl) rfl #[.agg #[.int .i64 3, .int .i64 a0_0, .int .i64 a0_1, .int .i64 a1_0, .int .i64 a1_1, .int .i64 0, .int .i64 0], .agg #[.int .i64 a2_0, .int .i64 a2_1]] (by rfl) rfl rfl (by (try simp only [List.map_toArray, List.map_cons, List.map_nil]); first | done | rfl | (simp; done)) ?_
                  (with_reducible refine (area_In.calls k _ _ _ _ _ _ _ _ _ _ _  Hc58.out).mono ?_)
                  rintro e_ w64 ⟨rfl, hb_⟩
                  refine ⟨_, rfl, ?_⟩
                  replace HS := Aside0.mk (HS.out.below hb_)
                  replace HK := Aside0.mk (HK.out.trans (Keep.below hb_))
                  refine hK.out _ _ ⟨(((blk_cell (SL.at_ (SL.get6 HS.out)) 0).trans rfl)), (((blk_cell (SL.at_ (SL.get6 HS.out)) 1).trans rfl)), (((blk_cell (SL.at_ (SL.get6 HS.out)) 2).trans rfl)), (((blk_cell (SL.at_ (SL.get6 HS.out)) 3).trans rfl)), (((blk_cell (SL.at_ (SL.get6 HS.out)) 4).trans rfl)), (((blk_cell (SL.at_ (SL.get6 HS.out)) 5).trans rfl)), (((blk_cell (SL.at_ (SL.get6 HS.out)) 6).trans rfl)), (((blk_cell (SL.at_ (SL.get8 HS.out)) 0).trans rfl)), (((blk_cell (SL.at_ (SL.get8 HS.out)) 1).trans rfl)), (((blk_cell (SL.at_ (SL.get7 HS.out)) 0).trans rfl)), (((blk_cell (SL.at_ (SL.get7 HS.out)) 1).trans rfl)), (((blk_cell (SL.at_ (SL.get7 HS.out)) 2).trans rfl)), (((blk_cell (SL.at_ (SL.get7 HS.out)) 3).trans rfl)), (((blk_cell (SL.at_ (SL.get7 HS.out)) 4).trans rfl)), (((blk_cell (SL.at_ (SL.get7 HS.out)) 5).trans rfl)), (((blk_cell (SL.at_ (SL.get7 HS.out)) 6).trans rfl)), (((blk_cell (SL.at_ (SL.get5 HS.out)) 0).trans rfl)), (((blk_cell (SL.at_ (SL.get5 HS.out)) 1).trans rfl)), (((blk_cell (SL.at_ (SL.get5 HS.out)) 2).trans rfl)), (((blk_cell (SL.at_ (SL.get5 HS.out)) 3).trans rfl)), (((blk_cell (SL.at_ (SL.get5 HS.out)) 4).trans rfl)), (((blk_cell (SL.at_ (SL.get5 HS.out)) 5).trans rfl)), (((blk_cell (SL.at_ (SL.get5 HS.out)) 6).trans rfl)), (((blk_cell (SL.at_ (SL.get4 HS.out)) 0).trans rfl)), (((blk_cell (SL.at_ (SL.get4 HS.out)) 1).trans rfl)), (((blk_cell (SL.at_ (SL.get4 HS.out)) 2).trans rfl)), (((blk_cell (SL.at_ (SL.get4 HS.out)) 3).trans rfl)), (((blk_cell (SL.at_ (SL.get4 HS.out)) 4).trans rfl)), (((blk_cell (SL.at_ (SL.get4 HS.out)) 5).trans rfl)), (((blk_cell (SL.at_ (SL.get4 HS.out)) 6).trans rfl)), (((blk_cell (SL.at_ (SL.get3 HS.out)) 0).trans rfl)), (((blk_cell (SL.at_ (SL.get3 HS.out)) 1).trans rfl)), (((blk_cell (SL.at_ (SL.get3 HS.out)) 2).trans rfl)), (((blk_cell (SL.at_ (SL.get3 HS.out)) 3).trans rfl)), (((blk_cell (SL.at_ (SL.get3 HS.out)) 4).trans rfl)), (((blk_cell (SL.at_ (SL.get3 HS.out)) 5).trans rfl)), (((blk_cell (SL.at_ (SL.get3 HS.out)) 6).trans rfl))⟩ (fun hHeld => ?_)
                  clear hK K
                  refine norm_ (a' := ?_) ?_ ?_; rotate_left
                  · show Act.put _ (some 108) _ = _
                    simp only [Act.put, sT, sZ, sS, i64_w, i32_w]
                    rfl
                  refine one_ (i := 33) (N := some 111) #[true, true, true, true, true, true, true, true, true, true, true, true, true, true, true, true, true, true, true, true, true, true, true, true, true, true, true, true, true, true, true, true, true, true, false, false] rfl rfl (one_of HT_.out (by kernel_rfl)) (by decide) (fun K hK => ?_)
                  refine goes_ Try.func11 (by kernel_rfl) rfl #[.agg #[.int .i64 3, .int .i64 a1_0, .int .i64 a1_1, .int .i64 a0_0, .int .i64 a0_1, .int .i64 0, .int .i64 0], .agg #[.int .i64 a2_0, .int .i64 a2_1]] (by rfl) rfl rfl (by (try simp only [List.map_toArray, List.map_cons, List.map_nil]); first | done | rfl | (simp; done)) ?_
                  (with_reducible refine (area_In.calls k _ _ _ _ _ _ _ _ _ _ _  Hc59.out).mono ?_)
                  rintro e_ w65 ⟨rfl, hb_⟩
                  refine ⟨_, rfl, ?_⟩
                  replace HS := Aside0.mk (HS.out.below hb_)
                  replace HK := Aside0.mk (HK.out.trans (Keep.below hb_))
                  refine hK.out _ _ ⟨(((blk_cell (SL.at_ (SL.get6 HS.out)) 0).trans rfl)), (((blk_cell (SL.at_ (SL.get6 HS.out)) 1).trans rfl)), (((blk_cell (SL.at_ (SL.get6 HS.out)) 2).trans rfl)), (((blk_cell (SL.at_ (SL.get6 HS.out)) 3).trans rfl)), (((blk_cell (SL.at_ (SL.get6 HS.out)) 4).trans rfl)), (((blk_cell (SL.at_ (SL.get6 HS.out)) 5).trans rfl)), (((blk_cell (SL.at_ (SL.get6 HS.out)) 6).trans rfl)), (((blk_cell (SL.at_ (SL.get8 HS.out)) 0).trans rfl)), (((blk_cell (SL.at_ (SL.get8 HS.out)) 1).trans rfl)), (((blk_cell (SL.at_ (SL.get7 HS.out)) 0).trans rfl)), (((blk_cell (SL.at_ (SL.get7 HS.out)) 1).trans rfl)), (((blk_cell (SL.at_ (SL.get7 HS.out)) 2).trans rfl)), (((blk_cell (SL.at_ (SL.get7 HS.out)) 3).trans rfl)), (((blk_cell (SL.at_ (SL.get7 HS.out)) 4).trans rfl)), (((blk_cell (SL.at_ (SL.get7 HS.out)) 5).trans rfl)), (((blk_cell (SL.at_ (SL.get7 HS.out)) 6).trans rfl)), (((blk_cell (SL.at_ (SL.get5 HS.out)) 0).trans rfl)), (((blk_cell (SL.at_ (SL.get5 HS.out)) 1).trans rfl)), (((blk_cell (SL.at_ (SL.get5 HS.out)) 2).trans rfl)), (((blk_cell (SL.at_ (SL.get5 HS.out)) 3).trans rfl)), (((blk_cell (SL.at_ (SL.get5 HS.out)) 4).trans rfl)), (((blk_cell (SL.at_ (SL.get5 HS.out)) 5).trans rfl)), (((blk_cell (SL.at_ (SL.get5 HS.out)) 6).trans rfl)), (((blk_cell (SL.at_ (SL.get4 HS.out)) 0).trans rfl)), (((blk_cell (SL.at_ (SL.get4 HS.out)) 1).trans rfl)), (((blk_cell (SL.at_ (SL.get4 HS.out)) 2).trans rfl)), (((blk_cell (SL.at_ (SL.get4 HS.out)) 3).trans rfl)), (((blk_cell (SL.at_ (SL.get4 HS.out)) 4).trans rfl)), (((blk_cell (SL.at_ (SL.get4 HS.out)) 5).trans rfl)), (((blk_cell (SL.at_ (SL.get4 HS.out)) 6).trans rfl)), (((blk_cell (SL.at_ (SL.get3 HS.out)) 0).trans rfl)), (((blk_cell (SL.at_ (SL.get3 HS.out)) 1).trans rfl)), (((blk_cell (SL.at_ (SL.get3 HS.out)) 2).trans rfl)), (((blk_cell (SL.at_ (SL.get3 HS.out)) 3).trans rfl)), (((blk_cell (SL.at_ (SL.get3 HS.out)) 4).trans rfl)), (((blk_cell (SL.at_ (SL.get3 HS.out)) 5).trans rfl)), (((blk_cell (SL.at_ (SL.get3 HS.out)) 6).trans rfl))⟩ (fun hHeld => ?_)
                  clear hK K
                  refine norm_ (a' := ?_) ?_ ?_; rotate_left
                  · show Act.put _ (some 111) _ = _
                    simp only [Act.put, sT, sZ, sS, i64_w, i32_w]
                    rfl
                  refine pure_ (i := 34) (N := some 112) (v := ?_) (a' := ?_) #[true, true, true, true, true, true, true, true, true, true, true, true, true, true, true, true, true, true, true, true, true, true, true, true, true, true, true, true, true, true, true, true, true, true, true, false] rfl rfl (any_of HT_.out (by kernel_rfl)) (fun _ _ _ h => h) (Or.inl ⟨by rfl, ?_⟩) ?_ ?_; rotate_left; · (intro w'; go_simp; with_reducible rfl)
                  rotate_left; · (simp only [Act.put, sT, sZ, sS, i64_w, i32_w]; rfl)
                  refine pure_ (i := 35) (N := some 113) (v := ?_) (a' := ?_) #[true, true, true, true, true, true, true, true, true, true, true, true, true, true, true, true, true, true, true, true, true, true, true, true, true, true, true, true, true, true, true, true, true, true, true, true] rfl rfl (any_of HT_.out (by kernel_rfl)) (fun _ _ _ h => h) (Or.inl ⟨by rfl, ?_⟩) ?_ ?_; rotate_left; · (intro w'; go_simp; with_reducible rfl)
                  rotate_left; · (simp only [Act.put, sT, sZ, sS, i64_w, i32_w]; rfl)
                  refine done_ (done_of HT_.out (by kernel_rfl)) ?_
                  try go_wp2
                  go_meet
                  case rel => exact ⟨k, ((t518 != t519)), (by first | rfl | (simp; done) | (simp [*]; done)), H', ⟨by omega⟩, HS, HK⟩
            · rw [if_neg c41] at H
              have c41b0 : decide (a3 ≤ a4) = false := decide_eq_false c41
              clear c41
              replace H := Option.bind_eq_some_iff.1 H
              obtain ⟨t520, Hc660, H⟩ := H
              try dsimp only at H
              have Hc66 := Aside0.mk Hc660
              clear Hc660
              by_cases c67 : t520 = true
              · subst c67
                rw [if_pos rfl] at H
                replace H := Option.bind_eq_some_iff.1 H
                obtain ⟨t521, Hc680, H⟩ := H
                try dsimp only at H
                have Hc68 := Aside0.mk Hc680
                clear Hc680
                by_cases c69 : t521 = true
                · subst c69
                  rw [if_pos rfl] at H
                  exact absurd H (by simp)
                · replace c69 := Bool.eq_false_iff.mpr c69
                  subst c69
                  rw [if_neg (show ¬ (false = true) by decide)] at H
                  replace H := Option.bind_eq_some_iff.1 H
                  obtain ⟨t522, Hc700, H⟩ := H
                  try dsimp only at H
                  have Hc70 := Aside0.mk Hc700
                  clear Hc700
                  replace H := Option.bind_eq_some_iff.1 H
                  obtain ⟨t523, Hc710, H⟩ := H
                  try dsimp only at H
                  have Hc71 := Aside0.mk Hc710
                  clear Hc710
                  have H' := Aside0.mk H
                  clear H
                  try go_wp2
                  refine start_ (n := 36) (S := fun w' => w'.cell? ⟨g3000048, 0, none⟩ = some (.int .i64 2) ∧ w'.cell? ⟨g3000048, 1, none⟩ = some (.int .i64 a0_0) ∧ w'.cell? ⟨g3000048, 2, none⟩ = some (.int .i64 a0_1) ∧ w'.cell? ⟨g3000048, 3, none⟩ = some (.int .i64 0) ∧ w'.cell? ⟨g3000048, 4, none⟩ = some (.int .i64 0) ∧ w'.cell? ⟨g3000048, 5, none⟩ = some (.int .i64 a3) ∧ w'.cell? ⟨g3000048, 6, none⟩ = some (.int .i64 a4) ∧ w'.cell? ⟨g3000047, 0, none⟩ = some (.int .i64 a2_0) ∧ w'.cell? ⟨g3000047, 1, none⟩ = some (.int .i64 a2_1) ∧ w'.cell? ⟨g3000050, 0, none⟩ = some (.int .i64 1) ∧ w'.cell? ⟨g3000050, 1, none⟩ = some (.int .i64 a0_0) ∧ w'.cell? ⟨g3000050, 2, none⟩ = some (.int .i64 a0_1) ∧ w'.cell? ⟨g3000050, 3, none⟩ = some (.int .i64 0) ∧ w'.cell? ⟨g3000050, 4, none⟩ = some (.int .i64 0) ∧ w'.cell? ⟨g3000050, 5, none⟩ = some (.int .i64 a3) ∧ w'.cell? ⟨g3000050, 6, none⟩ = some (.int .i64 0) ∧ w'.cell? ⟨g3000051, 0, none⟩ = some (.int .i64 3) ∧ w'.cell? ⟨g3000051, 1, none⟩ = some (.int .i64 a0_0) ∧ w'.cell? ⟨g3000051, 2, none⟩ = some (.int .i64 a0_1) ∧ w'.cell? ⟨g3000051, 3, none⟩ = some (.int .i64 a1_0) ∧ w'.cell? ⟨g3000051, 4, none⟩ = some (.int .i64 a1_1) ∧ w'.cell? ⟨g3000051, 5, none⟩ = some (.int .i64 0) ∧ w'.cell? ⟨g3000051, 6, none⟩ = some (.int .i64 0) ∧ w'.cell? ⟨g3000052, 0, none⟩ = some (.int .i64 3) ∧ w'.cell? ⟨g3000052, 1, none⟩ = some (.int .i64 a1_0) ∧ w'.cell? ⟨g3000052, 2, none⟩ = some (.int .i64 a1_1) ∧ w'.cell? ⟨g3000052, 3, none⟩ = some (.int .i64 a0_0) ∧ w'.cell? ⟨g3000052, 4, none⟩ = some (.int .i64 a0_1) ∧ w'.cell? ⟨g3000052, 5, none⟩ = some (.int .i64 0) ∧ w'.cell? ⟨g3000052, 6, none⟩ = some (.int .i64 0)) (ds := []) #[false, false, false, false, false, false, false, false, false, false, false, false, false, false, false, false, false, false, false, false, false, false, false, false, false, false, false, false, false, false, false, false, false, false, false, false] (by kernel_rfl) rfl rfl ⟨(((blk_cell (SL.at_ (SL.get7 HS.out)) 0).trans rfl)), (((blk_cell (SL.at_ (SL.get7 HS.out)) 1).trans rfl)), (((blk_cell (SL.at_ (SL.get7 HS.out)) 2).trans rfl)), (((blk_cell (SL.at_ (SL.get7 HS.out)) 3).trans rfl)), (((blk_cell (SL.at_ (SL.get7 HS.out)) 4).trans rfl)), (((blk_cell (SL.at_ (SL.get7 HS.out)) 5).trans rfl)), (((blk_cell (SL.at_ (SL.get7 HS.out)) 6).trans rfl)), (((blk_cell (SL.at_ (SL.get8 HS.out)) 0).trans rfl)), (((blk_cell (SL.at_ (SL.get8 HS.out)) 1).trans rfl)), (((blk_cell (SL.at_ (SL.get5 HS.out)) 0).trans rfl)), (((blk_cell (SL.at_ (SL.get5 HS.out)) 1).trans rfl)), (((blk_cell (SL.at_ (SL.get5 HS.out)) 2).trans rfl)), (((blk_cell (SL.at_ (SL.get5 HS.out)) 3).trans rfl)), (((blk_cell (SL.at_ (SL.get5 HS.out)) 4).trans rfl)), (((blk_cell (SL.at_ (SL.get5 HS.out)) 5).trans rfl)), (((blk_cell (SL.at_ (SL.get5 HS.out)) 6).trans rfl)), (((blk_cell (SL.at_ (SL.get4 HS.out)) 0).trans rfl)), (((blk_cell (SL.at_ (SL.get4 HS.out)) 1).trans rfl)), (((blk_cell (SL.at_ (SL.get4 HS.out)) 2).trans rfl)), (((blk_cell (SL.at_ (SL.get4 HS.out)) 3).trans rfl)), (((blk_cell (SL.at_ (SL.get4 HS.out)) 4).trans rfl)), (((blk_cell (SL.at_ (SL.get4 HS.out)) 5).trans rfl)), (((blk_cell (SL.at_ (SL.get4 HS.out)) 6).trans rfl)), (((blk_cell (SL.at_ (SL.get3 HS.out)) 0).trans rfl)), (((blk_cell (SL.at_ (SL.get3 HS.out)) 1).trans rfl)), (((blk_cell (SL.at_ (SL.get3 HS.out)) 2).trans rfl)), (((blk_cell (SL.at_ (SL.get3 HS.out)) 3).trans rfl)), (((blk_cell (SL.at_ (SL.get3 HS.out)) 4).trans rfl)), (((blk_cell (SL.at_ (SL.get3 HS.out)) 5).trans rfl)), (((blk_cell (SL.at_ (SL.get3 HS.out)) 6).trans rfl))⟩ (fun hHeld => ?_); refine with_tabW barrowlaw32_AreaShapes.tab12 barrowlaw32_AreaShapes.bits12 (fun HT_ HW_ => ?_)
                  replace HK := Aside0.mk (Keep.drew HK.out)
                  replace HS := Aside0.mk (SL.drew HS.out)
                  refine pure_ (i := 0) (N := some 78) (v := ?_) (a' := ?_) #[true, false, false, false, false, false, false, false, false, false, false, false, false, false, false, false, false, false, false, false, false, false, false, false, false, false, false, false, false, false, false, false, false, false, false, false] rfl rfl (any_of HT_.out (by kernel_rfl)) (fun _ _ _ h => h) (Or.inl ⟨by rfl, ?_⟩) ?_ ?_; rotate_left; · (intro w'; go_simp; with_reducible rfl)
                  rotate_left; · (simp only [Act.put, sT, sZ, sS, i64_w, i32_w]; rfl)
                  refine pure_ (i := 1) (N := some 79) (v := ?_) (a' := ?_) #[true, true, false, false, false, false, false, false, false, false, false, false, false, false, false, false, false, false, false, false, false, false, false, false, false, false, false, false, false, false, false, false, false, false, false, false] rfl rfl (any_of HT_.out (by kernel_rfl)) (fun _ _ _ h => h) (Or.inl ⟨by rfl, ?_⟩) ?_ ?_; rotate_left; · (intro w'; go_simp; with_reducible rfl)
                  rotate_left; · (simp only [Act.put, sT, sZ, sS, i64_w, i32_w]; rfl)
                  refine pure_ (i := 2) (N := some 80) (v := ?_) (a' := ?_) #[true, true, true, false, false, false, false, false, false, false, false, false, false, false, false, false, false, false, false, false, false, false, false, false, false, false, false, false, false, false, false, false, false, false, false, false] rfl rfl (any_of HT_.out (by kernel_rfl)) (fun _ _ _ h => h) (Or.inl ⟨by rfl, ?_⟩) ?_ ?_; rotate_left; · (intro w'; go_simp; with_reducible rfl)
                  rotate_left; · (simp only [Act.put, sT, sZ, sS, i64_w, i32_w]; rfl)
                  refine pure_ (i := 3) (N := some 81) (v := ?_) (a' := ?_) #[true, true, true, true, false, false, false, false, false, false, false, false, false, false, false, false, false, false, false, false, false, false, false, false, false, false, false, false, false, false, false, false, false, false, false, false] rfl rfl (any_of HT_.out (by kernel_rfl)) (fun _ _ _ h => h) (Or.inl ⟨by rfl, ?_⟩) ?_ ?_; rotate_left; · (intro w'; go_simp; with_reducible rfl)
                  rotate_left; · (simp only [Act.put, sT, sZ, sS, i64_w, i32_w]; rfl)
                  refine pure_ (i := 4) (N := some 82) (v := undef) (a' := ?_) #[true, true, true, true, true, false, false, false, false, false, false, false, false, false, false, false, false, false, false, false, false, false, false, false, false, false, false, false, false, false, false, false, false, false, false, false] rfl rfl (any_of HT_.out (by kernel_rfl)) (fun _ _ _ h => h) (Or.inr ⟨by rfl, rfl⟩) ?_ ?_; rotate_left; · (simp only [Act.put, sT, sZ, sS, i64_w, i32_w]; rfl)
                  refine pure_ (i := 5) (N := some 83) (v := undef) (a' := ?_) #[true, true, true, true, true, true, false, false, false, false, false, false, false, false, false, false, false, false, false, false, false, false, false, false, false, false, false, false, false, false, false, false, false, false, false, false] rfl rfl (any_of HT_.out (by kernel_rfl)) (fun _ _ _ h => h) (Or.inr ⟨by rfl, rfl⟩) ?_ ?_; rotate_left; · (simp only [Act.put, sT, sZ, sS, i64_w, i32_w]; rfl)
                  refine pure_ (i := 6) (N := some 84) (v := undef) (a' := ?_) #[true, true, true, true, true, true, true, false, false, false, false, false, false, false, false, false, false, false, false, false, false, false, false, false, false, false, false, false, false, false, false, false, false, false, false, false] rfl rfl (any_of HT_.out (by kernel_rfl)) (fun _ _ _ h => h) (Or.inr ⟨by rfl, rfl⟩) ?_ ?_; rotate_left; · (simp only [Act.put, sT, sZ, sS, i64_w, i32_w]; rfl)
                  refine pure_ (i := 7) (N := some 85) (v := undef) (a' := ?_) #[true, true, true, true, true, true, true, true, false, false, false, false, false, false, false, false, false, false, false, false, false, false, false, false, false, false, false, false, false, false, false, false, false, false, false, false] rfl rfl (any_of HT_.out (by kernel_rfl)) (fun _ _ _ h => h) (Or.inr ⟨by rfl, rfl⟩) ?_ ?_; rotate_left; · (simp only [Act.put, sT, sZ, sS, i64_w, i32_w]; rfl)
                  refine pure_ (i := 8) (N := some 86) (v := undef) (a' := ?_) #[true, true, true, true, true, true, true, true, true, false, false, false, false, false, false, false, false, false, false, false, false, false, false, false, false, false, false, false, false, false, false, false, false, false, false, false] rfl rfl (any_of HT_.out (by kernel_rfl)) (fun _ _ _ h => h) (Or.inr ⟨by rfl, rfl⟩) ?_ ?_; rotate_left; · (simp only [Act.put, sT, sZ, sS, i64_w, i32_w]; rfl)
                  refine pure_ (i := 9) (N := some 87) (v := undef) (a' := ?_) #[true, true, true, true, true, true, true, true, true, true, false, false, false, false, false, false, false, false, false, false, false, false, false, false, false, false, false, false, false, false, false, false, false, false, false, false] rfl rfl (any_of HT_.out (by kernel_rfl)) (fun _ _ _ h => h) (Or.inr ⟨by rfl, rfl⟩) ?_ ?_; rotate_left; · (simp only [Act.put, sT, sZ, sS, i64_w, i32_w]; rfl)
                  refine pure_ (i := 10) (N := some 88) (v := undef) (a' := ?_) #[true, true, true, true, true, true, true, true, true, true, true, false, false, false, false, false, false, false, false, false, false, false, false, false, false, false, false, false, false, false, false, false, false, false, false, false] rfl rfl (any_of HT_.out (by kernel_rfl)) (fun _ _ _ h => h) (Or.inr ⟨by rfl, rfl⟩) ?_ ?_; rotate_left; · (simp only [Act.put, sT, sZ, sS, i64_w, i32_w]; rfl)
                  refine pure_ (i := 11) (N := some 89) (v := undef) (a' := ?_) #[true, true, true, true, true, true, true, true, true, true, true, true, false, false, false, false, false, false, false, false, false, false, false, false, false, false, false, false, false, false, false, false, false, false, false, false] rfl rfl (any_of HT_.out (by kernel_rfl)) (fun _ _ _ h => h) (Or.inr ⟨by rfl, rfl⟩) ?_ ?_; rotate_left; · (simp only [Act.put, sT, sZ, sS, i64_w, i32_w]; rfl)
                  refine pure_ (i := 12) (N := some 90) (v := undef) (a' := ?_) #[true, true, true, true, true, true, true, true, true, true, true, true, true, false, false, false, false, false, false, false, false, false, false, false, false, false, false, false, false, false, false, false, false, false, false, false] rfl rfl (any_of HT_.out (by kernel_rfl)) (fun _ _ _ h => h) (Or.inr ⟨by rfl, rfl⟩) ?_ ?_; rotate_left; · (simp only [Act.put, sT, sZ, sS, i64_w, i32_w]; rfl)
                  refine pure_ (i := 13) (N := some 91) (v := undef) (a' := ?_) #[true, true, true, true, true, true, true, true, true, true, true, true, true, true, false, false, false, false, false, false, false, false, false, false, false, false, false, false, false, false, false, false, false, false, false, false] rfl rfl (any_of HT_.out (by kernel_rfl)) (fun _ _ _ h => h) (Or.inr ⟨by rfl, rfl⟩) ?_ ?_; rotate_left; · (simp only [Act.put, sT, sZ, sS, i64_w, i32_w]; rfl)
                  refine pure_ (i := 14) (N := some 92) (v := undef) (a' := ?_) #[true, true, true, true, true, true, true, true, true, true, true, true, true, true, true, false, false, false, false, false, false, false, false, false, false, false, false, false, false, false, false, false, false, false, false, false] rfl rfl (any_of HT_.out (by kernel_rfl)) (fun _ _ _ h => h) (Or.inr ⟨by rfl, rfl⟩) ?_ ?_; rotate_left; · (simp only [Act.put, sT, sZ, sS, i64_w, i32_w]; rfl)
                  refine pure_ (i := 15) (N := some 93) (v := undef) (a' := ?_) #[true, true, true, true, true, true, true, true, true, true, true, true, true, true, true, true, false, false, false, false, false, false, false, false, false, false, false, false, false, false, false, false, false, false, false, false] rfl rfl (any_of HT_.out (by kernel_rfl)) (fun _ _ _ h => h) (Or.inr ⟨by rfl, rfl⟩) ?_ ?_; rotate_left; · (simp only [Act.put, sT, sZ, sS, i64_w, i32_w]; rfl)
                  refine pure_ (i := 16) (N := some 94) (v := ?_) (a' := ?_) #[true, true, true, true, true, true, true, true, true, true, true, true, true, true, true, true, true, false, false, false, false, false, false, false, false, false, false, false, false, false, false, false, false, false, false, false] rfl rfl (any_of HT_.out (by kernel_rfl)) (fun _ _ _ h => h) (Or.inl ⟨by rfl, ?_⟩) ?_ ?_; rotate_left; · (intro w'; go_simp; with_reducible rfl)
                  rotate_left; · (simp only [Act.put, sT, sZ, sS, i64_w, i32_w]; rfl)
                  refine pure_ (i := 17) (N := some 95) (v := ?_) (a' := ?_) #[true, true, true, true, true, true, true, true, true, true, true, true, true, true, true, true, true, true, false, false, false, false, false, false, false, false, false, false, false, false, false, false, false, false, false, false] rfl rfl (any_of HT_.out (by kernel_rfl)) (fun _ _ _ h => h) (Or.inl ⟨by rfl, ?_⟩) ?_ ?_; rotate_left; · (intro w'; go_simp; with_reducible rfl)
                  rotate_left; · (simp only [Act.put, sT, sZ, sS, i64_w, i32_w]; rfl)
                  refine take_ (i := 18) (N := some 96) (v := ?_) (a' := ?_) #[true, true, true, true, true, true, true, true, true, true, true, true, true, true, true, true, true, true, true, false, false, false, false, false, false, false, false, false, false, false, false, false, false, false, false, false] rfl rfl (take_ofW HT_.out HW_.out (by kernel_rfl)) (fun _ _ _ h => h) (Or.inl ⟨by rfl, ?_⟩) hHeld ?_ ?_; rotate_left
                  · rintro w' ⟨s0, s1, s2, s3, s4, s5, s6, s7, s8, s9, s10, s11, s12, s13, s14, s15, s16, s17, s18, s19, s20, s21, s22, s23, s24, s25, s26, s27, s28, s29⟩
                    go_simp
                    with_reducible rfl
                  rotate_left; · (simp only [Act.put, sT, sZ, sS, i64_w, i32_w]; rfl)
                  refine take_ (i := 19) (N := some 97) (v := ?_) (a' := ?_) #[true, true, true, true, true, true, true, true, true, true, true, true, true, true, true, true, true, true, true, true, false, false, false, false, false, false, false, false, false, false, false, false, false, false, false, false] rfl rfl (take_ofW HT_.out HW_.out (by kernel_rfl)) (fun _ _ _ h => h) (Or.inl ⟨by rfl, ?_⟩) hHeld ?_ ?_; rotate_left
                  · rintro w' ⟨s0, s1, s2, s3, s4, s5, s6, s7, s8, s9, s10, s11, s12, s13, s14, s15, s16, s17, s18, s19, s20, s21, s22, s23, s24, s25, s26, s27, s28, s29⟩
                    go_simp
                    with_reducible rfl
                  rotate_left; · (simp only [Act.put, sT, sZ, sS, i64_w, i32_w]; rfl)
                  refine one_ (i := 20) (N := some 98) #[true, true, true, true, true, true, true, true, true, true, true, true, true, true, true, true, true, true, true, true, true, false, false, false, false, false, false, false, false, false, false, false, false, false, false, false] rfl rfl (one_of HT_.out (by kernel_rfl)) (by decide) (fun K hK => ?_)
                  refine goes_ Try.func11 (by kernel_rfl) rfl #[.agg #[.int .i64 2, .int .i64 a0_0, .int .i64 a0_1, .int .i64 0, .int .i64 0, .int .i64 a3, .int .i64 a4], .agg #[.int .i64 a2_0, .int .i64 a2_1]] (by rfl) rfl rfl (by (try simp only [List.map_toArray, List.map_cons, List.map_nil]); first | done | rfl | (simp; done)) ?_
                  (with_reducible refine (area_In.calls k _ _ _ _ _ _ _ _ _ _ _  Hc66.out).mono ?_)
                  rintro e_ w72 ⟨rfl, hb_⟩
                  refine ⟨_, rfl, ?_⟩
                  replace HS := Aside0.mk (HS.out.below hb_)
                  replace HK := Aside0.mk (HK.out.trans (Keep.below hb_))
                  refine hK.out _ _ ⟨(((blk_cell (SL.at_ (SL.get7 HS.out)) 0).trans rfl)), (((blk_cell (SL.at_ (SL.get7 HS.out)) 1).trans rfl)), (((blk_cell (SL.at_ (SL.get7 HS.out)) 2).trans rfl)), (((blk_cell (SL.at_ (SL.get7 HS.out)) 3).trans rfl)), (((blk_cell (SL.at_ (SL.get7 HS.out)) 4).trans rfl)), (((blk_cell (SL.at_ (SL.get7 HS.out)) 5).trans rfl)), (((blk_cell (SL.at_ (SL.get7 HS.out)) 6).trans rfl)), (((blk_cell (SL.at_ (SL.get8 HS.out)) 0).trans rfl)), (((blk_cell (SL.at_ (SL.get8 HS.out)) 1).trans rfl)), (((blk_cell (SL.at_ (SL.get5 HS.out)) 0).trans rfl)), (((blk_cell (SL.at_ (SL.get5 HS.out)) 1).trans rfl)), (((blk_cell (SL.at_ (SL.get5 HS.out)) 2).trans rfl)), (((blk_cell (SL.at_ (SL.get5 HS.out)) 3).trans rfl)), (((blk_cell (SL.at_ (SL.get5 HS.out)) 4).trans rfl)), (((blk_cell (SL.at_ (SL.get5 HS.out)) 5).trans rfl)), (((blk_cell (SL.at_ (SL.get5 HS.out)) 6).trans rfl)), (((blk_cell (SL.at_ (SL.get4 HS.out)) 0).trans rfl)), (((blk_cell (SL.at_ (SL.get4 HS.out)) 1).trans rfl)), (((blk_cell (SL.at_ (SL.get4 HS.out)) 2).trans rfl)), (((blk_cell (SL.at_ (SL.get4 HS.out)) 3).trans rfl)), (((blk_cell (SL.at_ (SL.get4 HS.out)) 4).trans rfl)), (((blk_cell (SL.at_ (SL.get4 HS.out)) 5).trans rfl)), (((blk_cell (SL.at_ (SL.get4 HS.out)) 6).trans rfl)), (((blk_cell (SL.at_ (SL.get3 HS.out)) 0).trans rfl)), (((blk_cell (SL.at_ (SL.get3 HS.out)) 1).trans rfl)), (((blk_cell (SL.at_ (SL.get3 HS.out)) 2).trans rfl)), (((blk_cell (SL.at_ (SL.get3 HS.out)) 3).trans rfl)), (((blk_cell (SL.at_ (SL.get3 HS.out)) 4).trans rfl)), (((blk_cell (SL.at_ (SL.get3 HS.out)) 5).trans rfl)), (((blk_cell (SL.at_ (SL.get3 HS.out)) 6).trans rfl))⟩ (fun hHeld => ?_)
                  clear hK K
                  refine norm_ (a' := ?_) ?_ ?_; rotate_left
                  · show Act.put _ (some 98) _ = _
                    simp only [Act.put, sT, sZ, sS, i64_w, i32_w]
                    rfl
                  refine pure_ (i := 21) (N := some 99) (v := ?_) (a' := ?_) #[true, true, true, true, true, true, true, true, true, true, true, true, true, true, true, true, true, true, true, true, true, true, false, false, false, false, false, false, false, false, false, false, false, false, false, false] rfl rfl (any_of HT_.out (by kernel_rfl)) (fun _ _ _ h => h) (Or.inl ⟨by rfl, ?_⟩) ?_ ?_; rotate_left; · (intro w'; go_simp; with_reducible rfl)
                  rotate_left; · (simp only [Act.put, sT, sZ, sS, i64_w, i32_w]; rfl)
                  refine take_ (i := 22) (N := some 100) (v := ?_) (a' := ?_) #[true, true, true, true, true, true, true, true, true, true, true, true, true, true, true, true, true, true, true, true, true, true, true, false, false, false, false, false, false, false, false, false, false, false, false, false] rfl rfl (take_ofW HT_.out HW_.out (by kernel_rfl)) (fun _ _ _ h => h) (Or.inl ⟨by rfl, ?_⟩) hHeld ?_ ?_; rotate_left
                  · rintro w' ⟨s0, s1, s2, s3, s4, s5, s6, s7, s8, s9, s10, s11, s12, s13, s14, s15, s16, s17, s18, s19, s20, s21, s22, s23, s24, s25, s26, s27, s28, s29⟩
                    go_simp
                    with_reducible rfl
                  rotate_left; · (simp only [Act.put, sT, sZ, sS, i64_w, i32_w]; rfl)
                  refine take_ (i := 23) (N := some 101) (v := ?_) (a' := ?_) #[true, true, true, true, true, true, true, true, true, true, true, true, true, true, true, true, true, true, true, true, true, true, true, true, false, false, false, false, false, false, false, false, false, false, false, false] rfl rfl (take_ofW HT_.out HW_.out (by kernel_rfl)) (fun _ _ _ h => h) (Or.inl ⟨by rfl, ?_⟩) hHeld ?_ ?_; rotate_left
                  · rintro w' ⟨s0, s1, s2, s3, s4, s5, s6, s7, s8, s9, s10, s11, s12, s13, s14, s15, s16, s17, s18, s19, s20, s21, s22, s23, s24, s25, s26, s27, s28, s29⟩
                    go_simp
                    with_reducible rfl
                  rotate_left; · (simp only [Act.put, sT, sZ, sS, i64_w, i32_w]; rfl)
                  refine one_ (i := 24) (N := some 102) #[true, true, true, true, true, true, true, true, true, true, true, true, true, true, true, true, true, true, true, true, true, true, true, true, true, false, false, false, false, false, false, false, false, false, false, false] rfl rfl (one_of HT_.out (by kernel_rfl)) (by decide) (fun K hK => ?_)
                  refine goes_ Try.func11 (by kernel_rfl) rfl #[.agg #[.int .i64 1, .int .i64 a0_0, .int .i64 a0_1, .int .i64 0, .int .i64 0, .int .i64 a3, .int .i64 0], .agg #[.int .i64 a2_0, .int .i64 a2_1]] (by rfl) rfl rfl (by (try simp only [List.map_toArray, List.map_cons, List.map_nil]); first | done | rfl | (simp; done)) ?_
                  (with_reducible refine (area_In.calls k _ _ _ _ _ _ _ _ _ _ _  Hc68.out).mono ?_)
                  rintro e_ w73 ⟨rfl, hb_⟩
                  refine ⟨_, rfl, ?_⟩
                  replace HS := Aside0.mk (HS.out.below hb_)
                  replace HK := Aside0.mk (HK.out.trans (Keep.below hb_))
                  refine hK.out _ _ ⟨(((blk_cell (SL.at_ (SL.get7 HS.out)) 0).trans rfl)), (((blk_cell (SL.at_ (SL.get7 HS.out)) 1).trans rfl)), (((blk_cell (SL.at_ (SL.get7 HS.out)) 2).trans rfl)), (((blk_cell (SL.at_ (SL.get7 HS.out)) 3).trans rfl)), (((blk_cell (SL.at_ (SL.get7 HS.out)) 4).trans rfl)), (((blk_cell (SL.at_ (SL.get7 HS.out)) 5).trans rfl)), (((blk_cell (SL.at_ (SL.get7 HS.out)) 6).trans rfl)), (((blk_cell (SL.at_ (SL.get8 HS.out)) 0).trans rfl)), (((blk_cell (SL.at_ (SL.get8 HS.out)) 1).trans rfl)), (((blk_cell (SL.at_ (SL.get5 HS.out)) 0).trans rfl)), (((blk_cell (SL.at_ (SL.get5 HS.out)) 1).trans rfl)), (((blk_cell (SL.at_ (SL.get5 HS.out)) 2).trans rfl)), (((blk_cell (SL.at_ (SL.get5 HS.out)) 3).trans rfl)), (((blk_cell (SL.at_ (SL.get5 HS.out)) 4).trans rfl)), (((blk_cell (SL.at_ (SL.get5 HS.out)) 5).trans rfl)), (((blk_cell (SL.at_ (SL.get5 HS.out)) 6).trans rfl)), (((blk_cell (SL.at_ (SL.get4 HS.out)) 0).trans rfl)), (((blk_cell (SL.at_ (SL.get4 HS.out)) 1).trans rfl)), (((blk_cell (SL.at_ (SL.get4 HS.out)) 2).trans rfl)), (((blk_cell (SL.at_ (SL.get4 HS.out)) 3).trans rfl)), (((blk_cell (SL.at_ (SL.get4 HS.out)) 4).trans rfl)), (((blk_cell (SL.at_ (SL.get4 HS.out)) 5).trans rfl)), (((blk_cell (SL.at_ (SL.get4 HS.out)) 6).trans rfl)), (((blk_cell (SL.at_ (SL.get3 HS.out)) 0).trans rfl)), (((blk_cell (SL.at_ (SL.get3 HS.out)) 1).trans rfl)), (((blk_cell (SL.at_ (SL.get3 HS.out)) 2).trans rfl)), (((blk_cell (SL.at_ (SL.get3 HS.out)) 3).trans rfl)), (((blk_cell (SL.at_ (SL.get3 HS.out)) 4).trans rfl)), (((blk_cell (SL.at_ (SL.get3 HS.out)) 5).trans rfl)), (((blk_cell (SL.at_ (SL.get3 HS.out)) 6).trans rfl))⟩ (fun hHeld => ?_)
                  clear hK K
                  refine norm_ (a' := ?_) ?_ ?_; rotate_left
                  · show Act.put _ (some 102) _ = _
                    simp only [Act.put, sT, sZ, sS, i64_w, i32_w]
                    rfl
                  refine pure_ (i := 25) (N := some 103) (v := ?_) (a' := ?_) #[true, true, true, true, true, true, true, true, true, true, true, true, true, true, true, true, true, true, true, true, true, true, true, true, true, true, false, false, false, false, false, false, false, false, false, false] rfl rfl (any_of HT_.out (by kernel_rfl)) (fun _ _ _ h => h) (Or.inl ⟨by rfl, ?_⟩) ?_ ?_; rotate_left; · (intro w'; go_simp; with_reducible rfl)
                  rotate_left; · (simp only [Act.put, sT, sZ, sS, i64_w, i32_w]; rfl)
                  refine pure_ (i := 26) (N := some 104) (v := ?_) (a' := ?_) #[true, true, true, true, true, true, true, true, true, true, true, true, true, true, true, true, true, true, true, true, true, true, true, true, true, true, true, false, false, false, false, false, false, false, false, false] rfl rfl (any_of HT_.out (by kernel_rfl)) (fun _ _ _ h => h) (Or.inl ⟨by rfl, ?_⟩) ?_ ?_; rotate_left; · (intro w'; go_simp; with_reducible rfl)
                  rotate_left; · (simp only [Act.put, sT, sZ, sS, i64_w, i32_w]; rfl)
                  refine pure_ (i := 27) (N := some 105) (v := ?_) (a' := ?_) #[true, true, true, true, true, true, true, true, true, true, true, true, true, true, true, true, true, true, true, true, true, true, true, true, true, true, true, true, false, false, false, false, false, false, false, false] rfl rfl (any_of HT_.out (by kernel_rfl)) (fun _ _ _ h => h) (Or.inl ⟨by rfl, ?_⟩) ?_ ?_; rotate_left; · (intro w'; go_simp; with_reducible rfl)
                  rotate_left; · (simp only [Act.put, sT, sZ, sS, i64_w, i32_w]; rfl)
                  refine take_ (i := 28) (N := some 106) (v := ?_) (a' := ?_) #[true, true, true, true, true, true, true, true, true, true, true, true, true, true, true, true, true, true, true, true, true, true, true, true, true, true, true, true, true, false, false, false, false, false, false, false] rfl rfl (take_ofW HT_.out HW_.out (by kernel_rfl)) (fun _ _ _ h => h) (Or.inl ⟨by rfl, ?_⟩) hHeld ?_ ?_; rotate_left
                  · rintro w' ⟨s0, s1, s2, s3, s4, s5, s6, s7, s8, s9, s10, s11, s12, s13, s14, s15, s16, s17, s18, s19, s20, s21, s22, s23, s24, s25, s26, s27, s28, s29⟩
                    go_simp
                    with_reducible rfl
                  rotate_left; · (simp only [Act.put, sT, sZ, sS, i64_w, i32_w]; rfl)
                  refine take_ (i := 29) (N := some 107) (v := ?_) (a' := ?_) #[true, true, true, true, true, true, true, true, true, true, true, true, true, true, true, true, true, true, true, true, true, true, true, true, true, true, true, true, true, true, false, false, false, false, false, false] rfl rfl (take_ofW HT_.out HW_.out (by kernel_rfl)) (fun _ _ _ h => h) (Or.inl ⟨by rfl, ?_⟩) hHeld ?_ ?_; rotate_left
                  · rintro w' ⟨s0, s1, s2, s3, s4, s5, s6, s7, s8, s9, s10, s11, s12, s13, s14, s15, s16, s17, s18, s19, s20, s21, s22, s23, s24, s25, s26, s27, s28, s29⟩
                    go_simp
                    with_reducible rfl
                  rotate_left; · (simp only [Act.put, sT, sZ, sS, i64_w, i32_w]; rfl)
                  refine take_ (i := 31) (N := some 109) (v := ?_) (a' := ?_) #[true, true, true, true, true, true, true, true, true, true, true, true, true, true, true, true, true, true, true, true, true, true, true, true, true, true, true, true, true, true, false, true, false, false, false, false] rfl rfl (take_ofW HT_.out HW_.out (by kernel_rfl)) (fun _ _ _ h => h) (Or.inl ⟨by rfl, ?_⟩) hHeld ?_ ?_; rotate_left
                  · rintro w' ⟨s0, s1, s2, s3, s4, s5, s6, s7, s8, s9, s10, s11, s12, s13, s14, s15, s16, s17, s18, s19, s20, s21, s22, s23, s24, s25, s26, s27, s28, s29⟩
                    go_simp
                    with_reducible rfl
                  rotate_left; · (simp only [Act.put, sT, sZ, sS, i64_w, i32_w]; rfl)
                  refine take_ (i := 32) (N := some 110) (v := ?_) (a' := ?_) #[true, true, true, true, true, true, true, true, true, true, true, true, true, true, true, true, true, true, true, true, true, true, true, true, true, true, true, true, true, true, false, true, true, false, false, false] rfl rfl (take_ofW HT_.out HW_.out (by kernel_rfl)) (fun _ _ _ h => h) (Or.inl ⟨by rfl, ?_⟩) hHeld ?_ ?_; rotate_left
                  · rintro w' ⟨s0, s1, s2, s3, s4, s5, s6, s7, s8, s9, s10, s11, s12, s13, s14, s15, s16, s17, s18, s19, s20, s21, s22, s23, s24, s25, s26, s27, s28, s29⟩
                    go_simp
                    with_reducible rfl
                  rotate_left; · (simp only [Act.put, sT, sZ, sS, i64_w, i32_w]; rfl)
                  refine one_ (i := 30) (N := some 108) #[true, true, true, true, true, true, true, true, true, true, true, true, true, true, true, true, true, true, true, true, true, true, true, true, true, true, true, true, true, true, true, true, true, false, false, false] rfl rfl (one_of HT_.out (by kernel_rfl)) (by decide) (fun K hK => ?_)
                  refine goes_ Try.func11 (by kernel_rfl) rfl #[.agg #[.int .i64 3, .int .i64 a0_0, .int .i64 a0_1, .int .i64 a1_0, .int .i64 a1_1, .int .i64 0, .int .i64 0], .agg #[.int .i64 a2_0, .int .i64 a2_1]] (by rfl) rfl rfl (by (try simp only [List.map_toArray, List.map_cons, List.map_nil]); first | done | rfl | (simp; done)) ?_
                  (with_reducible refine (area_In.calls k _ _ _ _ _ _ _ _ _ _ _  Hc70.out).mono ?_)
                  rintro e_ w74 ⟨rfl, hb_⟩
                  refine ⟨_, rfl, ?_⟩
                  replace HS := Aside0.mk (HS.out.below hb_)
                  replace HK := Aside0.mk (HK.out.trans (Keep.below hb_))
                  refine hK.out _ _ ⟨(((blk_cell (SL.at_ (SL.get7 HS.out)) 0).trans rfl)), (((blk_cell (SL.at_ (SL.get7 HS.out)) 1).trans rfl)), (((blk_cell (SL.at_ (SL.get7 HS.out)) 2).trans rfl)), (((blk_cell (SL.at_ (SL.get7 HS.out)) 3).trans rfl)), (((blk_cell (SL.at_ (SL.get7 HS.out)) 4).trans rfl)), (((blk_cell (SL.at_ (SL.get7 HS.out)) 5).trans rfl)), (((blk_cell (SL.at_ (SL.get7 HS.out)) 6).trans rfl)), (((blk_cell (SL.at_ (SL.get8 HS.out)) 0).trans rfl)), (((blk_cell (SL.at_ (SL.get8 HS.out)) 1).trans rfl)), (((blk_cell (SL.at_ (SL.get5 HS.out)) 0).trans rfl)), (((blk_cell (SL.at_ (SL.get5 HS.out)) 1).trans rfl)), (((blk_cell (SL.at_ (SL.get5 HS.out)) 2).trans rfl)), (((blk_cell (SL.at_ (SL.get5 HS.out)) 3).trans rfl)), (((blk_cell (SL.at_ (SL.get5 HS.out)) 4).trans rfl)), (((blk_cell (SL.at_ (SL.get5 HS.out)) 5).trans rfl)), (((blk_cell (SL.at_ (SL.get5 HS.out)) 6).trans rfl)), (((blk_cell (SL.at_ (SL.get4 HS.out)) 0).trans rfl)), (((blk_cell (SL.at_ (SL.get4 HS.out)) 1).trans rfl)), (((blk_cell (SL.at_ (SL.get4 HS.out)) 2).trans rfl)), (((blk_cell (SL.at_ (SL.get4 HS.out)) 3).trans rfl)), (((blk_cell (SL.at_ (SL.get4 HS.out)) 4).trans rfl)), (((blk_cell (SL.at_ (SL.get4 HS.out)) 5).trans rfl)), (((blk_cell (SL.at_ (SL.get4 HS.out)) 6).trans rfl)), (((blk_cell (SL.at_ (SL.get3 HS.out)) 0).trans rfl)), (((blk_cell (SL.at_ (SL.get3 HS.out)) 1).trans rfl)), (((blk_cell (SL.at_ (SL.get3 HS.out)) 2).trans rfl)), (((blk_cell (SL.at_ (SL.get3 HS.out)) 3).trans rfl)), (((blk_cell (SL.at_ (SL.get3 HS.out)) 4).trans rfl)), (((blk_cell (SL.at_ (SL.get3 HS.out)) 5).trans rfl)), (((blk_cell (SL.at_ (SL.get3 HS.out)) 6).trans rfl))⟩ (fun hHeld => ?_)
                  clear hK K
                  refine norm_ (a' := ?_) ?_ ?_; rotate_left
                  · show Act.put _ (some 108) _ = _
                    simp only [Act.put, sT, sZ, sS, i64_w, i32_w]
                    rfl
                  refine one_ (i := 33) (N := some 111) #[true, true, true, true, true, true, true, true, true, true, true, true, true, true, true, true, true, true, true, true, true, true, true, true, true, true, true, true, true, true, true, true, true, true, false, false] rfl rfl (one_of HT_.out (by kernel_rfl)) (by decide) (fun K hK => ?_)
                  refine goes_ Try.func11 (by kernel_rfl) rfl #[.agg #[.int .i64 3, .int .i64 a1_0, .int .i64 a1_1, .int .i64 a0_0, .int .i64 a0_1, .int .i64 0, .int .i64 0], .agg #[.int .i64 a2_0, .int .i64 a2_1]] (by rfl) rfl rfl (by (try simp only [List.map_toArray, List.map_cons, List.map_nil]); first | done | rfl | (simp; done)) ?_
                  (with_reducible refine (area_In.calls k _ _ _ _ _ _ _ _ _ _ _  Hc71.out).mono ?_)
                  rintro e_ w75 ⟨rfl, hb_⟩
                  refine ⟨_, rfl, ?_⟩
                  replace HS := Aside0.mk (HS.out.below hb_)
                  replace HK := Aside0.mk (HK.out.trans (Keep.below hb_))
                  refine hK.out _ _ ⟨(((blk_cell (SL.at_ (SL.get7 HS.out)) 0).trans rfl)), (((blk_cell (SL.at_ (SL.get7 HS.out)) 1).trans rfl)), (((blk_cell (SL.at_ (SL.get7 HS.out)) 2).trans rfl)), (((blk_cell (SL.at_ (SL.get7 HS.out)) 3).trans rfl)), (((blk_cell (SL.at_ (SL.get7 HS.out)) 4).trans rfl)), (((blk_cell (SL.at_ (SL.get7 HS.out)) 5).trans rfl)), (((blk_cell (SL.at_ (SL.get7 HS.out)) 6).trans rfl)), (((blk_cell (SL.at_ (SL.get8 HS.out)) 0).trans rfl)), (((blk_cell (SL.at_ (SL.get8 HS.out)) 1).trans rfl)), (((blk_cell (SL.at_ (SL.get5 HS.out)) 0).trans rfl)), (((blk_cell (SL.at_ (SL.get5 HS.out)) 1).trans rfl)), (((blk_cell (SL.at_ (SL.get5 HS.out)) 2).trans rfl)), (((blk_cell (SL.at_ (SL.get5 HS.out)) 3).trans rfl)), (((blk_cell (SL.at_ (SL.get5 HS.out)) 4).trans rfl)), (((blk_cell (SL.at_ (SL.get5 HS.out)) 5).trans rfl)), (((blk_cell (SL.at_ (SL.get5 HS.out)) 6).trans rfl)), (((blk_cell (SL.at_ (SL.get4 HS.out)) 0).trans rfl)), (((blk_cell (SL.at_ (SL.get4 HS.out)) 1).trans rfl)), (((blk_cell (SL.at_ (SL.get4 HS.out)) 2).trans rfl)), (((blk_cell (SL.at_ (SL.get4 HS.out)) 3).trans rfl)), (((blk_cell (SL.at_ (SL.get4 HS.out)) 4).trans rfl)), (((blk_cell (SL.at_ (SL.get4 HS.out)) 5).trans rfl)), (((blk_cell (SL.at_ (SL.get4 HS.out)) 6).trans rfl)), (((blk_cell (SL.at_ (SL.get3 HS.out)) 0).trans rfl)), (((blk_cell (SL.at_ (SL.get3 HS.out)) 1).trans rfl)), (((blk_cell (SL.at_ (SL.get3 HS.out)) 2).trans rfl)), (((blk_cell (SL.at_ (SL.get3 HS.out)) 3).trans rfl)), (((blk_cell (SL.at_ (SL.get3 HS.out)) 4).trans rfl)), (((blk_cell (SL.at_ (SL.get3 HS.out)) 5).trans rfl)), (((blk_cell (SL.at_ (SL.get3 HS.out)) 6).trans rfl))⟩ (fun hHeld => ?_)
                  clear hK K
                  refine norm_ (a' := ?_) ?_ ?_; rotate_left
                  · show Act.put _ (some 111) _ = _
                    simp only [Act.put, sT, sZ, sS, i64_w, i32_w]
                    rfl
                  refine pure_ (i := 34) (N := some 112) (v := ?_) (a' := ?_) #[true, true, true, true, true, true, true, true, true, true, true, true, true, true, true, true, true, true, true, true, true, true, true, true, true, true, true, true, true, true, true, true, true, true, true, false] rfl rfl (any_of HT_.out (by kernel_rfl)) (fun _ _ _ h => h) (Or.inl ⟨by rfl, ?_⟩) ?_ ?_; rotate_left; · (intro w'; go_simp; with_reducible rfl)
                  rotate_left; · (simp only [Act.put, sT, sZ, sS, i64_w, i32_w]; rfl)
                  refine pure_ (i := 35) (N := some 113) (v := ?_) (a' := ?_) #[true, true, true, true, true, true, true, true, true, true, true, true, true, true, true, true, true, true, true, true, true, true, true, true, true, true, true, true, true, true, true, true, true, true, true, true] rfl rfl (any_of HT_.out (by kernel_rfl)) (fun _ _ _ h => h) (Or.inl ⟨by rfl, ?_⟩) ?_ ?_; rotate_left; · (intro w'; go_simp; with_reducible rfl)
                  rotate_left; · (simp only [Act.put, sT, sZ, sS, i64_w, i32_w]; rfl)
                  refine done_ (done_of HT_.out (by kernel_rfl)) ?_
                  try go_wp2
                  go_meet
                  case rel => exact ⟨k, ((t522 != t523)), (by first | rfl | (simp; done) | (simp [*]; done)), H', ⟨by omega⟩, HS, HK⟩
              · replace c67 := Bool.eq_false_iff.mpr c67
                subst c67
                rw [if_neg (show ¬ (false = true) by decide)] at H
                replace H := Option.bind_eq_some_iff.1 H
                obtain ⟨t524, Hc760, H⟩ := H
                try dsimp only at H
                have Hc76 := Aside0.mk Hc760
                clear Hc760
                replace H := Option.bind_eq_some_iff.1 H
                obtain ⟨t525, Hc770, H⟩ := H
                try dsimp only at H
                have Hc77 := Aside0.mk Hc770
                clear Hc770
                have H' := Aside0.mk H
                clear H
                try go_wp2
                refine start_ (n := 36) (S := fun w' => w'.cell? ⟨g3000048, 0, none⟩ = some (.int .i64 2) ∧ w'.cell? ⟨g3000048, 1, none⟩ = some (.int .i64 a0_0) ∧ w'.cell? ⟨g3000048, 2, none⟩ = some (.int .i64 a0_1) ∧ w'.cell? ⟨g3000048, 3, none⟩ = some (.int .i64 0) ∧ w'.cell? ⟨g3000048, 4, none⟩ = some (.int .i64 0) ∧ w'.cell? ⟨g3000048, 5, none⟩ = some (.int .i64 a3) ∧ w'.cell? ⟨g3000048, 6, none⟩ = some (.int .i64 a4) ∧ w'.cell? ⟨g3000047, 0, none⟩ = some (.int .i64 a2_0) ∧ w'.cell? ⟨g3000047, 1, none⟩ = some (.int .i64 a2_1) ∧ w'.cell? ⟨g3000051, 0, none⟩ = some (.int .i64 3) ∧ w'.cell? ⟨g3000051, 1, none⟩ = some (.int .i64 a0_0) ∧ w'.cell? ⟨g3000051, 2, none⟩ = some (.int .i64 a0_1) ∧ w'.cell? ⟨g3000051, 3, none⟩ = some (.int .i64 a1_0) ∧ w'.cell? ⟨g3000051, 4, none⟩ = some (.int .i64 a1_1) ∧ w'.cell? ⟨g3000051, 5, none⟩ = some (.int .i64 0) ∧ w'.cell? ⟨g3000051, 6, none⟩ = some (.int .i64 0) ∧ w'.cell? ⟨g3000052, 0, none⟩ = some (.int .i64 3) ∧ w'.cell? ⟨g3000052, 1, none⟩ = some (.int .i64 a1_0) ∧ w'.cell? ⟨g3000052, 2, none⟩ = some (.int .i64 a1_1) ∧ w'.cell? ⟨g3000052, 3, none⟩ = some (.int .i64 a0_0) ∧ w'.cell? ⟨g3000052, 4, none⟩ = some (.int .i64 a0_1) ∧ w'.cell? ⟨g3000052, 5, none⟩ = some (.int .i64 0) ∧ w'.cell? ⟨g3000052, 6, none⟩ = some (.int .i64 0)) (ds := []) #[false, false, false, false, false, false, false, false, false, false, false, false, false, false, false, false, false, false, false, false, false, false, false, false, false, false, false, false, false, false, false, false, false, false, false, false] (by kernel_rfl) rfl rfl ⟨(((blk_cell (SL.at_ (SL.get7 HS.out)) 0).trans rfl)), (((blk_cell (SL.at_ (SL.get7 HS.out)) 1).trans rfl)), (((blk_cell (SL.at_ (SL.get7 HS.out)) 2).trans rfl)), (((blk_cell (SL.at_ (SL.get7 HS.out)) 3).trans rfl)), (((blk_cell (SL.at_ (SL.get7 HS.out)) 4).trans rfl)), (((blk_cell (SL.at_ (SL.get7 HS.out)) 5).trans rfl)), (((blk_cell (SL.at_ (SL.get7 HS.out)) 6).trans rfl)), (((blk_cell (SL.at_ (SL.get8 HS.out)) 0).trans rfl)), (((blk_cell (SL.at_ (SL.get8 HS.out)) 1).trans rfl)), (((blk_cell (SL.at_ (SL.get4 HS.out)) 0).trans rfl)), (((blk_cell (SL.at_ (SL.get4 HS.out)) 1).trans rfl)), (((blk_cell (SL.at_ (SL.get4 HS.out)) 2).trans rfl)), (((blk_cell (SL.at_ (SL.get4 HS.out)) 3).trans rfl)), (((blk_cell (SL.at_ (SL.get4 HS.out)) 4).trans rfl)), (((blk_cell (SL.at_ (SL.get4 HS.out)) 5).trans rfl)), (((blk_cell (SL.at_ (SL.get4 HS.out)) 6).trans rfl)), (((blk_cell (SL.at_ (SL.get3 HS.out)) 0).trans rfl)), (((blk_cell (SL.at_ (SL.get3 HS.out)) 1).trans rfl)), (((blk_cell (SL.at_ (SL.get3 HS.out)) 2).trans rfl)), (((blk_cell (SL.at_ (SL.get3 HS.out)) 3).trans rfl)), (((blk_cell (SL.at_ (SL.get3 HS.out)) 4).trans rfl)), (((blk_cell (SL.at_ (SL.get3 HS.out)) 5).trans rfl)), (((blk_cell (SL.at_ (SL.get3 HS.out)) 6).trans rfl))⟩ (fun hHeld => ?_); refine with_tabW barrowlaw32_AreaShapes.tab12 barrowlaw32_AreaShapes.bits12 (fun HT_ HW_ => ?_)
                replace HK := Aside0.mk (Keep.drew HK.out)
                replace HS := Aside0.mk (SL.drew HS.out)
                refine pure_ (i := 0) (N := some 78) (v := ?_) (a' := ?_) #[true, false, false, false, false, false, false, false, false, false, false, false, false, false, false, false, false, false, false, false, false, false, false, false, false, false, false, false, false, false, false, false, false, false, false, false] rfl rfl (any_of HT_.out (by kernel_rfl)) (fun _ _ _ h => h) (Or.inl ⟨by rfl, ?_⟩) ?_ ?_; rotate_left; · (intro w'; go_simp; with_reducible rfl)
                rotate_left; · (simp only [Act.put, sT, sZ, sS, i64_w, i32_w]; rfl)
                refine pure_ (i := 1) (N := some 79) (v := ?_) (a' := ?_) #[true, true, false, false, false, false, false, false, false, false, false, false, false, false, false, false, false, false, false, false, false, false, false, false, false, false, false, false, false, false, false, false, false, false, false, false] rfl rfl (any_of HT_.out (by kernel_rfl)) (fun _ _ _ h => h) (Or.inl ⟨by rfl, ?_⟩) ?_ ?_; rotate_left; · (intro w'; go_simp; with_reducible rfl)
                rotate_left; · (simp only [Act.put, sT, sZ, sS, i64_w, i32_w]; rfl)
                refine pure_ (i := 2) (N := some 80) (v := ?_) (a' := ?_) #[true, true, true, false, false, false, false, false, false, false, false, false, false, false, false, false, false, false, false, false, false, false, false, false, false, false, false, false, false, false, false, false, false, false, false, false] rfl rfl (any_of HT_.out (by kernel_rfl)) (fun _ _ _ h => h) (Or.inl ⟨by rfl, ?_⟩) ?_ ?_; rotate_left; · (intro w'; go_simp; with_reducible rfl)
                rotate_left; · (simp only [Act.put, sT, sZ, sS, i64_w, i32_w]; rfl)
                refine pure_ (i := 3) (N := some 81) (v := ?_) (a' := ?_) #[true, true, true, true, false, false, false, false, false, false, false, false, false, false, false, false, false, false, false, false, false, false, false, false, false, false, false, false, false, false, false, false, false, false, false, false] rfl rfl (any_of HT_.out (by kernel_rfl)) (fun _ _ _ h => h) (Or.inl ⟨by rfl, ?_⟩) ?_ ?_; rotate_left; · (intro w'; go_simp; with_reducible rfl)
                rotate_left; · (simp only [Act.put, sT, sZ, sS, i64_w, i32_w]; rfl)
                refine pure_ (i := 4) (N := some 82) (v := undef) (a' := ?_) #[true, true, true, true, true, false, false, false, false, false, false, false, false, false, false, false, false, false, false, false, false, false, false, false, false, false, false, false, false, false, false, false, false, false, false, false] rfl rfl (any_of HT_.out (by kernel_rfl)) (fun _ _ _ h => h) (Or.inr ⟨by rfl, rfl⟩) ?_ ?_; rotate_left; · (simp only [Act.put, sT, sZ, sS, i64_w, i32_w]; rfl)
                refine pure_ (i := 5) (N := some 83) (v := undef) (a' := ?_) #[true, true, true, true, true, true, false, false, false, false, false, false, false, false, false, false, false, false, false, false, false, false, false, false, false, false, false, false, false, false, false, false, false, false, false, false] rfl rfl (any_of HT_.out (by kernel_rfl)) (fun _ _ _ h => h) (Or.inr ⟨by rfl, rfl⟩) ?_ ?_; rotate_left; · (simp only [Act.put, sT, sZ, sS, i64_w, i32_w]; rfl)
                refine pure_ (i := 6) (N := some 84) (v := undef) (a' := ?_) #[true, true, true, true, true, true, true, false, false, false, false, false, false, false, false, false, false, false, false, false, false, false, false, false, false, false, false, false, false, false, false, false, false, false, false, false] rfl rfl (any_of HT_.out (by kernel_rfl)) (fun _ _ _ h => h) (Or.inr ⟨by rfl, rfl⟩) ?_ ?_; rotate_left; · (simp only [Act.put, sT, sZ, sS, i64_w, i32_w]; rfl)
                refine pure_ (i := 7) (N := some 85) (v := undef) (a' := ?_) #[true, true, true, true, true, true, true, true, false, false, false, false, false, false, false, false, false, false, false, false, false, false, false, false, false, false, false, false, false, false, false, false, false, false, false, false] rfl rfl (any_of HT_.out (by kernel_rfl)) (fun _ _ _ h => h) (Or.inr ⟨by rfl, rfl⟩) ?_ ?_; rotate_left; · (simp only [Act.put, sT, sZ, sS, i64_w, i32_w]; rfl)
                refine pure_ (i := 8) (N := some 86) (v := undef) (a' := ?_) #[true, true, true, true, true, true, true, true, true, false, false, false, false, false, false, false, false, false, false, false, false, false, false, false, false, false, false, false, false, false, false, false, false, false, false, false] rfl rfl (any_of HT_.out (by kernel_rfl)) (fun _ _ _ h => h) (Or.inr ⟨by rfl, rfl⟩) ?_ ?_; rotate_left; · (simp only [Act.put, sT, sZ, sS, i64_w, i32_w]; rfl)
                refine pure_ (i := 9) (N := some 87) (v := undef) (a' := ?_) #[true, true, true, true, true, true, true, true, true, true, false, false, false, false, false, false, false, false, false, false, false, false, false, false, false, false, false, false, false, false, false, false, false, false, false, false] rfl rfl (any_of HT_.out (by kernel_rfl)) (fun _ _ _ h => h) (Or.inr ⟨by rfl, rfl⟩) ?_ ?_; rotate_left; · (simp only [Act.put, sT, sZ, sS, i64_w, i32_w]; rfl)
                refine pure_ (i := 10) (N := some 88) (v := undef) (a' := ?_) #[true, true, true, true, true, true, true, true, true, true, true, false, false, false, false, false, false, false, false, false, false, false, false, false, false, false, false, false, false, false, false, false, false, false, false, false] rfl rfl (any_of HT_.out (by kernel_rfl)) (fun _ _ _ h => h) (Or.inr ⟨by rfl, rfl⟩) ?_ ?_; rotate_left; · (simp only [Act.put, sT, sZ, sS, i64_w, i32_w]; rfl)
                refine pure_ (i := 11) (N := some 89) (v := undef) (a' := ?_) #[true, true, true, true, true, true, true, true, true, true, true, true, false, false, false, false, false, false, false, false, false, false, false, false, false, false, false, false, false, false, false, false, false, false, false, false] rfl rfl (any_of HT_.out (by kernel_rfl)) (fun _ _ _ h => h) (Or.inr ⟨by rfl, rfl⟩) ?_ ?_; rotate_left; · (simp only [Act.put, sT, sZ, sS, i64_w, i32_w]; rfl)
                refine pure_ (i := 12) (N := some 90) (v := undef) (a' := ?_) #[true, true, true, true, true, true, true, true, true, true, true, true, true, false, false, false, false, false, false, false, false, false, false, false, false, false, false, false, false, false, false, false, false, false, false, false] rfl rfl (any_of HT_.out (by kernel_rfl)) (fun _ _ _ h => h) (Or.inr ⟨by rfl, rfl⟩) ?_ ?_; rotate_left; · (simp only [Act.put, sT, sZ, sS, i64_w, i32_w]; rfl)
                refine pure_ (i := 13) (N := some 91) (v := undef) (a' := ?_) #[true, true, true, true, true, true, true, true, true, true, true, true, true, true, false, false, false, false, false, false, false, false, false, false, false, false, false, false, false, false, false, false, false, false, false, false] rfl rfl (any_of HT_.out (by kernel_rfl)) (fun _ _ _ h => h) (Or.inr ⟨by rfl, rfl⟩) ?_ ?_; rotate_left; · (simp only [Act.put, sT, sZ, sS, i64_w, i32_w]; rfl)
                refine pure_ (i := 14) (N := some 92) (v := undef) (a' := ?_) #[true, true, true, true, true, true, true, true, true, true, true, true, true, true, true, false, false, false, false, false, false, false, false, false, false, false, false, false, false, false, false, false, false, false, false, false] rfl rfl (any_of HT_.out (by kernel_rfl)) (fun _ _ _ h => h) (Or.inr ⟨by rfl, rfl⟩) ?_ ?_; rotate_left; · (simp only [Act.put, sT, sZ, sS, i64_w, i32_w]; rfl)
                refine pure_ (i := 15) (N := some 93) (v := undef) (a' := ?_) #[true, true, true, true, true, true, true, true, true, true, true, true, true, true, true, true, false, false, false, false, false, false, false, false, false, false, false, false, false, false, false, false, false, false, false, false] rfl rfl (any_of HT_.out (by kernel_rfl)) (fun _ _ _ h => h) (Or.inr ⟨by rfl, rfl⟩) ?_ ?_; rotate_left; · (simp only [Act.put, sT, sZ, sS, i64_w, i32_w]; rfl)
                refine pure_ (i := 16) (N := some 94) (v := ?_) (a' := ?_) #[true, true, true, true, true, true, true, true, true, true, true, true, true, true, true, true, true, false, false, false, false, false, false, false, false, false, false, false, false, false, false, false, false, false, false, false] rfl rfl (any_of HT_.out (by kernel_rfl)) (fun _ _ _ h => h) (Or.inl ⟨by rfl, ?_⟩) ?_ ?_; rotate_left; · (intro w'; go_simp; with_reducible rfl)
                rotate_left; · (simp only [Act.put, sT, sZ, sS, i64_w, i32_w]; rfl)
                refine pure_ (i := 17) (N := some 95) (v := ?_) (a' := ?_) #[true, true, true, true, true, true, true, true, true, true, true, true, true, true, true, true, true, true, false, false, false, false, false, false, false, false, false, false, false, false, false, false, false, false, false, false] rfl rfl (any_of HT_.out (by kernel_rfl)) (fun _ _ _ h => h) (Or.inl ⟨by rfl, ?_⟩) ?_ ?_; rotate_left; · (intro w'; go_simp; with_reducible rfl)
                rotate_left; · (simp only [Act.put, sT, sZ, sS, i64_w, i32_w]; rfl)
                refine take_ (i := 18) (N := some 96) (v := ?_) (a' := ?_) #[true, true, true, true, true, true, true, true, true, true, true, true, true, true, true, true, true, true, true, false, false, false, false, false, false, false, false, false, false, false, false, false, false, false, false, false] rfl rfl (take_ofW HT_.out HW_.out (by kernel_rfl)) (fun _ _ _ h => h) (Or.inl ⟨by rfl, ?_⟩) hHeld ?_ ?_; rotate_left
                · rintro w' ⟨s0, s1, s2, s3, s4, s5, s6, s7, s8, s9, s10, s11, s12, s13, s14, s15, s16, s17, s18, s19, s20, s21, s22⟩
                  go_simp
                  with_reducible rfl
                rotate_left; · (simp only [Act.put, sT, sZ, sS, i64_w, i32_w]; rfl)
                refine take_ (i := 19) (N := some 97) (v := ?_) (a' := ?_) #[true, true, true, true, true, true, true, true, true, true, true, true, true, true, true, true, true, true, true, true, false, false, false, false, false, false, false, false, false, false, false, false, false, false, false, false] rfl rfl (take_ofW HT_.out HW_.out (by kernel_rfl)) (fun _ _ _ h => h) (Or.inl ⟨by rfl, ?_⟩) hHeld ?_ ?_; rotate_left
                · rintro w' ⟨s0, s1, s2, s3, s4, s5, s6, s7, s8, s9, s10, s11, s12, s13, s14, s15, s16, s17, s18, s19, s20, s21, s22⟩
                  go_simp
                  with_reducible rfl
                rotate_left; · (simp only [Act.put, sT, sZ, sS, i64_w, i32_w]; rfl)
                refine one_ (i := 20) (N := some 98) #[true, true, true, true, true, true, true, true, true, true, true, true, true, true, true, true, true, true, true, true, true, false, false, false, false, false, false, false, false, false, false, false, false, false, false, false] rfl rfl (one_of HT_.out (by kernel_rfl)) (by decide) (fun K hK => ?_)
                refine goes_ Try.func11 (by kernel_rfl) rfl #[.agg #[.int .i64 2, .int .i64 a0_0, .int .i64 a0_1, .int .i64 0, .int .i64 0, .int .i64 a3, .int .i64 a4], .agg #[.int .i64 a2_0, .int .i64 a2_1]] (by rfl) rfl rfl (by (try simp only [List.map_toArray, List.map_cons, List.map_nil]); first | done | rfl | (simp; done)) ?_
                (with_reducible refine (area_In.calls k _ _ _ _ _ _ _ _ _ _ _  Hc66.out).mono ?_)
                rintro e_ w78 ⟨rfl, hb_⟩
                refine ⟨_, rfl, ?_⟩
                replace HS := Aside0.mk (HS.out.below hb_)
                replace HK := Aside0.mk (HK.out.trans (Keep.below hb_))
                refine hK.out _ _ ⟨(((blk_cell (SL.at_ (SL.get7 HS.out)) 0).trans rfl)), (((blk_cell (SL.at_ (SL.get7 HS.out)) 1).trans rfl)), (((blk_cell (SL.at_ (SL.get7 HS.out)) 2).trans rfl)), (((blk_cell (SL.at_ (SL.get7 HS.out)) 3).trans rfl)), (((blk_cell (SL.at_ (SL.get7 HS.out)) 4).trans rfl)), (((blk_cell (SL.at_ (SL.get7 HS.out)) 5).trans rfl)), (((blk_cell (SL.at_ (SL.get7 HS.out)) 6).trans rfl)), (((blk_cell (SL.at_ (SL.get8 HS.out)) 0).trans rfl)), (((blk_cell (SL.at_ (SL.get8 HS.out)) 1).trans rfl)), (((blk_cell (SL.at_ (SL.get4 HS.out)) 0).trans rfl)), (((blk_cell (SL.at_ (SL.get4 HS.out)) 1).trans rfl)), (((blk_cell (SL.at_ (SL.get4 HS.out)) 2).trans rfl)), (((blk_cell (SL.at_ (SL.get4 HS.out)) 3).trans rfl)), (((blk_cell (SL.at_ (SL.get4 HS.out)) 4).trans rfl)), (((blk_cell (SL.at_ (SL.get4 HS.out)) 5).trans rfl)), (((blk_cell (SL.at_ (SL.get4 HS.out)) 6).trans rfl)), (((blk_cell (SL.at_ (SL.get3 HS.out)) 0).trans rfl)), (((blk_cell (SL.at_ (SL.get3 HS.out)) 1).trans rfl)), (((blk_cell (SL.at_ (SL.get3 HS.out)) 2).trans rfl)), (((blk_cell (SL.at_ (SL.get3 HS.out)) 3).trans rfl)), (((blk_cell (SL.at_ (SL.get3 HS.out)) 4).trans rfl)), (((blk_cell (SL.at_ (SL.get3 HS.out)) 5).trans rfl)), (((blk_cell (SL.at_ (SL.get3 HS.out)) 6).trans rfl))⟩ (fun hHeld => ?_)
                clear hK K
                refine norm_ (a' := ?_) ?_ ?_; rotate_left
                · show Act.put _ (some 98) _ = _
                  simp only [Act.put, sT, sZ, sS, i64_w, i32_w]
                  rfl
                refine pure_ (i := 21) (N := some 99) (v := ?_) (a' := ?_) #[true, true, true, true, true, true, true, true, true, true, true, true, true, true, true, true, true, true, true, true, true, true, false, false, false, false, false, false, false, false, false, false, false, false, false, false] rfl rfl (any_of HT_.out (by kernel_rfl)) (fun _ _ _ h => h) (Or.inl ⟨by rfl, ?_⟩) ?_ ?_; rotate_left; · (intro w'; go_simp; with_reducible rfl)
                rotate_left; · (simp only [Act.put, sT, sZ, sS, i64_w, i32_w]; rfl)
                refine pure_ (i := 22) (N := some 100) (v := undef) (a' := ?_) #[true, true, true, true, true, true, true, true, true, true, true, true, true, true, true, true, true, true, true, true, true, true, true, false, false, false, false, false, false, false, false, false, false, false, false, false] rfl rfl (any_of HT_.out (by kernel_rfl)) (fun _ _ _ h => h) (Or.inr ⟨by rfl, rfl⟩) ?_ ?_; rotate_left; · (simp only [Act.put, sT, sZ, sS, i64_w, i32_w]; rfl)
                refine pure_ (i := 23) (N := some 101) (v := undef) (a' := ?_) #[true, true, true, true, true, true, true, true, true, true, true, true, true, true, true, true, true, true, true, true, true, true, true, true, false, false, false, false, false, false, false, false, false, false, false, false] rfl rfl (any_of HT_.out (by kernel_rfl)) (fun _ _ _ h => h) (Or.inr ⟨by rfl, rfl⟩) ?_ ?_; rotate_left; · (simp only [Act.put, sT, sZ, sS, i64_w, i32_w]; rfl)
                refine pure_ (i := 24) (N := some 102) (v := undef) (a' := ?_) #[true, true, true, true, true, true, true, true, true, true, true, true, true, true, true, true, true, true, true, true, true, true, true, true, true, false, false, false, false, false, false, false, false, false, false, false] rfl rfl (any_of HT_.out (by kernel_rfl)) (fun _ _ _ h => h) (Or.inr ⟨by rfl, rfl⟩) ?_ ?_; rotate_left; · (simp only [Act.put, sT, sZ, sS, i64_w, i32_w]; rfl)
                refine pure_ (i := 25) (N := some 103) (v := ?_) (a' := ?_) #[true, true, true, true, true, true, true, true, true, true, true, true, true, true, true, true, true, true, true, true, true, true, true, true, true, true, false, false, false, false, false, false, false, false, false, false] rfl rfl (any_of HT_.out (by kernel_rfl)) (fun _ _ _ h => h) (Or.inl ⟨by rfl, ?_⟩) ?_ ?_; rotate_left; · (intro w'; go_simp; with_reducible rfl)
                rotate_left; · (simp only [Act.put, sT, sZ, sS, i64_w, i32_w]; rfl)
                refine pure_ (i := 26) (N := some 104) (v := ?_) (a' := ?_) #[true, true, true, true, true, true, true, true, true, true, true, true, true, true, true, true, true, true, true, true, true, true, true, true, true, true, true, false, false, false, false, false, false, false, false, false] rfl rfl (any_of HT_.out (by kernel_rfl)) (fun _ _ _ h => h) (Or.inl ⟨by rfl, ?_⟩) ?_ ?_; rotate_left; · (intro w'; go_simp; with_reducible rfl)
                rotate_left; · (simp only [Act.put, sT, sZ, sS, i64_w, i32_w]; rfl)
                refine pure_ (i := 27) (N := some 105) (v := ?_) (a' := ?_) #[true, true, true, true, true, true, true, true, true, true, true, true, true, true, true, true, true, true, true, true, true, true, true, true, true, true, true, true, false, false, false, false, false, false, false, false] rfl rfl (any_of HT_.out (by kernel_rfl)) (fun _ _ _ h => h) (Or.inl ⟨by rfl, ?_⟩) ?_ ?_; rotate_left; · (intro w'; go_simp; with_reducible rfl)
                rotate_left; · (simp only [Act.put, sT, sZ, sS, i64_w, i32_w]; rfl)
                refine take_ (i := 28) (N := some 106) (v := ?_) (a' := ?_) #[true, true, true, true, true, true, true, true, true, true, true, true, true, true, true, true, true, true, true, true, true, true, true, true, true, true, true, true, true, false, false, false, false, false, false, false] rfl rfl (take_ofW HT_.out HW_.out (by kernel_rfl)) (fun _ _ _ h => h) (Or.inl ⟨by rfl, ?_⟩) hHeld ?_ ?_; rotate_left
                · rintro w' ⟨s0, s1, s2, s3, s4, s5, s6, s7, s8, s9, s10, s11, s12, s13, s14, s15, s16, s17, s18, s19, s20, s21, s22⟩
                  go_simp
                  with_reducible rfl
                rotate_left; · (simp only [Act.put, sT, sZ, sS, i64_w, i32_w]; rfl)
                refine take_ (i := 29) (N := some 107) (v := ?_) (a' := ?_) #[true, true, true, true, true, true, true, true, true, true, true, true, true, true, true, true, true, true, true, true, true, true, true, true, true, true, true, true, true, true, false, false, false, false, false, false] rfl rfl (take_ofW HT_.out HW_.out (by kernel_rfl)) (fun _ _ _ h => h) (Or.inl ⟨by rfl, ?_⟩) hHeld ?_ ?_; rotate_left
                · rintro w' ⟨s0, s1, s2, s3, s4, s5, s6, s7, s8, s9, s10, s11, s12, s13, s14, s15, s16, s17, s18, s19, s20, s21, s22⟩
                  go_simp
                  with_reducible rfl
                rotate_left; · (simp only [Act.put, sT, sZ, sS, i64_w, i32_w]; rfl)
                refine take_ (i := 31) (N := some 109) (v := ?_) (a' := ?_) #[true, true, true, true, true, true, true, true, true, true, true, true, true, true, true, true, true, true, true, true, true, true, true, true, true, true, true, true, true, true, false, true, false, false, false, false] rfl rfl (take_ofW HT_.out HW_.out (by kernel_rfl)) (fun _ _ _ h => h) (Or.inl ⟨by rfl, ?_⟩) hHeld ?_ ?_; rotate_left
                · rintro w' ⟨s0, s1, s2, s3, s4, s5, s6, s7, s8, s9, s10, s11, s12, s13, s14, s15, s16, s17, s18, s19, s20, s21, s22⟩
                  go_simp
                  with_reducible rfl
                rotate_left; · (simp only [Act.put, sT, sZ, sS, i64_w, i32_w]; rfl)
                refine take_ (i := 32) (N := some 110) (v := ?_) (a' := ?_) #[true, true, true, true, true, true, true, true, true, true, true, true, true, true, true, true, true, true, true, true, true, true, true, true, true, true, true, true, true, true, false, true, true, false, false, false] rfl rfl (take_ofW HT_.out HW_.out (by kernel_rfl)) (fun _ _ _ h => h) (Or.inl ⟨by rfl, ?_⟩) hHeld ?_ ?_; rotate_left
                · rintro w' ⟨s0, s1, s2, s3, s4, s5, s6, s7, s8, s9, s10, s11, s12, s13, s14, s15, s16, s17, s18, s19, s20, s21, s22⟩
                  go_simp
                  with_reducible rfl
                rotate_left; · (simp only [Act.put, sT, sZ, sS, i64_w, i32_w]; rfl)
                refine one_ (i := 30) (N := some 108) #[true, true, true, true, true, true, true, true, true, true, true, true, true, true, true, true, true, true, true, true, true, true, true, true, true, true, true, true, true, true, true, true, true, false, false, false] rfl rfl (one_of HT_.out (by kernel_rfl)) (by decide) (fun K hK => ?_)
                refine goes_ Try.func11 (by kernel_rfl) rfl #[.agg #[.int .i64 3, .int .i64 a0_0, .int .i64 a0_1, .int .i64 a1_0, .int .i64 a1_1, .int .i64 0, .int .i64 0], .agg #[.int .i64 a2_0, .int .i64 a2_1]] (by rfl) rfl rfl (by (try simp only [List.map_toArray, List.map_cons, List.map_nil]); first | done | rfl | (simp; done)) ?_
                (with_reducible refine (area_In.calls k _ _ _ _ _ _ _ _ _ _ _  Hc76.out).mono ?_)
                rintro e_ w79 ⟨rfl, hb_⟩
                refine ⟨_, rfl, ?_⟩
                replace HS := Aside0.mk (HS.out.below hb_)
                replace HK := Aside0.mk (HK.out.trans (Keep.below hb_))
                refine hK.out _ _ ⟨(((blk_cell (SL.at_ (SL.get7 HS.out)) 0).trans rfl)), (((blk_cell (SL.at_ (SL.get7 HS.out)) 1).trans rfl)), (((blk_cell (SL.at_ (SL.get7 HS.out)) 2).trans rfl)), (((blk_cell (SL.at_ (SL.get7 HS.out)) 3).trans rfl)), (((blk_cell (SL.at_ (SL.get7 HS.out)) 4).trans rfl)), (((blk_cell (SL.at_ (SL.get7 HS.out)) 5).trans rfl)), (((blk_cell (SL.at_ (SL.get7 HS.out)) 6).trans rfl)), (((blk_cell (SL.at_ (SL.get8 HS.out)) 0).trans rfl)), (((blk_cell (SL.at_ (SL.get8 HS.out)) 1).trans rfl)), (((blk_cell (SL.at_ (SL.get4 HS.out)) 0).trans rfl)), (((blk_cell (SL.at_ (SL.get4 HS.out)) 1).trans rfl)), (((blk_cell (SL.at_ (SL.get4 HS.out)) 2).trans rfl)), (((blk_cell (SL.at_ (SL.get4 HS.out)) 3).trans rfl)), (((blk_cell (SL.at_ (SL.get4 HS.out)) 4).trans rfl)), (((blk_cell (SL.at_ (SL.get4 HS.out)) 5).trans rfl)), (((blk_cell (SL.at_ (SL.get4 HS.out)) 6).trans rfl)), (((blk_cell (SL.at_ (SL.get3 HS.out)) 0).trans rfl)), (((blk_cell (SL.at_ (SL.get3 HS.out)) 1).trans rfl)), (((blk_cell (SL.at_ (SL.get3 HS.out)) 2).trans rfl)), (((blk_cell (SL.at_ (SL.get3 HS.out)) 3).trans rfl)), (((blk_cell (SL.at_ (SL.get3 HS.out)) 4).trans rfl)), (((blk_cell (SL.at_ (SL.get3 HS.out)) 5).trans rfl)), (((blk_cell (SL.at_ (SL.get3 HS.out)) 6).trans rfl))⟩ (fun hHeld => ?_)
                clear hK K
                refine norm_ (a' := ?_) ?_ ?_; rotate_left
                · show Act.put _ (some 108) _ = _
                  simp only [Act.put, sT, sZ, sS, i64_w, i32_w]
                  rfl
                refine one_ (i := 33) (N := some 111) #[true, true, true, true, true, true, true, true, true, true, true, true, true, true, true, true, true, true, true, true, true, true, true, true, true, true, true, true, true, true, true, true, true, true, false, false] rfl rfl (one_of HT_.out (by kernel_rfl)) (by decide) (fun K hK => ?_)
                refine goes_ Try.func11 (by kernel_rfl) rfl #[.agg #[.int .i64 3, .int .i64 a1_0, .int .i64 a1_1, .int .i64 a0_0, .int .i64 a0_1, .int .i64 0, .int .i64 0], .agg #[.int .i64 a2_0, .int .i64 a2_1]] (by rfl) rfl rfl (by (try simp only [List.map_toArray, List.map_cons, List.map_nil]); first | done | rfl | (simp; done)) ?_
                (with_reducible refine (area_In.calls k _ _ _ _ _ _ _ _ _ _ _  Hc77.out).mono ?_)
                rintro e_ w80 ⟨rfl, hb_⟩
                refine ⟨_, rfl, ?_⟩
                replace HS := Aside0.mk (HS.out.below hb_)
                replace HK := Aside0.mk (HK.out.trans (Keep.below hb_))
                refine hK.out _ _ ⟨(((blk_cell (SL.at_ (SL.get7 HS.out)) 0).trans rfl)), (((blk_cell (SL.at_ (SL.get7 HS.out)) 1).trans rfl)), (((blk_cell (SL.at_ (SL.get7 HS.out)) 2).trans rfl)), (((blk_cell (SL.at_ (SL.get7 HS.out)) 3).trans rfl)), (((blk_cell (SL.at_ (SL.get7 HS.out)) 4).trans rfl)), (((blk_cell (SL.at_ (SL.get7 HS.out)) 5).trans rfl)), (((blk_cell (SL.at_ (SL.get7 HS.out)) 6).trans rfl)), (((blk_cell (SL.at_ (SL.get8 HS.out)) 0).trans rfl)), (((blk_cell (SL.at_ (SL.get8 HS.out)) 1).trans rfl)), (((blk_cell (SL.at_ (SL.get4 HS.out)) 0).trans rfl)), (((blk_cell (SL.at_ (SL.get4 HS.out)) 1).trans rfl)), (((blk_cell (SL.at_ (SL.get4 HS.out)) 2).trans rfl)), (((blk_cell (SL.at_ (SL.get4 HS.out)) 3).trans rfl)), (((blk_cell (SL.at_ (SL.get4 HS.out)) 4).trans rfl)), (((blk_cell (SL.at_ (SL.get4 HS.out)) 5).trans rfl)), (((blk_cell (SL.at_ (SL.get4 HS.out)) 6).trans rfl)), (((blk_cell (SL.at_ (SL.get3 HS.out)) 0).trans rfl)), (((blk_cell (SL.at_ (SL.get3 HS.out)) 1).trans rfl)), (((blk_cell (SL.at_ (SL.get3 HS.out)) 2).trans rfl)), (((blk_cell (SL.at_ (SL.get3 HS.out)) 3).trans rfl)), (((blk_cell (SL.at_ (SL.get3 HS.out)) 4).trans rfl)), (((blk_cell (SL.at_ (SL.get3 HS.out)) 5).trans rfl)), (((blk_cell (SL.at_ (SL.get3 HS.out)) 6).trans rfl))⟩ (fun hHeld => ?_)
                clear hK K
                refine norm_ (a' := ?_) ?_ ?_; rotate_left
                · show Act.put _ (some 111) _ = _
                  simp only [Act.put, sT, sZ, sS, i64_w, i32_w]
                  rfl
                refine pure_ (i := 34) (N := some 112) (v := ?_) (a' := ?_) #[true, true, true, true, true, true, true, true, true, true, true, true, true, true, true, true, true, true, true, true, true, true, true, true, true, true, true, true, true, true, true, true, true, true, true, false] rfl rfl (any_of HT_.out (by kernel_rfl)) (fun _ _ _ h => h) (Or.inl ⟨by rfl, ?_⟩) ?_ ?_; rotate_left; · (intro w'; go_simp; with_reducible rfl)
                rotate_left; · (simp only [Act.put, sT, sZ, sS, i64_w, i32_w]; rfl)
                refine pure_ (i := 35) (N := some 113) (v := ?_) (a' := ?_) #[true, true, true, true, true, true, true, true, true, true, true, true, true, true, true, true, true, true, true, true, true, true, true, true, true, true, true, true, true, true, true, true, true, true, true, true] rfl rfl (any_of HT_.out (by kernel_rfl)) (fun _ _ _ h => h) (Or.inl ⟨by rfl, ?_⟩) ?_ ?_; rotate_left; · (intro w'; go_simp; with_reducible rfl)
                rotate_left; · (simp only [Act.put, sT, sZ, sS, i64_w, i32_w]; rfl)
                refine done_ (done_of HT_.out (by kernel_rfl)) ?_
                try go_wp2
                go_meet
                case rel => exact ⟨k, ((t524 != t525)), (by first | rfl | (simp; done) | (simp [*]; done)), H', ⟨by omega⟩, HS, HK⟩
          case rest =>
            clear H' HS HK
            try clear hz3000051_0_0 hz3000051_1_0 hz3000051_2_0 hz3000051_3_0 hz3000051_4_0 hz3000051_5_0 hz3000051_6_0
            try clear hz3000054_0_0 hz3000054_1_0 hz3000054_2_0 hz3000054_3_0 hz3000054_4_0 hz3000054_5_0 hz3000054_6_0
            obtain ⟨kq, x113_199, rfl, HA, HQ1, HS, HK⟩ := hcut
            cases kq with
            | zero => exact absurd HA.out (by simp [barrowlaw32_AreaShapes.l199])
            | succ k1 =>
              have H := HA.out
              clear HA
              simp only [barrowlaw32_AreaShapes.l199] at H
              by_cases c81 : x113_199 = true
              · subst c81
                rw [if_pos rfl] at H
                exact absurd H (by simp)
              · replace c81 := Bool.eq_false_iff.mpr c81
                subst c81
                rw [if_neg (show ¬ (false = true) by decide)] at H
                have H' := Aside0.mk H
                clear H
                try go_upto_region 14 with (fail)
                go_cut [138] (fun v138 wc => ∃ (kq : Nat) (x138_299 : Bool), v138 = .bool x138_299 ∧ Aside0 (barrowlaw32_AreaShapes.l299 kq a0_0 a0_1 a1_0 a1_1 a2_0 a2_1 t501 x138_299 = some r) ∧ Aside0 (kq ≤ k1) ∧ Aside0 (SL (cells g3000055 28 [.int .i64 5, .int .i64 a0_0, .int .i64 a0_1, .int .i64 a1_0, .int .i64 a1_1, .int .i64 0, .int .i64 0].toArray :: cells g3000054 28 [.int .i64 4, .int .i64 a0_0, .int .i64 a0_1, .int .i64 t502, .int .i64 t503, .int .i64 a4, .int .i64 0].toArray :: cells g3000053 28 [.int .i64 4, .int .i64 a0_0, .int .i64 a0_1, .int .i64 a1_0, .int .i64 a1_1, .int .i64 a4, .int .i64 0].toArray :: cells g3000052 28 [.int .i64 3, .int .i64 a1_0, .int .i64 a1_1, .int .i64 a0_0, .int .i64 a0_1, .int .i64 0, .int .i64 0].toArray :: cells g3000051 28 [.int .i64 3, .int .i64 a0_0, .int .i64 a0_1, .int .i64 a1_0, .int .i64 a1_1, .int .i64 0, .int .i64 0].toArray :: cells g3000050 28 [.int .i64 1, .int .i64 a0_0, .int .i64 a0_1, .int .i64 0, .int .i64 0, .int .i64 a3, .int .i64 0].toArray :: cells g3000049 28 [.int .i64 1, .int .i64 a0_0, .int .i64 a0_1, .int .i64 0, .int .i64 0, .int .i64 a4, .int .i64 0].toArray :: cells g3000048 28 [.int .i64 2, .int .i64 a0_0, .int .i64 a0_1, .int .i64 0, .int .i64 0, .int .i64 a3, .int .i64 a4].toArray :: cells g3000047 26 [.int .i64 a2_0, .int .i64 a2_1].toArray :: cells g3000046 26 [.int .i64 a1_0, .int .i64 a1_1].toArray :: cells g3000045 26 [.int .i64 a0_0, .int .i64 a0_1].toArray :: L) wc S) ∧ Aside0 (Keep S w wc))
                case first =>
                  have H := H'.out
                  clear H'
                  replace H := Option.bind_eq_some_iff.1 H
                  obtain ⟨t526, Hc820, H⟩ := H
                  try dsimp only at H
                  have Hc82 := Aside0.mk Hc820
                  clear Hc820
                  by_cases c83 : t526 = true
                  · subst c83
                    rw [if_pos rfl] at H
                    replace H := Option.bind_eq_some_iff.1 H
                    obtain ⟨t527, Hc840, H⟩ := H
                    try dsimp only at H
                    have Hc84 := Aside0.mk Hc840
                    clear Hc840
                    by_cases c85 : t527 = true
                    · subst c85
                      rw [if_pos rfl] at H
                      replace H := Option.bind_eq_some_iff.1 H
                      obtain ⟨t528, Hc860, H⟩ := H
                      try dsimp only at H
                      have Hc86 := Aside0.mk Hc860
                      clear Hc860
                      have H' := Aside0.mk H
                      clear H
                      have hb_ := SL.at_ (SL.get2 HS.out)
                      have hz3000053_0_0 := ((blk_cell hb_ 0).trans rfl : _ = some (.int .i64 4))
                      have hz3000053_1_0 := ((blk_cell hb_ 1).trans rfl : _ = some (.int .i64 a0_0))
                      have hz3000053_2_0 := ((blk_cell hb_ 2).trans rfl : _ = some (.int .i64 a0_1))
                      have hz3000053_3_0 := ((blk_cell hb_ 3).trans rfl : _ = some (.int .i64 a1_0))
                      have hz3000053_4_0 := ((blk_cell hb_ 4).trans rfl : _ = some (.int .i64 a1_1))
                      have hz3000053_5_0 := ((blk_cell hb_ 5).trans rfl : _ = some (.int .i64 a4))
                      have hz3000053_6_0 := ((blk_cell hb_ 6).trans rfl : _ = some (.int .i64 0))
                      clear hb_
                      have hb_ := SL.at_ (SL.get8 HS.out)
                      have hz3000047_0_0 := ((blk_cell hb_ 0).trans rfl : _ = some (.int .i64 a2_0))
                      have hz3000047_1_0 := ((blk_cell hb_ 1).trans rfl : _ = some (.int .i64 a2_1))
                      clear hb_
                      go_wp2_with (first | ((with_reducible refine gate_dst (N := 116) rfl ?_); refine goesL_ (some 116) rfl rfl Try.func11 (by kernel_rfl) rfl #[.agg #[.int .i64 4, .int .i64 a0_0, .int .i64 a0_1, .int .i64 a1_0, .int .i64 a1_1, .int .i64 a4, .int .i64 0], .agg #[.int .i64 a2_0, .int .i64 a2_1]] rfl (by (try simp only [List.map_toArray, List.map_cons, List.map_nil]); first | done | rfl | (simp; done)) ?_; (with_reducible refine (area_In.calls k1 _ _ _ _ _ _ _ _ _ _ _  Hc82.out).mono ?_); rintro e_ w87 ⟨rfl, hb_⟩; refine ⟨_, rfl, ?_⟩; replace HS := Aside0.mk (HS.out.below hb_); replace HK := Aside0.mk (HK.out.trans (Keep.below hb_)); (try clear hz3000047_0_0 hz3000047_1_0); (try clear hz3000053_0_0 hz3000053_1_0 hz3000053_2_0 hz3000053_3_0 hz3000053_4_0 hz3000053_5_0 hz3000053_6_0); have hb_ := SL.at_ (SL.get6 HS.out); have hz3000049_0_1 := ((blk_cell hb_ 0).trans rfl : _ = some (.int .i64 1)); have hz3000049_1_1 := ((blk_cell hb_ 1).trans rfl : _ = some (.int .i64 a0_0)); have hz3000049_2_1 := ((blk_cell hb_ 2).trans rfl : _ = some (.int .i64 a0_1)); have hz3000049_3_1 := ((blk_cell hb_ 3).trans rfl : _ = some (.int .i64 0)); have hz3000049_4_1 := ((blk_cell hb_ 4).trans rfl : _ = some (.int .i64 0)); have hz3000049_5_1 := ((blk_cell hb_ 5).trans rfl : _ = some (.int .i64 a4)); have hz3000049_6_1 := ((blk_cell hb_ 6).trans rfl : _ = some (.int .i64 0)); clear hb_; have hb_ := SL.at_ (SL.get8 HS.out); have hz3000047_0_1 := ((blk_cell hb_ 0).trans rfl : _ = some (.int .i64 a2_0)); have hz3000047_1_1 := ((blk_cell hb_ 1).trans rfl : _ = some (.int .i64 a2_1)); clear hb_) | ((with_reducible refine gate_dst (N := 120) rfl ?_); (try (refine gate_guard (by rfl) ?_; dsimp only)); refine goesL_ (some 120) rfl rfl Try.func11 (by kernel_rfl) rfl #[.agg #[.int .i64 1, .int .i64 a0_0, .int .i64 a0_1, .int .i64 0, .int .i64 0, .int .i64 a4, .int .i64 0], .agg #[.int .i64 a2_0, .int .i64 a2_1]] rfl (by (try simp only [List.map_toArray, List.map_cons, List.map_nil]); first | done | rfl | (simp; done)) ?_; (with_reducible refine (area_In.calls k1 _ _ _ _ _ _ _ _ _ _ _  Hc84.out).mono ?_); rintro e_ w88 ⟨rfl, hb_⟩; refine ⟨_, rfl, ?_⟩; replace HS := Aside0.mk (HS.out.below hb_); replace HK := Aside0.mk (HK.out.trans (Keep.below hb_)); (try clear hz3000047_0_1 hz3000047_1_1); (try clear hz3000049_0_1 hz3000049_1_1 hz3000049_2_1 hz3000049_3_1 hz3000049_4_1 hz3000049_5_1 hz3000049_6_1); have hb_ := SL.at_ (SL.get1 HS.out); have hz3000054_0_2 := ((blk_cell hb_ 0).trans rfl : _ = some (.int .i64 4)); have hz3000054_1_2 := ((blk_cell hb_ 1).trans rfl : _ = some (.int .i64 a0_0)); have hz3000054_2_2 := ((blk_cell hb_ 2).trans rfl : _ = some (.int .i64 a0_1)); have hz3000054_3_2 := ((blk_cell hb_ 3).trans rfl : _ = some (.int .i64 t502)); have hz3000054_4_2 := ((blk_cell hb_ 4).trans rfl : _ = some (.int .i64 t503)); have hz3000054_5_2 := ((blk_cell hb_ 5).trans rfl : _ = some (.int .i64 a4)); have hz3000054_6_2 := ((blk_cell hb_ 6).trans rfl : _ = some (.int .i64 0)); clear hb_; have hb_ := SL.at_ (SL.get8 HS.out); have hz3000047_0_2 := ((blk_cell hb_ 0).trans rfl : _ = some (.int .i64 a2_0)); have hz3000047_1_2 := ((blk_cell hb_ 1).trans rfl : _ = some (.int .i64 a2_1)); clear hb_) | ((with_reducible refine gate_dst (N := 125) rfl ?_); (try (refine gate_guard (by rfl) ?_; dsimp only)); refine goesL_ (some 125) rfl rfl Try.func11 (by kernel_rfl) rfl #[.agg #[.int .i64 4, .int .i64 a0_0, .int .i64 a0_1, .int .i64 t502, .int .i64 t503, .int .i64 a4, .int .i64 0], .agg #[.int .i64 a2_0, .int .i64 a2_1]] rfl (by (try simp only [List.map_toArray, List.map_cons, List.map_nil]); first | done | rfl | (simp; done)) ?_; (with_reducible refine (area_In.calls k1 _ _ _ _ _ _ _ _ _ _ _  Hc86.out).mono ?_); rintro e_ w89 ⟨rfl, hb_⟩; refine ⟨_, rfl, ?_⟩; replace HS := Aside0.mk (HS.out.below hb_); replace HK := Aside0.mk (HK.out.trans (Keep.below hb_)); (try clear hz3000047_0_2 hz3000047_1_2); (try clear hz3000054_0_2 hz3000054_1_2 hz3000054_2_2 hz3000054_3_2 hz3000054_4_2 hz3000054_5_2 hz3000054_6_2); refine stop_ ?_; intro G_ hG_))
                      have H := H'.out
                      clear H'
                      by_cases c90 : t528 = true
                      · subst c90
                        rw [if_pos rfl] at H
                        by_cases c91 : (!(a2_0 == a0_0) || (!(a2_1 == a0_1))) = true
                        · rw [if_pos c91] at H
                          exact absurd H (by simp)
                        · rw [if_neg c91] at H
                          have c91b0 : (!(a2_0 == a0_0) || (!(a2_1 == a0_1))) = false := by simpa using c91
                          clear c91
                          replace H := Option.bind_eq_some_iff.1 H
                          obtain ⟨t529, Hc920, H⟩ := H
                          try dsimp only at H
                          have Hc92 := Aside0.mk Hc920
                          clear Hc920
                          have H' := Aside0.mk H
                          clear H
                          have hb_ := SL.at_ (SL.get2 HS.out)
                          have hz3000053_0_0 := ((blk_cell hb_ 0).trans rfl : _ = some (.int .i64 4))
                          have hz3000053_1_0 := ((blk_cell hb_ 1).trans rfl : _ = some (.int .i64 a0_0))
                          have hz3000053_2_0 := ((blk_cell hb_ 2).trans rfl : _ = some (.int .i64 a0_1))
                          have hz3000053_3_0 := ((blk_cell hb_ 3).trans rfl : _ = some (.int .i64 a1_0))
                          have hz3000053_4_0 := ((blk_cell hb_ 4).trans rfl : _ = some (.int .i64 a1_1))
                          have hz3000053_5_0 := ((blk_cell hb_ 5).trans rfl : _ = some (.int .i64 a4))
                          have hz3000053_6_0 := ((blk_cell hb_ 6).trans rfl : _ = some (.int .i64 0))
                          clear hb_
                          have hb_ := SL.at_ (SL.get8 HS.out)
                          have hz3000047_0_0 := ((blk_cell hb_ 0).trans rfl : _ = some (.int .i64 a2_0))
                          have hz3000047_1_0 := ((blk_cell hb_ 1).trans rfl : _ = some (.int .i64 a2_1))
                          clear hb_
                          have hb_ := SL.at_ (SL.get10 HS.out)
                          have hz3000045_0_0 := ((blk_cell hb_ 0).trans rfl : _ = some (.int .i64 a0_0))
                          have hz3000045_1_0 := ((blk_cell hb_ 1).trans rfl : _ = some (.int .i64 a0_1))
                          clear hb_
                          refine hG_.out ?_
                          try simp only [c91b0]
                          go_wp2_with (first | ((with_reducible refine gate_dst (N := 136) rfl ?_); (try (refine gate_guard (by rfl) ?_; dsimp only)); refine goesL_ (some 136) rfl rfl Try.func11 (by kernel_rfl) rfl #[.agg #[.int .i64 4, .int .i64 a0_0, .int .i64 a0_1, .int .i64 a1_0, .int .i64 a1_1, .int .i64 a4, .int .i64 0], .agg #[.int .i64 a0_0, .int .i64 a0_1]] rfl (by (try simp only [List.map_toArray, List.map_cons, List.map_nil]); first | done | rfl | (simp; done)) ?_; (with_reducible refine (area_In.calls k1 _ _ _ _ _ _ _ _ _ _ _  Hc92.out).mono ?_); rintro e_ w93 ⟨rfl, hb_⟩; refine ⟨_, rfl, ?_⟩; replace HS := Aside0.mk (HS.out.below hb_); replace HK := Aside0.mk (HK.out.trans (Keep.below hb_)); (try clear hz3000045_0_0 hz3000045_1_0); (try clear hz3000047_0_0 hz3000047_1_0); (try clear hz3000053_0_0 hz3000053_1_0 hz3000053_2_0 hz3000053_3_0 hz3000053_4_0 hz3000053_5_0 hz3000053_6_0)))
                          go_meet
                          case rel => exact ⟨k1, (!t529), (by first | rfl | (simp; done) | (simp [*]; done)), H', ⟨by have := HQ1.out; omega⟩, HS, HK⟩
                      · replace c90 := Bool.eq_false_iff.mpr c90
                        subst c90
                        rw [if_neg (show ¬ (false = true) by decide)] at H
                        replace H := Option.bind_eq_some_iff.1 H
                        obtain ⟨t530, Hc940, H⟩ := H
                        try dsimp only at H
                        have Hc94 := Aside0.mk Hc940
                        clear Hc940
                        have H' := Aside0.mk H
                        clear H
                        have hb_ := SL.at_ (SL.get2 HS.out)
                        have hz3000053_0_0 := ((blk_cell hb_ 0).trans rfl : _ = some (.int .i64 4))
                        have hz3000053_1_0 := ((blk_cell hb_ 1).trans rfl : _ = some (.int .i64 a0_0))
                        have hz3000053_2_0 := ((blk_cell hb_ 2).trans rfl : _ = some (.int .i64 a0_1))
                        have hz3000053_3_0 := ((blk_cell hb_ 3).trans rfl : _ = some (.int .i64 a1_0))
                        have hz3000053_4_0 := ((blk_cell hb_ 4).trans rfl : _ = some (.int .i64 a1_1))
                        have hz3000053_5_0 := ((blk_cell hb_ 5).trans rfl : _ = some (.int .i64 a4))
                        have hz3000053_6_0 := ((blk_cell hb_ 6).trans rfl : _ = some (.int .i64 0))
                        clear hb_
                        have hb_ := SL.at_ (SL.get10 HS.out)
                        have hz3000045_0_0 := ((blk_cell hb_ 0).trans rfl : _ = some (.int .i64 a0_0))
                        have hz3000045_1_0 := ((blk_cell hb_ 1).trans rfl : _ = some (.int .i64 a0_1))
                        clear hb_
                        refine hG_.out ?_
                        go_wp2_with (first | ((with_reducible refine gate_dst (N := 136) rfl ?_); (try (refine gate_guard (by rfl) ?_; dsimp only)); refine goesL_ (some 136) rfl rfl Try.func11 (by kernel_rfl) rfl #[.agg #[.int .i64 4, .int .i64 a0_0, .int .i64 a0_1, .int .i64 a1_0, .int .i64 a1_1, .int .i64 a4, .int .i64 0], .agg #[.int .i64 a0_0, .int .i64 a0_1]] rfl (by (try simp only [List.map_toArray, List.map_cons, List.map_nil]); first | done | rfl | (simp; done)) ?_; (with_reducible refine (area_In.calls k1 _ _ _ _ _ _ _ _ _ _ _  Hc94.out).mono ?_); rintro e_ w95 ⟨rfl, hb_⟩; refine ⟨_, rfl, ?_⟩; replace HS := Aside0.mk (HS.out.below hb_); replace HK := Aside0.mk (HK.out.trans (Keep.below hb_)); (try clear hz3000045_0_0 hz3000045_1_0); (try clear hz3000053_0_0 hz3000053_1_0 hz3000053_2_0 hz3000053_3_0 hz3000053_4_0 hz3000053_5_0 hz3000053_6_0)))
                        go_meet
                        case rel => exact ⟨k1, (!t530), (by first | rfl | (simp; done) | (simp [*]; done)), H', ⟨by have := HQ1.out; omega⟩, HS, HK⟩
                    · replace c85 := Bool.eq_false_iff.mpr c85
                      subst c85
                      rw [if_neg (show ¬ (false = true) by decide)] at H
                      exact absurd H (by simp)
                  · replace c83 := Bool.eq_false_iff.mpr c83
                    subst c83
                    rw [if_neg (show ¬ (false = true) by decide)] at H
                    replace H := Option.bind_eq_some_iff.1 H
                    obtain ⟨t531, Hc960, H⟩ := H
                    try dsimp only at H
                    have Hc96 := Aside0.mk Hc960
                    clear Hc960
                    have H' := Aside0.mk H
                    clear H
                    have hb_ := SL.at_ (SL.get2 HS.out)
                    have hz3000053_0_0 := ((blk_cell hb_ 0).trans rfl : _ = some (.int .i64 4))
                    have hz3000053_1_0 := ((blk_cell hb_ 1).trans rfl : _ = some (.int .i64 a0_0))
                    have hz3000053_2_0 := ((blk_cell hb_ 2).trans rfl : _ = some (.int .i64 a0_1))
                    have hz3000053_3_0 := ((blk_cell hb_ 3).trans rfl : _ = some (.int .i64 a1_0))
                    have hz3000053_4_0 := ((blk_cell hb_ 4).trans rfl : _ = some (.int .i64 a1_1))
                    have hz3000053_5_0 := ((blk_cell hb_ 5).trans rfl : _ = some (.int .i64 a4))
                    have hz3000053_6_0 := ((blk_cell hb_ 6).trans rfl : _ = some (.int .i64 0))
                    clear hb_
                    have hb_ := SL.at_ (SL.get8 HS.out)
                    have hz3000047_0_0 := ((blk_cell hb_ 0).trans rfl : _ = some (.int .i64 a2_0))
                    have hz3000047_1_0 := ((blk_cell hb_ 1).trans rfl : _ = some (.int .i64 a2_1))
                    clear hb_
                    go_wp2_with (first | ((with_reducible refine gate_dst (N := 116) rfl ?_); refine goesL_ (some 116) rfl rfl Try.func11 (by kernel_rfl) rfl #[.agg #[.int .i64 4, .int .i64 a0_0, .int .i64 a0_1, .int .i64 a1_0, .int .i64 a1_1, .int .i64 a4, .int .i64 0], .agg #[.int .i64 a2_0, .int .i64 a2_1]] rfl (by (try simp only [List.map_toArray, List.map_cons, List.map_nil]); first | done | rfl | (simp; done)) ?_; (with_reducible refine (area_In.calls k1 _ _ _ _ _ _ _ _ _ _ _  Hc82.out).mono ?_); rintro e_ w97 ⟨rfl, hb_⟩; refine ⟨_, rfl, ?_⟩; replace HS := Aside0.mk (HS.out.below hb_); replace HK := Aside0.mk (HK.out.trans (Keep.below hb_)); (try clear hz3000047_0_0 hz3000047_1_0); (try clear hz3000053_0_0 hz3000053_1_0 hz3000053_2_0 hz3000053_3_0 hz3000053_4_0 hz3000053_5_0 hz3000053_6_0); have hb_ := SL.at_ (SL.get2 HS.out); have hz3000053_0_1 := ((blk_cell hb_ 0).trans rfl : _ = some (.int .i64 4)); have hz3000053_1_1 := ((blk_cell hb_ 1).trans rfl : _ = some (.int .i64 a0_0)); have hz3000053_2_1 := ((blk_cell hb_ 2).trans rfl : _ = some (.int .i64 a0_1)); have hz3000053_3_1 := ((blk_cell hb_ 3).trans rfl : _ = some (.int .i64 a1_0)); have hz3000053_4_1 := ((blk_cell hb_ 4).trans rfl : _ = some (.int .i64 a1_1)); have hz3000053_5_1 := ((blk_cell hb_ 5).trans rfl : _ = some (.int .i64 a4)); have hz3000053_6_1 := ((blk_cell hb_ 6).trans rfl : _ = some (.int .i64 0)); clear hb_; have hb_ := SL.at_ (SL.get10 HS.out); have hz3000045_0_1 := ((blk_cell hb_ 0).trans rfl : _ = some (.int .i64 a0_0)); have hz3000045_1_1 := ((blk_cell hb_ 1).trans rfl : _ = some (.int .i64 a0_1)); clear hb_) | ((with_reducible refine gate_dst (N := 136) rfl ?_); (try (refine gate_guard (by rfl) ?_; dsimp only)); refine goesL_ (some 136) rfl rfl Try.func11 (by kernel_rfl) rfl #[.agg #[.int .i64 4, .int .i64 a0_0, .int .i64 a0_1, .int .i64 a1_0, .int .i64 a1_1, .int .i64 a4, .int .i64 0], .agg #[.int .i64 a0_0, .int .i64 a0_1]] rfl (by (try simp only [List.map_toArray, List.map_cons, List.map_nil]); first | done | rfl | (simp; done)) ?_; (with_reducible refine (area_In.calls k1 _ _ _ _ _ _ _ _ _ _ _  Hc96.out).mono ?_); rintro e_ w98 ⟨rfl, hb_⟩; refine ⟨_, rfl, ?_⟩; replace HS := Aside0.mk (HS.out.below hb_); replace HK := Aside0.mk (HK.out.trans (Keep.below hb_)); (try clear hz3000045_0_1 hz3000045_1_1); (try clear hz3000053_0_1 hz3000053_1_1 hz3000053_2_1 hz3000053_3_1 hz3000053_4_1 hz3000053_5_1 hz3000053_6_1)))
                    go_meet
                    case rel => exact ⟨k1, (!t531), (by first | rfl | (simp; done) | (simp [*]; done)), H', ⟨by have := HQ1.out; omega⟩, HS, HK⟩
                case rest =>
                  clear H' HS HK
                  obtain ⟨kq, x138_299, rfl, HA, HQ2, HS, HK⟩ := hcut
                  cases kq with
                  | zero => exact absurd HA.out (by simp [barrowlaw32_AreaShapes.l299])
                  | succ k2 =>
                    have H := HA.out
                    clear HA
                    simp only [barrowlaw32_AreaShapes.l299] at H
                    by_cases c99 : x138_299 = true
                    · subst c99
                      rw [if_pos rfl] at H
                      exact absurd H (by simp)
                    · replace c99 := Bool.eq_false_iff.mpr c99
                      subst c99
                      rw [if_neg (show ¬ (false = true) by decide)] at H
                      by_cases c100 : t501 = true
                      · subst c100
                        rw [if_pos rfl] at H
                        replace H := Option.bind_eq_some_iff.1 H
                        obtain ⟨t532, Hc1010, H⟩ := H
                        try dsimp only at H
                        have Hc101 := Aside0.mk Hc1010
                        clear Hc1010
                        by_cases c102 : t532 = true
                        · subst c102
                          rw [if_pos rfl] at H
                          replace H := Option.bind_eq_some_iff.1 H
                          obtain ⟨t533, Hc1030, H⟩ := H
                          try dsimp only at H
                          have Hc103 := Aside0.mk Hc1030
                          clear Hc1030
                          by_cases c104 : t533 = true
                          · subst c104
                            rw [if_pos rfl] at H
                            replace H := Option.bind_eq_some_iff.1 H
                            obtain ⟨t534, Hc1050, H⟩ := H
                            try dsimp only at H
                            have Hc105 := Aside0.mk Hc1050
                            clear Hc1050
                            have H' := Aside0.mk H
                            clear H
                            have hb_ := SL.at_ HS.out
                            have hz3000055_0_0 := ((blk_cell hb_ 0).trans rfl : _ = some (.int .i64 5))
                            have hz3000055_1_0 := ((blk_cell hb_ 1).trans rfl : _ = some (.int .i64 a0_0))
                            have hz3000055_2_0 := ((blk_cell hb_ 2).trans rfl : _ = some (.int .i64 a0_1))
                            have hz3000055_3_0 := ((blk_cell hb_ 3).trans rfl : _ = some (.int .i64 a1_0))
                            have hz3000055_4_0 := ((blk_cell hb_ 4).trans rfl : _ = some (.int .i64 a1_1))
                            have hz3000055_5_0 := ((blk_cell hb_ 5).trans rfl : _ = some (.int .i64 0))
                            have hz3000055_6_0 := ((blk_cell hb_ 6).trans rfl : _ = some (.int .i64 0))
                            clear hb_
                            have hb_ := SL.at_ (SL.get10 HS.out)
                            have hz3000045_0_0 := ((blk_cell hb_ 0).trans rfl : _ = some (.int .i64 a0_0))
                            have hz3000045_1_0 := ((blk_cell hb_ 1).trans rfl : _ = some (.int .i64 a0_1))
                            clear hb_
                            go_wp2_with (first | ((with_reducible refine gate_dst (N := 143) rfl ?_); (try (refine gate_guard (by rfl) ?_; dsimp only)); refine goesL_ (some 143) rfl rfl Try.func11 (by kernel_rfl) rfl #[.agg #[.int .i64 5, .int .i64 a0_0, .int .i64 a0_1, .int .i64 a1_0, .int .i64 a1_1, .int .i64 0, .int .i64 0], .agg #[.int .i64 a0_0, .int .i64 a0_1]] rfl (by (try simp only [List.map_toArray, List.map_cons, List.map_nil]); first | done | rfl | (simp; done)) ?_; (with_reducible refine (area_In.calls k2 _ _ _ _ _ _ _ _ _ _ _  Hc101.out).mono ?_); rintro e_ w106 ⟨rfl, hb_⟩; refine ⟨_, rfl, ?_⟩; replace HS := Aside0.mk (HS.out.below hb_); replace HK := Aside0.mk (HK.out.trans (Keep.below hb_)); (try clear hz3000045_0_0 hz3000045_1_0); (try clear hz3000055_0_0 hz3000055_1_0 hz3000055_2_0 hz3000055_3_0 hz3000055_4_0 hz3000055_5_0 hz3000055_6_0); have hb_ := SL.at_ HS.out; have hz3000055_0_1 := ((blk_cell hb_ 0).trans rfl : _ = some (.int .i64 5)); have hz3000055_1_1 := ((blk_cell hb_ 1).trans rfl : _ = some (.int .i64 a0_0)); have hz3000055_2_1 := ((blk_cell hb_ 2).trans rfl : _ = some (.int .i64 a0_1)); have hz3000055_3_1 := ((blk_cell hb_ 3).trans rfl : _ = some (.int .i64 a1_0)); have hz3000055_4_1 := ((blk_cell hb_ 4).trans rfl : _ = some (.int .i64 a1_1)); have hz3000055_5_1 := ((blk_cell hb_ 5).trans rfl : _ = some (.int .i64 0)); have hz3000055_6_1 := ((blk_cell hb_ 6).trans rfl : _ = some (.int .i64 0)); clear hb_; have hb_ := SL.at_ (SL.get9 HS.out); have hz3000046_0_1 := ((blk_cell hb_ 0).trans rfl : _ = some (.int .i64 a1_0)); have hz3000046_1_1 := ((blk_cell hb_ 1).trans rfl : _ = some (.int .i64 a1_1)); clear hb_) | ((with_reducible refine gate_dst (N := 148) rfl ?_); (try (refine gate_guard (by rfl) ?_; dsimp only)); refine goesL_ (some 148) rfl rfl Try.func11 (by kernel_rfl) rfl #[.agg #[.int .i64 5, .int .i64 a0_0, .int .i64 a0_1, .int .i64 a1_0, .int .i64 a1_1, .int .i64 0, .int .i64 0], .agg #[.int .i64 a1_0, .int .i64 a1_1]] rfl (by (try simp only [List.map_toArray, List.map_cons, List.map_nil]); first | done | rfl | (simp; done)) ?_; (with_reducible refine (area_In.calls k2 _ _ _ _ _ _ _ _ _ _ _  Hc103.out).mono ?_); rintro e_ w107 ⟨rfl, hb_⟩; refine ⟨_, rfl, ?_⟩; replace HS := Aside0.mk (HS.out.below hb_); replace HK := Aside0.mk (HK.out.trans (Keep.below hb_)); (try clear hz3000046_0_1 hz3000046_1_1); (try clear hz3000055_0_1 hz3000055_1_1 hz3000055_2_1 hz3000055_3_1 hz3000055_4_1 hz3000055_5_1 hz3000055_6_1); have hb_ := SL.at_ HS.out; have hz3000055_0_2 := ((blk_cell hb_ 0).trans rfl : _ = some (.int .i64 5)); have hz3000055_1_2 := ((blk_cell hb_ 1).trans rfl : _ = some (.int .i64 a0_0)); have hz3000055_2_2 := ((blk_cell hb_ 2).trans rfl : _ = some (.int .i64 a0_1)); have hz3000055_3_2 := ((blk_cell hb_ 3).trans rfl : _ = some (.int .i64 a1_0)); have hz3000055_4_2 := ((blk_cell hb_ 4).trans rfl : _ = some (.int .i64 a1_1)); have hz3000055_5_2 := ((blk_cell hb_ 5).trans rfl : _ = some (.int .i64 0)); have hz3000055_6_2 := ((blk_cell hb_ 6).trans rfl : _ = some (.int .i64 0)); clear hb_; have hb_ := SL.at_ (SL.get8 HS.out); have hz3000047_0_2 := ((blk_cell hb_ 0).trans rfl : _ = some (.int .i64 a2_0)); have hz3000047_1_2 := ((blk_cell hb_ 1).trans rfl : _ = some (.int .i64 a2_1)); clear hb_) | ((with_reducible refine gate_dst (N := 153) rfl ?_); (try (refine gate_guard (by rfl) ?_; dsimp only)); refine goesL_ (some 153) rfl rfl Try.func11 (by kernel_rfl) rfl #[.agg #[.int .i64 5, .int .i64 a0_0, .int .i64 a0_1, .int .i64 a1_0, .int .i64 a1_1, .int .i64 0, .int .i64 0], .agg #[.int .i64 a2_0, .int .i64 a2_1]] rfl (by (try simp only [List.map_toArray, List.map_cons, List.map_nil]); first | done | rfl | (simp; done)) ?_; (with_reducible refine (area_In.calls k2 _ _ _ _ _ _ _ _ _ _ _  Hc105.out).mono ?_); rintro e_ w108 ⟨rfl, hb_⟩; refine ⟨_, rfl, ?_⟩; replace HS := Aside0.mk (HS.out.below hb_); replace HK := Aside0.mk (HK.out.trans (Keep.below hb_)); (try clear hz3000047_0_2 hz3000047_1_2); (try clear hz3000055_0_2 hz3000055_1_2 hz3000055_2_2 hz3000055_3_2 hz3000055_4_2 hz3000055_5_2 hz3000055_6_2); refine stop_ ?_; intro G_ hG_))
                            have H := H'.out
                            clear H'
                            by_cases c109 : t534 = true
                            · subst c109
                              rw [if_pos rfl] at H
                              replace H := Option.bind_eq_some_iff.1 H
                              obtain ⟨t535, Hc1100, H⟩ := H
                              try dsimp only at H
                              have Hc110 := Aside0.mk Hc1100
                              clear Hc1100
                              by_cases c111 : t535 = true
                              · subst c111
                                rw [if_pos rfl] at H
                                replace H := Option.bind_eq_some_iff.1 H
                                obtain ⟨t536, Hc1120, H⟩ := H
                                try dsimp only at H
                                have Hc112 := Aside0.mk Hc1120
                                clear Hc1120
                                by_cases c113 : t536 = true
                                · subst c113
                                  rw [if_pos rfl] at H
                                  replace H := Option.bind_eq_some_iff.1 H
                                  obtain ⟨t537, Hc1140, H⟩ := H
                                  try dsimp only at H
                                  have Hc114 := Aside0.mk Hc1140
                                  clear Hc1140
                                  obtain rfl := Option.some.inj H
                                  have hb_ := SL.at_ (SL.get4 HS.out)
                                  have hz3000051_0_0 := ((blk_cell hb_ 0).trans rfl : _ = some (.int .i64 3))
                                  have hz3000051_1_0 := ((blk_cell hb_ 1).trans rfl : _ = some (.int .i64 a0_0))
                                  have hz3000051_2_0 := ((blk_cell hb_ 2).trans rfl : _ = some (.int .i64 a0_1))
                                  have hz3000051_3_0 := ((blk_cell hb_ 3).trans rfl : _ = some (.int .i64 a1_0))
                                  have hz3000051_4_0 := ((blk_cell hb_ 4).trans rfl : _ = some (.int .i64 a1_1))
                                  have hz3000051_5_0 := ((blk_cell hb_ 5).trans rfl : _ = some (.int .i64 0))
                                  have hz3000051_6_0 := ((blk_cell hb_ 6).trans rfl : _ = some (.int .i64 0))
                                  clear hb_
                                  have hb_ := SL.at_ (SL.get8 HS.out)
                                  have hz3000047_0_0 := ((blk_cell hb_ 0).trans rfl : _ = some (.int .i64 a2_0))
                                  have hz3000047_1_0 := ((blk_cell hb_ 1).trans rfl : _ = some (.int .i64 a2_1))
                                  clear hb_
                                  refine hG_.out ?_
                                  go_wp2_with (first | ((with_reducible refine gate_dst (N := 158) rfl ?_); (try (refine gate_guard (by rfl) ?_; dsimp only)); refine goesL_ (some 158) rfl rfl Try.func11 (by kernel_rfl) rfl #[.agg #[.int .i64 3, .int .i64 a0_0, .int .i64 a0_1, .int .i64 a1_0, .int .i64 a1_1, .int .i64 0, .int .i64 0], .agg #[.int .i64 a2_0, .int .i64 a2_1]] rfl (by (try simp only [List.map_toArray, List.map_cons, List.map_nil]); first | done | rfl | (simp; done)) ?_; (with_reducible refine (area_In.calls k2 _ _ _ _ _ _ _ _ _ _ _  Hc110.out).mono ?_); rintro e_ w115 ⟨rfl, hb_⟩; refine ⟨_, rfl, ?_⟩; replace HS := Aside0.mk (HS.out.below hb_); replace HK := Aside0.mk (HK.out.trans (Keep.below hb_)); (try clear hz3000047_0_0 hz3000047_1_0); (try clear hz3000051_0_0 hz3000051_1_0 hz3000051_2_0 hz3000051_3_0 hz3000051_4_0 hz3000051_5_0 hz3000051_6_0); have hb_ := SL.at_ (SL.get4 HS.out); have hz3000051_0_1 := ((blk_cell hb_ 0).trans rfl : _ = some (.int .i64 3)); have hz3000051_1_1 := ((blk_cell hb_ 1).trans rfl : _ = some (.int .i64 a0_0)); have hz3000051_2_1 := ((blk_cell hb_ 2).trans rfl : _ = some (.int .i64 a0_1)); have hz3000051_3_1 := ((blk_cell hb_ 3).trans rfl : _ = some (.int .i64 a1_0)); have hz3000051_4_1 := ((blk_cell hb_ 4).trans rfl : _ = some (.int .i64 a1_1)); have hz3000051_5_1 := ((blk_cell hb_ 5).trans rfl : _ = some (.int .i64 0)); have hz3000051_6_1 := ((blk_cell hb_ 6).trans rfl : _ = some (.int .i64 0)); clear hb_; have hb_ := SL.at_ (SL.get10 HS.out); have hz3000045_0_1 := ((blk_cell hb_ 0).trans rfl : _ = some (.int .i64 a0_0)); have hz3000045_1_1 := ((blk_cell hb_ 1).trans rfl : _ = some (.int .i64 a0_1)); clear hb_) | ((with_reducible refine gate_dst (N := 164) rfl ?_); (try (refine gate_guard (by rfl) ?_; dsimp only)); refine goesL_ (some 164) rfl rfl Try.func11 (by kernel_rfl) rfl #[.agg #[.int .i64 3, .int .i64 a0_0, .int .i64 a0_1, .int .i64 a1_0, .int .i64 a1_1, .int .i64 0, .int .i64 0], .agg #[.int .i64 a0_0, .int .i64 a0_1]] rfl (by (try simp only [List.map_toArray, List.map_cons, List.map_nil]); first | done | rfl | (simp; done)) ?_; (with_reducible refine (area_In.calls k2 _ _ _ _ _ _ _ _ _ _ _  Hc112.out).mono ?_); rintro e_ w116 ⟨rfl, hb_⟩; refine ⟨_, rfl, ?_⟩; replace HS := Aside0.mk (HS.out.below hb_); replace HK := Aside0.mk (HK.out.trans (Keep.below hb_)); (try clear hz3000045_0_1 hz3000045_1_1); (try clear hz3000051_0_1 hz3000051_1_1 hz3000051_2_1 hz3000051_3_1 hz3000051_4_1 hz3000051_5_1 hz3000051_6_1); have hb_ := SL.at_ (SL.get4 HS.out); have hz3000051_0_2 := ((blk_cell hb_ 0).trans rfl : _ = some (.int .i64 3)); have hz3000051_1_2 := ((blk_cell hb_ 1).trans rfl : _ = some (.int .i64 a0_0)); have hz3000051_2_2 := ((blk_cell hb_ 2).trans rfl : _ = some (.int .i64 a0_1)); have hz3000051_3_2 := ((blk_cell hb_ 3).trans rfl : _ = some (.int .i64 a1_0)); have hz3000051_4_2 := ((blk_cell hb_ 4).trans rfl : _ = some (.int .i64 a1_1)); have hz3000051_5_2 := ((blk_cell hb_ 5).trans rfl : _ = some (.int .i64 0)); have hz3000051_6_2 := ((blk_cell hb_ 6).trans rfl : _ = some (.int .i64 0)); clear hb_; have hb_ := SL.at_ (SL.get9 HS.out); have hz3000046_0_2 := ((blk_cell hb_ 0).trans rfl : _ = some (.int .i64 a1_0)); have hz3000046_1_2 := ((blk_cell hb_ 1).trans rfl : _ = some (.int .i64 a1_1)); clear hb_) | ((with_reducible refine gate_dst (N := 169) rfl ?_); (try (refine gate_guard (by rfl) ?_; dsimp only)); refine goesL_ (some 169) rfl rfl Try.func11 (by kernel_rfl) rfl #[.agg #[.int .i64 3, .int .i64 a0_0, .int .i64 a0_1, .int .i64 a1_0, .int .i64 a1_1, .int .i64 0, .int .i64 0], .agg #[.int .i64 a1_0, .int .i64 a1_1]] rfl (by (try simp only [List.map_toArray, List.map_cons, List.map_nil]); first | done | rfl | (simp; done)) ?_; (with_reducible refine (area_In.calls k2 _ _ _ _ _ _ _ _ _ _ _  Hc114.out).mono ?_); rintro e_ w117 ⟨rfl, hb_⟩; refine ⟨_, rfl, ?_⟩; replace HS := Aside0.mk (HS.out.below hb_); replace HK := Aside0.mk (HK.out.trans (Keep.below hb_)); (try clear hz3000046_0_2 hz3000046_1_2); (try clear hz3000051_0_2 hz3000051_1_2 hz3000051_2_2 hz3000051_3_2 hz3000051_4_2 hz3000051_5_2 hz3000051_6_2)))
                                  go_ret
                                  replace HS := Aside0.mk (SL.tail (SL.tail (SL.tail (SL.tail (SL.tail (SL.tail (SL.tail (SL.tail (SL.tail (SL.tail (SL.tail HS.out)))))))))))
                                  unfold barrowlaw32_AreaShapes.Post
                                  exact ⟨by first | rfl | (simp; done) | (simp [*]; done) | (simp at c36b0 ⊢; first | exact c36b0 | (simp [c36b0]; done)), HS.out, HK.out⟩
                                · replace c113 := Bool.eq_false_iff.mpr c113
                                  subst c113
                                  rw [if_neg (show ¬ (false = true) by decide)] at H
                                  exact absurd H (by simp)
                              · replace c111 := Bool.eq_false_iff.mpr c111
                                subst c111
                                rw [if_neg (show ¬ (false = true) by decide)] at H
                                exact absurd H (by simp)
                            · replace c109 := Bool.eq_false_iff.mpr c109
                              subst c109
                              rw [if_neg (show ¬ (false = true) by decide)] at H
                              replace H := Option.bind_eq_some_iff.1 H
                              obtain ⟨t538, Hc1180, H⟩ := H
                              try dsimp only at H
                              have Hc118 := Aside0.mk Hc1180
                              clear Hc1180
                              by_cases c119 : t538 = true
                              · subst c119
                                rw [if_pos rfl] at H
                                replace H := Option.bind_eq_some_iff.1 H
                                obtain ⟨t539, Hc1200, H⟩ := H
                                try dsimp only at H
                                have Hc120 := Aside0.mk Hc1200
                                clear Hc1200
                                obtain rfl := Option.some.inj H
                                have hb_ := SL.at_ (SL.get4 HS.out)
                                have hz3000051_0_0 := ((blk_cell hb_ 0).trans rfl : _ = some (.int .i64 3))
                                have hz3000051_1_0 := ((blk_cell hb_ 1).trans rfl : _ = some (.int .i64 a0_0))
                                have hz3000051_2_0 := ((blk_cell hb_ 2).trans rfl : _ = some (.int .i64 a0_1))
                                have hz3000051_3_0 := ((blk_cell hb_ 3).trans rfl : _ = some (.int .i64 a1_0))
                                have hz3000051_4_0 := ((blk_cell hb_ 4).trans rfl : _ = some (.int .i64 a1_1))
                                have hz3000051_5_0 := ((blk_cell hb_ 5).trans rfl : _ = some (.int .i64 0))
                                have hz3000051_6_0 := ((blk_cell hb_ 6).trans rfl : _ = some (.int .i64 0))
                                clear hb_
                                have hb_ := SL.at_ (SL.get10 HS.out)
                                have hz3000045_0_0 := ((blk_cell hb_ 0).trans rfl : _ = some (.int .i64 a0_0))
                                have hz3000045_1_0 := ((blk_cell hb_ 1).trans rfl : _ = some (.int .i64 a0_1))
                                clear hb_
                                refine hG_.out ?_
                                go_wp2_with (first | ((with_reducible refine gate_dst (N := 164) rfl ?_); (try (refine gate_guard (by rfl) ?_; dsimp only)); refine goesL_ (some 164) rfl rfl Try.func11 (by kernel_rfl) rfl #[.agg #[.int .i64 3, .int .i64 a0_0, .int .i64 a0_1, .int .i64 a1_0, .int .i64 a1_1, .int .i64 0, .int .i64 0], .agg #[.int .i64 a0_0, .int .i64 a0_1]] rfl (by (try simp only [List.map_toArray, List.map_cons, List.map_nil]); first | done | rfl | (simp; done)) ?_; (with_reducible refine (area_In.calls k2 _ _ _ _ _ _ _ _ _ _ _  Hc118.out).mono ?_); rintro e_ w121 ⟨rfl, hb_⟩; refine ⟨_, rfl, ?_⟩; replace HS := Aside0.mk (HS.out.below hb_); replace HK := Aside0.mk (HK.out.trans (Keep.below hb_)); (try clear hz3000045_0_0 hz3000045_1_0); (try clear hz3000051_0_0 hz3000051_1_0 hz3000051_2_0 hz3000051_3_0 hz3000051_4_0 hz3000051_5_0 hz3000051_6_0); have hb_ := SL.at_ (SL.get4 HS.out); have hz3000051_0_1 := ((blk_cell hb_ 0).trans rfl : _ = some (.int .i64 3)); have hz3000051_1_1 := ((blk_cell hb_ 1).trans rfl : _ = some (.int .i64 a0_0)); have hz3000051_2_1 := ((blk_cell hb_ 2).trans rfl : _ = some (.int .i64 a0_1)); have hz3000051_3_1 := ((blk_cell hb_ 3).trans rfl : _ = some (.int .i64 a1_0)); have hz3000051_4_1 := ((blk_cell hb_ 4).trans rfl : _ = some (.int .i64 a1_1)); have hz3000051_5_1 := ((blk_cell hb_ 5).trans rfl : _ = some (.int .i64 0)); have hz3000051_6_1 := ((blk_cell hb_ 6).trans rfl : _ = some (.int .i64 0)); clear hb_; have hb_ := SL.at_ (SL.get9 HS.out); have hz3000046_0_1 := ((blk_cell hb_ 0).trans rfl : _ = some (.int .i64 a1_0)); have hz3000046_1_1 := ((blk_cell hb_ 1).trans rfl : _ = some (.int .i64 a1_1)); clear hb_) | ((with_reducible refine gate_dst (N := 169) rfl ?_); (try (refine gate_guard (by rfl) ?_; dsimp only)); refine goesL_ (some 169) rfl rfl Try.func11 (by kernel_rfl) rfl #[.agg #[.int .i64 3, .int .i64 a0_0, .int .i64 a0_1, .int .i64 a1_0, .int .i64 a1_1, .int .i64 0, .int .i64 0], .agg #[.int .i64 a1_0, .int .i64 a1_1]] rfl (by (try simp only [List.map_toArray, List.map_cons, List.map_nil]); first | done | rfl | (simp; done)) ?_; (with_reducible refine (area_In.calls k2 _ _ _ _ _ _ _ _ _ _ _  Hc120.out).mono ?_); rintro e_ w122 ⟨rfl, hb_⟩; refine ⟨_, rfl, ?_⟩; replace HS := Aside0.mk (HS.out.below hb_); replace HK := Aside0.mk (HK.out.trans (Keep.below hb_)); (try clear hz3000046_0_1 hz3000046_1_1); (try clear hz3000051_0_1 hz3000051_1_1 hz3000051_2_1 hz3000051_3_1 hz3000051_4_1 hz3000051_5_1 hz3000051_6_1)))
                                go_ret
                                replace HS := Aside0.mk (SL.tail (SL.tail (SL.tail (SL.tail (SL.tail (SL.tail (SL.tail (SL.tail (SL.tail (SL.tail (SL.tail HS.out)))))))))))
                                unfold barrowlaw32_AreaShapes.Post
                                exact ⟨by first | rfl | (simp; done) | (simp [*]; done) | (simp at c36b0 ⊢; first | exact c36b0 | (simp [c36b0]; done)), HS.out, HK.out⟩
                              · replace c119 := Bool.eq_false_iff.mpr c119
                                subst c119
                                rw [if_neg (show ¬ (false = true) by decide)] at H
                                exact absurd H (by simp)
                          · replace c104 := Bool.eq_false_iff.mpr c104
                            subst c104
                            rw [if_neg (show ¬ (false = true) by decide)] at H
                            exact absurd H (by simp)
                        · replace c102 := Bool.eq_false_iff.mpr c102
                          subst c102
                          rw [if_neg (show ¬ (false = true) by decide)] at H
                          exact absurd H (by simp)
                      · replace c100 := Bool.eq_false_iff.mpr c100
                        subst c100
                        rw [if_neg (show ¬ (false = true) by decide)] at H
                        exact absurd H (by simp)
      · replace c35 := Bool.eq_false_iff.mpr c35
        subst c35
        rw [if_neg (show ¬ (false = true) by decide)] at H
        obtain rfl := Option.some.inj H
        have hb_ := SL.at_ (SL.get4 HS.out)
        have hz3000051_0_0 := ((blk_cell hb_ 0).trans rfl : _ = some (.int .i64 3))
        have hz3000051_1_0 := ((blk_cell hb_ 1).trans rfl : _ = some (.int .i64 a0_0))
        have hz3000051_2_0 := ((blk_cell hb_ 2).trans rfl : _ = some (.int .i64 a0_1))
        have hz3000051_3_0 := ((blk_cell hb_ 3).trans rfl : _ = some (.int .i64 a1_0))
        have hz3000051_4_0 := ((blk_cell hb_ 4).trans rfl : _ = some (.int .i64 a1_1))
        have hz3000051_5_0 := ((blk_cell hb_ 5).trans rfl : _ = some (.int .i64 0))
        have hz3000051_6_0 := ((blk_cell hb_ 6).trans rfl : _ = some (.int .i64 0))
        clear hb_
        refine hG_.out ?_
        go_wp2_with (first | ((with_reducible refine gate_dst (N := 65) rfl ?_); (try (refine gate_guard (by rfl) ?_; dsimp only)); refine goesL_ (some 65) rfl rfl Try.func9 (by kernel_rfl) rfl #[.agg #[.int .i64 3, .int .i64 a0_0, .int .i64 a0_1, .int .i64 a1_0, .int .i64 a1_1, .int .i64 0, .int .i64 0]] rfl (by (try simp only [List.map_toArray, List.map_cons, List.map_nil]); first | done | rfl | (simp; done)) ?_; (with_reducible refine (area_Right.calls _ _ _ _ _ _ _ _ _  Hc32.out).mono ?_); rintro e_ w123 ⟨rfl, hb_⟩; refine ⟨_, rfl, ?_⟩; replace HS := Aside0.mk (HS.out.below hb_); replace HK := Aside0.mk (HK.out.trans (Keep.below hb_)); (try clear hz3000051_0_0 hz3000051_1_0 hz3000051_2_0 hz3000051_3_0 hz3000051_4_0 hz3000051_5_0 hz3000051_6_0); have hb_ := SL.at_ (SL.get1 HS.out); have hz3000054_0_1 := ((blk_cell hb_ 0).trans rfl : _ = some (.int .i64 4)); have hz3000054_1_1 := ((blk_cell hb_ 1).trans rfl : _ = some (.int .i64 a0_0)); have hz3000054_2_1 := ((blk_cell hb_ 2).trans rfl : _ = some (.int .i64 a0_1)); have hz3000054_3_1 := ((blk_cell hb_ 3).trans rfl : _ = some (.int .i64 t502)); have hz3000054_4_1 := ((blk_cell hb_ 4).trans rfl : _ = some (.int .i64 t503)); have hz3000054_5_1 := ((blk_cell hb_ 5).trans rfl : _ = some (.int .i64 a4)); have hz3000054_6_1 := ((blk_cell hb_ 6).trans rfl : _ = some (.int .i64 0)); clear hb_) | ((with_reducible refine gate_dst (N := 70) rfl ?_); (try (refine gate_guard (by rfl) ?_; dsimp only)); refine goesL_ (some 70) rfl rfl Try.func9 (by kernel_rfl) rfl #[.agg #[.int .i64 4, .int .i64 a0_0, .int .i64 a0_1, .int .i64 t502, .int .i64 t503, .int .i64 a4, .int .i64 0]] rfl (by (try simp only [List.map_toArray, List.map_cons, List.map_nil]); first | done | rfl | (simp; done)) ?_; (with_reducible refine (area_Right.calls _ _ _ _ _ _ _ _ _  Hc34.out).mono ?_); rintro e_ w124 ⟨rfl, hb_⟩; refine ⟨_, rfl, ?_⟩; replace HS := Aside0.mk (HS.out.below hb_); replace HK := Aside0.mk (HK.out.trans (Keep.below hb_)); (try clear hz3000054_0_1 hz3000054_1_1 hz3000054_2_1 hz3000054_3_1 hz3000054_4_1 hz3000054_5_1 hz3000054_6_1)))
        go_ret
        replace HS := Aside0.mk (SL.tail (SL.tail (SL.tail (SL.tail (SL.tail (SL.tail (SL.tail (SL.tail (SL.tail (SL.tail (SL.tail HS.out)))))))))))
        unfold barrowlaw32_AreaShapes.Post
        exact ⟨by first | rfl | (simp; done) | (simp [*]; done), HS.out, HK.out⟩
    · replace c33 := Bool.eq_false_iff.mpr c33
      subst c33
      rw [if_neg (show ¬ (false = true) by decide)] at H
      obtain rfl := Option.some.inj H
      have hb_ := SL.at_ (SL.get4 HS.out)
      have hz3000051_0_0 := ((blk_cell hb_ 0).trans rfl : _ = some (.int .i64 3))
      have hz3000051_1_0 := ((blk_cell hb_ 1).trans rfl : _ = some (.int .i64 a0_0))
      have hz3000051_2_0 := ((blk_cell hb_ 2).trans rfl : _ = some (.int .i64 a0_1))
      have hz3000051_3_0 := ((blk_cell hb_ 3).trans rfl : _ = some (.int .i64 a1_0))
      have hz3000051_4_0 := ((blk_cell hb_ 4).trans rfl : _ = some (.int .i64 a1_1))
      have hz3000051_5_0 := ((blk_cell hb_ 5).trans rfl : _ = some (.int .i64 0))
      have hz3000051_6_0 := ((blk_cell hb_ 6).trans rfl : _ = some (.int .i64 0))
      clear hb_
      refine hG_.out ?_
      go_wp2_with (first | ((with_reducible refine gate_dst (N := 65) rfl ?_); (try (refine gate_guard (by rfl) ?_; dsimp only)); refine goesL_ (some 65) rfl rfl Try.func9 (by kernel_rfl) rfl #[.agg #[.int .i64 3, .int .i64 a0_0, .int .i64 a0_1, .int .i64 a1_0, .int .i64 a1_1, .int .i64 0, .int .i64 0]] rfl (by (try simp only [List.map_toArray, List.map_cons, List.map_nil]); first | done | rfl | (simp; done)) ?_; (with_reducible refine (area_Right.calls _ _ _ _ _ _ _ _ _  Hc32.out).mono ?_); rintro e_ w125 ⟨rfl, hb_⟩; refine ⟨_, rfl, ?_⟩; replace HS := Aside0.mk (HS.out.below hb_); replace HK := Aside0.mk (HK.out.trans (Keep.below hb_)); (try clear hz3000051_0_0 hz3000051_1_0 hz3000051_2_0 hz3000051_3_0 hz3000051_4_0 hz3000051_5_0 hz3000051_6_0)))
      go_ret
      replace HS := Aside0.mk (SL.tail (SL.tail (SL.tail (SL.tail (SL.tail (SL.tail (SL.tail (SL.tail (SL.tail (SL.tail (SL.tail HS.out)))))))))))
      unfold barrowlaw32_AreaShapes.Post
      exact ⟨by first | rfl | (simp; done) | (simp [*]; done), HS.out, HK.out⟩
  · replace c31 := Bool.eq_false_iff.mpr c31
    subst c31
    rw [if_neg (show ¬ (false = true) by decide)] at H
    obtain rfl := Option.some.inj H
    refine hG_.out ?_
    go_wp2
    go_ret
    replace HS := Aside0.mk (SL.tail (SL.tail (SL.tail (SL.tail (SL.tail (SL.tail (SL.tail (SL.tail (SL.tail (SL.tail (SL.tail HS.out)))))))))))
    unfold barrowlaw32_AreaShapes.Post
    exact ⟨by first | rfl | (simp; done) | (simp [*]; done), HS.out, HK.out⟩
theorem barrowlaw32_AreaShapes.calls (k : Nat) (a0_0 : Int) (a0_1 : Int) (a1_0 : Int) (a1_1 : Int) (a2_0 : Int) (a2_1 : Int) (a3 : Int) (a4 : Int) (r : Bool) (w : World) (h : barrowlaw32_AreaShapes.f k a0_0 a0_1 a1_0 a1_1 a2_0 a2_1 a3 a4 = some r) :
    Calls Try.prog 5 #[.agg #[.int .i64 a0_0, .int .i64 a0_1], .agg #[.int .i64 a1_0, .int .i64 a1_1], .agg #[.int .i64 a2_0, .int .i64 a2_1], .int .i64 a3, .int .i64 a4] w fun e w' => e = .returned (.bool r) ∧ Below w.heap.size w w' :=
  (barrowlaw32_AreaShapes.slcalls k a0_0 a0_1 a1_0 a1_1 a2_0 a2_1 a3 a4 r (news w) [] w (fresh_news w) trivial h).mono fun _ _ h => ⟨h.1, h.2.2.to_below⟩

/-- THE ONE PURE STATEMENT of barrowlaw32_AreaShapes. -/
noncomputable def barrowlaw32_AreaShapes.Pure : Prop := ∀ (a0_0 : Int) (a0_1 : Int) (a1_0 : Int) (a1_1 : Int) (a2_0 : Int) (a2_1 : Int) (a3 : Int) (a4 : Int), ((Lit.int .i64 a0_0).wf = true) → ((Lit.int .i64 a0_1).wf = true) → ((Lit.int .i64 a1_0).wf = true) → ((Lit.int .i64 a1_1).wf = true) → ((Lit.int .i64 a2_0).wf = true) → ((Lit.int .i64 a2_1).wf = true) → ((Lit.int .i64 a3).wf = true) → ((Lit.int .i64 a4).wf = true) → ∃ k, barrowlaw32_AreaShapes.f k a0_0 a0_1 a1_0 a1_1 a2_0 a2_1 a3 a4 = some true

end Go.Proofs.Ytofodbnnminmkaa.XAS
