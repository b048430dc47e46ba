-- Written by xprint.py (a program of this session) for this claim
import Derived.Test.YtljmecjciifceaaXSGx0
import Derived.Test.YtljmecjciifceaaXSGx1
import Derived.Test.YtljmecjciifceaaXSGx6
import Derived.Test.YtljmecjciifceaaXSGx7
import Derived.Test.YtljmecjciifceaaXSGx8
import Derived.Test.YtljmecjciifceaaXSGx10
import Derived.Test.YtljmecjciifceaaXSGx12
import Derived.Test.YtljmecjciifceaaXSGx13
import Derived.Test.YtljmecjciifceaaXSGx20
import Derived.Test.YtljmecjciifceaaXSGx21
namespace Go.Proofs.Ytljmecjciifceaa.XSG
open Go.Proofs.YtljmecjciifceaaV Go.Proofs.YtljmecjciifceaaS
open Go.RowKit Go.Proofs.YtljmecjciifceaaW.PrintWords Go.Proofs.YtljmecjciifceaaW.PrintLast Go.Proofs.YtljmecjciifceaaW.PrintMore
attribute [local go_sem] max2_int min2_int max_two min_two max_three min_three max_four min_four   -- for this text's walks alone
set_option linter.unusedVariables false
set_option linter.unusedSimpArgs false

attribute [local go_sem high] eqA26
/-! ### barrowlaw07_SightLines: function 3 -/
def barrowlaw07_SightLines.f (k : Nat) (a0_0 : Int) (a0_1 : Int) (l0_2 : List Bool) (a1_0 : Int) (a1_1 : Int) (a2_0 : Int) (a2_1 : Int) : Option (Bool) := (barrowlaw07_small.f k).bind fun t543 => ((barrowlaw06_Few.f a0_0 a0_1 l0_2).bind fun t544 => (if t544 = true then ((sight_First.f k a0_0 a0_1 l0_2 a1_0 a1_1 a2_0 a2_1).bind fun bt545 => ((barrowref07_First.f k a0_0 a0_1 l0_2 a1_0 a1_1 a2_0 a2_1).bind fun bt548 => (if t543 = true then ((sight_Line.f k a0_0 a0_1 l0_2 a1_0 a1_1 a2_0 a2_1).bind fun t551 => ((barrowref07_Line.f k a0_0 a0_1 l0_2 a1_0 a1_1 a2_0 a2_1).bind fun t552 => ((barrowref06_Same.f k t551 t552).bind fun t553 => (if t553 = true then ((sight_Sees.f k a0_0 a0_1 l0_2 a1_0 a1_1 a2_0 a2_1).bind fun t554 => ((barrowref07_Sees.f k a0_0 a0_1 l0_2 a1_0 a1_1 a2_0 a2_1).bind fun t555 => (if (t554 == t555) = true then (if (bt545.1 == bt548.1 && (bt545.2.1 == bt548.2.1)) = true then (some (bt545.2.2 == bt548.2.2)) else (none)) else (none)))) else (none))))) else (none)))) else (some t543)))
theorem barrowlaw07_SightLines.mono : ∀ a0 a1 a2 a3 a4 a5 a6 k, LeO (barrowlaw07_SightLines.f k a0 a1 a2 a3 a4 a5 a6) (barrowlaw07_SightLines.f (k + 1) a0 a1 a2 a3 a4 a5 a6) := by
  intro a0 a1 a2 a3 a4 a5 a6 k
  unfold barrowlaw07_SightLines.f
  repeat' first
      | (with_reducible exact barrowlaw07_small.mono _)
      | (with_reducible exact barrowref06_Same.mono _ _ _)
      | (with_reducible exact barrowref07_First.mono _ _ _ _ _ _ _ _)
      | (with_reducible exact barrowref07_Line.mono _ _ _ _ _ _ _ _)
      | (with_reducible exact barrowref07_Sees.mono _ _ _ _ _ _ _ _)
      | (with_reducible exact sight_First.mono _ _ _ _ _ _ _ _)
      | (with_reducible exact sight_Line.mono _ _ _ _ _ _ _ _)
      | (with_reducible exact sight_Sees.mono _ _ _ _ _ _ _ _)
      | (with_reducible exact LeO.refl _)
      | (with_reducible exact LeO.none _)
      | (with_reducible refine LeO.ite ?_ ?_)
      | (with_reducible refine LeO.bind ?_ (fun _ => ?_))
      | exact barrowlaw07_small.mono _
      | exact barrowref06_Same.mono _ _ _
      | exact barrowref07_First.mono _ _ _ _ _ _ _ _
      | exact barrowref07_Line.mono _ _ _ _ _ _ _ _
      | exact barrowref07_Sees.mono _ _ _ _ _ _ _ _
      | exact sight_First.mono _ _ _ _ _ _ _ _
      | exact sight_Line.mono _ _ _ _ _ _ _ _
      | exact sight_Sees.mono _ _ _ _ _ _ _ _
      | exact LeO.none _
      | refine LeO.ite ?_ ?_
      | refine LeO.bind ?_ (fun _ => ?_)
def barrowlaw07_SightLines.T7 : Bool × List (List Nat × List Nat) := (true, [([], []), ([0], [0]), ([1], [1]), ([1], [1]), ([1], [1]), ([2, 3, 4, 1, 1], [1, 2, 3, 4]), ([1], [1]), ([1], [1]), ([1], [1]), ([6, 7, 8, 5, 1], [1, 6, 7, 8]), ([5, 9, 9, 1], [1, 5, 9]), ([1, 10], [1, 10]), ([11, 10], [11]), ([12], [12]), ([12], [12]), ([12], [12]), ([13, 14, 15, 12, 12], [12, 13, 14, 15]), ([12], [12]), ([12], [12]), ([12], [12]), ([17, 18, 19, 16, 12], [12, 17, 18, 19]), ([16, 20, 12], [12, 16, 20]), ([12, 21], [12, 21]), ([22, 20], [22]), ([23], [23]), ([23], [23]), ([24, 25, 23], [23, 24, 25]), ([23, 26], [23, 26]), ([27, 23], [27]), ([28], [28]), ([28], [28]), ([29, 30, 28], [28, 29, 30]), ([28, 31], [28, 31]), ([32, 28, 0, 1, 2, 3, 4, 5, 6, 7, 8, 9, 10, 11, 12, 13, 14, 15, 16, 17, 18, 19, 20, 21, 22, 23, 24, 25, 26, 27, 28, 29, 30, 31, 32], [32])])
def barrowlaw07_SightLines.B7 : List Nat := [0, 1, 3, 3, 3, 31, 3, 3, 3, 511, 1023, 2047, 4095, 8191, 8191, 8191, 65535, 8191, 8191, 8191, 1048575, 2097151, 4194303, 8388607, 16777215, 16777215, 67108863, 134217727, 268435455, 536870911, 536870911, 2147483647, 4294967295, 8589934591]
theorem barrowlaw07_SightLines.tab7 : rtab .any (opsOf Try.f3 7) = barrowlaw07_SightLines.T7 := by kernel_rfl
theorem barrowlaw07_SightLines.bits7 : waitsOk barrowlaw07_SightLines.T7.2 barrowlaw07_SightLines.B7 = true := by kernel_rfl
def barrowlaw07_SightLines.Post (r : Bool) (S : Nat → Prop) (L : List Asr) (w : World) (e : Ending) (w' : World) : Prop := e = .returned (.bool r) ∧ SL (L) w' S ∧ Keep S w w'
set_option maxHeartbeats 8000000 in
set_option maxRecDepth 100000 in
theorem barrowlaw07_SightLines.slcalls (k : Nat) (a0_0 : Int) (a0_1 : Int) (A0_2 : Option Addr) (c0_2 : Nat) (l0_2 : List Bool) (a1_0 : Int) (a1_1 : Int) (a2_0 : Int) (a2_1 : Int) (r : Bool) (S : Nat → Prop) (L : List Asr) (w : World) (hf : Fresh S w) (hs : SL (L) w S) (hr0_2 : RO S w (fun w_ => Kd.C Kd.bool w_ A0_2 l0_2.length l0_2)) (hc0_2 : l0_2.length ≤ c0_2) (h : barrowlaw07_SightLines.f k a0_0 a0_1 l0_2 a1_0 a1_1 a2_0 a2_1 = some r) :
    Calls Try.prog 3 #[.agg #[.int .i64 a0_0, .int .i64 a0_1, .slice A0_2 l0_2.length c0_2], .agg #[.int .i64 a1_0, .int .i64 a1_1], .agg #[.int .i64 a2_0, .int .i64 a2_1]] w (barrowlaw07_SightLines.Post r S L w) := by
  have HR0_2 := Aside0.mk hr0_2
  have HC0_2 := Aside0.mk hc0_2
  clear hr0_2 hc0_2
  have HF := Aside0.mk hf
  have HS := Aside0.mk hs
  have HK := Aside0.mk (Keep.refl S w)
  clear hf hs
  have hu24 := Try.underlying24
  have hu26 := Try.underlying26
  have H : ((barrowlaw07_small.f k).bind fun t543 => ((barrowlaw06_Few.f a0_0 a0_1 l0_2).bind fun t544 => (if t544 = true then ((sight_First.f k a0_0 a0_1 l0_2 a1_0 a1_1 a2_0 a2_1).bind fun bt545 => ((barrowref07_First.f k a0_0 a0_1 l0_2 a1_0 a1_1 a2_0 a2_1).bind fun bt548 => (if t543 = true then ((sight_Line.f k a0_0 a0_1 l0_2 a1_0 a1_1 a2_0 a2_1).bind fun t551 => ((barrowref07_Line.f k a0_0 a0_1 l0_2 a1_0 a1_1 a2_0 a2_1).bind fun t552 => ((barrowref06_Same.f k t551 t552).bind fun t553 => (if t553 = true then ((sight_Sees.f k a0_0 a0_1 l0_2 a1_0 a1_1 a2_0 a2_1).bind fun t554 => ((barrowref07_Sees.f k a0_0 a0_1 l0_2 a1_0 a1_1 a2_0 a2_1).bind fun t555 => (if (t554 == t555) = true then (if (bt545.1 == bt548.1 && (bt545.2.1 == bt548.2.1)) = true then (some (bt545.2.2 == bt548.2.2)) else (none)) else (none)))) else (none))))) else (none)))) else (some t543)))) = some r := h
  clear h
  replace H := Option.bind_eq_some_iff.1 H
  obtain ⟨t543, Hc10, H⟩ := H
  try dsimp only at H
  have Hc1 := Aside0.mk Hc10
  clear Hc10
  replace H := Option.bind_eq_some_iff.1 H
  obtain ⟨t544, Hc20, H⟩ := H
  try dsimp only at H
  have Hc2 := Aside0.mk Hc20
  clear Hc20
  have H' := Aside0.mk H
  clear H
  go_enter Try.func3, Try.ntmps3
  go_wp2_with (first | ((with_reducible refine gate_dst (N := 3) rfl ?_); refine wpList_plain rfl (fun K_ hK_ => ?_); refine op_box (S := S) (cs := #[.int .i64 a0_0, .int .i64 a0_1, .slice A0_2 l0_2.length c0_2]) (t := 24) (HF.out.keep HK.out) HS.out (by first | (go_simp; done) | (go_simp; rfl)) ?_; intro g3000077 w3 hs_ hk_; refine hK_ _ _ ?_; clear hK_ K_; replace HS := Aside0.mk (hs_); replace HK := Aside0.mk (HK.out.trans hk_)) | ((with_reducible refine gate_dst (N := 4) rfl ?_); refine wpList_plain rfl (fun K_ hK_ => ?_); refine op_box (S := S) (cs := #[.int .i64 a1_0, .int .i64 a1_1]) (t := 26) (HF.out.keep HK.out) HS.out (by first | (go_simp; done) | (go_simp; rfl)) ?_; intro g3000078 w4 hs_ hk_; refine hK_ _ _ ?_; clear hK_ K_; replace HS := Aside0.mk (hs_); replace HK := Aside0.mk (HK.out.trans hk_)) | ((with_reducible refine gate_dst (N := 5) rfl ?_); refine wpList_plain rfl (fun K_ hK_ => ?_); refine op_box (S := S) (cs := #[.int .i64 a2_0, .int .i64 a2_1]) (t := 26) (HF.out.keep HK.out) HS.out (by first | (go_simp; done) | (go_simp; rfl)) ?_; intro g3000079 w5 hs_ hk_; refine hK_ _ _ ?_; clear hK_ K_; replace HS := Aside0.mk (hs_); replace HK := Aside0.mk (HK.out.trans hk_)) | ((with_reducible refine gate_dst (N := 13) rfl ?_); refine goesL_ (some 13) rfl rfl Try.func7 (by kernel_rfl) rfl #[] rfl (by (try simp only [List.map_toArray, List.map_cons, List.map_nil]); first | done | rfl | (simp; done)) ?_; (with_reducible refine (barrowlaw07_small.calls k _ _  Hc1.out).mono ?_); rintro e_ w6 ⟨rfl, hb_⟩; refine ⟨_, rfl, ?_⟩; replace HS := Aside0.mk (HS.out.below hb_); replace HK := Aside0.mk (HK.out.trans (Keep.below hb_)); have hb_ := SL.at_ (SL.get2 HS.out); have hz3000077_0_4 := ((blk_cell hb_ 0).trans rfl : _ = some (.int .i64 a0_0)); have hz3000077_1_4 := ((blk_cell hb_ 1).trans rfl : _ = some (.int .i64 a0_1)); have hz3000077_2_4 := ((blk_cell hb_ 2).trans rfl : _ = some (.slice A0_2 l0_2.length c0_2)); clear hb_) | ((with_reducible refine gate_dst (N := 15) rfl ?_); refine goesL_ (some 15) rfl rfl Try.func8 (by kernel_rfl) rfl #[.agg #[.int .i64 a0_0, .int .i64 a0_1, .slice A0_2 l0_2.length c0_2]] rfl (by (try simp only [List.map_toArray, List.map_cons, List.map_nil]); first | done | rfl | (simp; done)) ?_; (with_reducible refine (barrowlaw06_Few.calls _ _ _ _ _ _ _ (RO.at_ HR0_2.out HK.out) HC0_2.out Hc2.out).mono ?_); rintro e_ w7 ⟨rfl, hb_⟩; refine ⟨_, rfl, ?_⟩; replace HS := Aside0.mk (HS.out.below hb_); replace HK := Aside0.mk (HK.out.trans (Keep.below hb_)); (try clear hz3000077_0_4 hz3000077_1_4 hz3000077_2_4); refine stop_ ?_; intro G_ hG_))
  have H := H'.out
  clear H'
  by_cases c8 : t544 = true
  · subst c8
    rw [if_pos rfl] at H
    replace H := Option.bind_eq_some_iff.1 H
    obtain ⟨⟨t545, t546, t547⟩, Hc90, H⟩ := H
    try dsimp only at H
    have Hc9 := Aside0.mk Hc90
    clear Hc90
    replace H := Option.bind_eq_some_iff.1 H
    obtain ⟨⟨t548, t549, t550⟩, Hc100, H⟩ := H
    try dsimp only at H
    have Hc10 := Aside0.mk Hc100
    clear Hc100
    by_cases c11 : t543 = true
    · subst c11
      rw [if_pos rfl] at H
      replace H := Option.bind_eq_some_iff.1 H
      obtain ⟨t551, Hc120, H⟩ := H
      try dsimp only at H
      have Hc12 := Aside0.mk Hc120
      clear Hc120
      replace H := Option.bind_eq_some_iff.1 H
      obtain ⟨t552, Hc130, H⟩ := H
      try dsimp only at H
      have Hc13 := Aside0.mk Hc130
      clear Hc130
      replace H := Option.bind_eq_some_iff.1 H
      obtain ⟨t553, Hc140, H⟩ := H
      try dsimp only at H
      have Hc14 := Aside0.mk Hc140
      clear Hc140
      by_cases c15 : t553 = true
      · subst c15
        rw [if_pos rfl] at H
        replace H := Option.bind_eq_some_iff.1 H
        obtain ⟨t554, Hc160, H⟩ := H
        try dsimp only at H
        have Hc16 := Aside0.mk Hc160
        clear Hc160
        replace H := Option.bind_eq_some_iff.1 H
        obtain ⟨t555, Hc170, H⟩ := H
        try dsimp only at H
        have Hc17 := Aside0.mk Hc170
        clear Hc170
        by_cases c18 : (t554 == t555) = true
        · rw [if_pos c18] at H
          have c18b0 : (t554 == t555) = true := c18
          (try (have c18b1 : decide (t554 = t555) = true := by simpa using c18))
          (try (have c18b2 : (t554 == t555) = true := by simpa using c18))
          clear c18
          by_cases c19 : (t545 == t548 && (t546 == t549)) = true
          · rw [if_pos c19] at H
            have c19b0 : (t545 == t548 && (t546 == t549)) = true := c19
            (try (have c19b1 : decide (t545 = t548 && (t546 == t549)) = true := by simpa using c19))
            (try (have c19b2 : (t545 == t548 && (t546 == t549)) = true := by simpa using c19))
            clear c19
            obtain rfl := Option.some.inj H
            have hb_ := SL.at_ HS.out
            have hz3000079_0_0 := ((blk_cell hb_ 0).trans rfl : _ = some (.int .i64 a2_0))
            have hz3000079_1_0 := ((blk_cell hb_ 1).trans rfl : _ = some (.int .i64 a2_1))
            clear hb_
            have hb_ := SL.at_ (SL.get1 HS.out)
            have hz3000078_0_0 := ((blk_cell hb_ 0).trans rfl : _ = some (.int .i64 a1_0))
            have hz3000078_1_0 := ((blk_cell hb_ 1).trans rfl : _ = some (.int .i64 a1_1))
            clear hb_
            have hb_ := SL.at_ (SL.get2 HS.out)
            have hz3000077_0_0 := ((blk_cell hb_ 0).trans rfl : _ = some (.int .i64 a0_0))
            have hz3000077_1_0 := ((blk_cell hb_ 1).trans rfl : _ = some (.int .i64 a0_1))
            have hz3000077_2_0 := ((blk_cell hb_ 2).trans rfl : _ = some (.slice A0_2 l0_2.length c0_2))
            clear hb_
            refine hG_.out ?_
            try simp only [c18b0, c19b0]
            try go_wp2_with (first | ((with_reducible refine gate_dst (N := 23) rfl ?_); refine goesL_ (some 23) rfl rfl Try.func9 (by kernel_rfl) rfl #[.agg #[.int .i64 a0_0, .int .i64 a0_1, .slice A0_2 l0_2.length c0_2], .agg #[.int .i64 a1_0, .int .i64 a1_1], .agg #[.int .i64 a2_0, .int .i64 a2_1]] rfl (by (try simp only [List.map_toArray, List.map_cons, List.map_nil]); first | done | rfl | (simp; done)) ?_; (with_reducible refine (sight_First.calls k _ _ _ _ _ _ _ _ _ _ _ _ _ (RO.at_ HR0_2.out HK.out) HC0_2.out Hc9.out).mono ?_); rintro e_ w20 ⟨rfl, hb_⟩; refine ⟨_, rfl, ?_⟩; replace HS := Aside0.mk (HS.out.below hb_); replace HK := Aside0.mk (HK.out.trans (Keep.below hb_)); (try clear hz3000077_0_0 hz3000077_1_0 hz3000077_2_0); (try clear hz3000078_0_0 hz3000078_1_0); (try clear hz3000079_0_0 hz3000079_1_0)) | ((with_reducible refine gate_dst (N := 9) rfl ?_); refine wpList_plain rfl (fun K_ hK_ => ?_); refine op_box (S := S) (cs := #[.int .i64 0, .int .i64 0]) (t := 26) (HF.out.keep HK.out) HS.out (by first | (go_simp; done) | (go_simp; rfl)) ?_; intro g3000080 w21 hs_ hk_; refine hK_ _ _ ?_; clear hK_ K_; replace HS := Aside0.mk (hs_); replace HK := Aside0.mk (HK.out.trans hk_)) | ((with_reducible refine gate_store (t := 26) (p := 9) (v := (.tmp 24)) rfl ?_); refine wpList_plain rfl (fun K_ hK_ => ?_); refine op_store (S := S) 26 (.tmp 9) (.tmp 24) rfl g3000080 0 (.agg #[.int .i64 t545, .int .i64 t546]) [.int .i64 t545, .int .i64 t546] rfl rfl rfl (by kernel_rfl) (by simp [Value.oneCell']) HS.out (by simp) ?_; intro w22 hs_ hk_; refine hK_ _ _ ?_; clear hK_ K_; replace HS := Aside0.mk ((show SL (cells g3000080 26 [.int .i64 t545, .int .i64 t546].toArray :: _) _ _ from hs_)); replace HK := Aside0.mk (HK.out.trans hk_); have hb_ := SL.at_ (SL.get1 HS.out); have hz3000079_0_3 := ((blk_cell hb_ 0).trans rfl : _ = some (.int .i64 a2_0)); have hz3000079_1_3 := ((blk_cell hb_ 1).trans rfl : _ = some (.int .i64 a2_1)); clear hb_; have hb_ := SL.at_ (SL.get2 HS.out); have hz3000078_0_3 := ((blk_cell hb_ 0).trans rfl : _ = some (.int .i64 a1_0)); have hz3000078_1_3 := ((blk_cell hb_ 1).trans rfl : _ = some (.int .i64 a1_1)); clear hb_; have hb_ := SL.at_ (SL.get3 HS.out); have hz3000077_0_3 := ((blk_cell hb_ 0).trans rfl : _ = some (.int .i64 a0_0)); have hz3000077_1_3 := ((blk_cell hb_ 1).trans rfl : _ = some (.int .i64 a0_1)); have hz3000077_2_3 := ((blk_cell hb_ 2).trans rfl : _ = some (.slice A0_2 l0_2.length c0_2)); clear hb_) | ((with_reducible refine gate_dst (N := 30) rfl ?_); refine goesL_ (some 30) rfl rfl Try.func10 (by kernel_rfl) rfl #[.agg #[.int .i64 a0_0, .int .i64 a0_1, .slice A0_2 l0_2.length c0_2], .agg #[.int .i64 a1_0, .int .i64 a1_1], .agg #[.int .i64 a2_0, .int .i64 a2_1]] rfl (by (try simp only [List.map_toArray, List.map_cons, List.map_nil]); first | done | rfl | (simp; done)) ?_; (with_reducible refine (barrowref07_First.calls k _ _ _ _ _ _ _ _ _ _ _ _ _ (RO.at_ HR0_2.out HK.out) HC0_2.out Hc10.out).mono ?_); rintro e_ w23 ⟨rfl, hb_⟩; refine ⟨_, rfl, ?_⟩; replace HS := Aside0.mk (HS.out.below hb_); replace HK := Aside0.mk (HK.out.trans (Keep.below hb_)); (try clear hz3000077_0_3 hz3000077_1_3 hz3000077_2_3); (try clear hz3000078_0_3 hz3000078_1_3); (try clear hz3000079_0_3 hz3000079_1_3)) | ((with_reducible refine gate_dst (N := 11) rfl ?_); refine wpList_plain rfl (fun K_ hK_ => ?_); refine op_box (S := S) (cs := #[.int .i64 0, .int .i64 0]) (t := 26) (HF.out.keep HK.out) HS.out (by first | (go_simp; done) | (go_simp; rfl)) ?_; intro g3000081 w24 hs_ hk_; refine hK_ _ _ ?_; clear hK_ K_; replace HS := Aside0.mk (hs_); replace HK := Aside0.mk (HK.out.trans hk_)) | ((with_reducible refine gate_store (t := 26) (p := 11) (v := (.tmp 31)) rfl ?_); refine wpList_plain rfl (fun K_ hK_ => ?_); refine op_store (S := S) 26 (.tmp 11) (.tmp 31) rfl g3000081 0 (.agg #[.int .i64 t548, .int .i64 t549]) [.int .i64 t548, .int .i64 t549] rfl rfl rfl (by kernel_rfl) (by simp [Value.oneCell']) HS.out (by simp) ?_; intro w25 hs_ hk_; refine hK_ _ _ ?_; clear hK_ K_; replace HS := Aside0.mk ((show SL (cells g3000081 26 [.int .i64 t548, .int .i64 t549].toArray :: _) _ _ from hs_)); replace HK := Aside0.mk (HK.out.trans hk_)))
            refine start_ (n := 34) (S := fun w' => w'.cell? ⟨g3000077, 0, none⟩ = some (.int .i64 a0_0) ∧ w'.cell? ⟨g3000077, 1, none⟩ = some (.int .i64 a0_1) ∧ w'.cell? ⟨g3000077, 2, none⟩ = some (.slice A0_2 l0_2.length c0_2) ∧ w'.cell? ⟨g3000078, 0, none⟩ = some (.int .i64 a1_0) ∧ w'.cell? ⟨g3000078, 1, none⟩ = some (.int .i64 a1_1) ∧ w'.cell? ⟨g3000079, 0, none⟩ = some (.int .i64 a2_0) ∧ w'.cell? ⟨g3000079, 1, none⟩ = some (.int .i64 a2_1) ∧ w'.cell? ⟨g3000080, 0, none⟩ = some (.int .i64 t545) ∧ w'.cell? ⟨g3000080, 1, none⟩ = some (.int .i64 t546) ∧ w'.cell? ⟨g3000081, 0, none⟩ = some (.int .i64 t548) ∧ w'.cell? ⟨g3000081, 1, none⟩ = some (.int .i64 t549)) (ds := []) #[false, false, false, false, false, false, false, false, false, false, false, false, false, false, false, false, false, false, false, false, false, false, false, false, false, false, false, false, false, false, false, false, false, false] (by kernel_rfl) rfl rfl ⟨(((blk_cell (SL.at_ (SL.get4 HS.out)) 0).trans rfl)), (((blk_cell (SL.at_ (SL.get4 HS.out)) 1).trans rfl)), (((blk_cell (SL.at_ (SL.get4 HS.out)) 2).trans rfl)), (((blk_cell (SL.at_ (SL.get3 HS.out)) 0).trans rfl)), (((blk_cell (SL.at_ (SL.get3 HS.out)) 1).trans rfl)), (((blk_cell (SL.at_ (SL.get2 HS.out)) 0).trans rfl)), (((blk_cell (SL.at_ (SL.get2 HS.out)) 1).trans rfl)), (((blk_cell (SL.at_ (SL.get1 HS.out)) 0).trans rfl)), (((blk_cell (SL.at_ (SL.get1 HS.out)) 1).trans rfl)), (((blk_cell (SL.at_ HS.out) 0).trans rfl)), (((blk_cell (SL.at_ HS.out) 1).trans rfl))⟩ (fun hHeld => ?_); refine with_tabW barrowlaw07_SightLines.tab7 barrowlaw07_SightLines.bits7 (fun HT_ HW_ => ?_)
            replace HK := Aside0.mk (Keep.drew HK.out)
            replace HS := Aside0.mk (SL.drew HS.out)
            refine pure_ (i := 0) (N := some 33) (v := ?_) (a' := ?_) #[true, false, false, false, false, false, false, false, false, false, false, false, false, false, false, false, false, false, false, false, false, false, false, false, false, false, false, false, false, false, false, false, false, false] rfl rfl (any_of HT_.out (by kernel_rfl)) (fun _ _ _ h => h) (Or.inl ⟨by rfl, ?_⟩) ?_ ?_; rotate_left; · (intro w'; go_simp; with_reducible rfl)
            rotate_left; · (simp only [Act.put, sT, sZ, sS, i64_w, i32_w]; rfl)
            refine pure_ (i := 1) (N := some 34) (v := ?_) (a' := ?_) #[true, true, false, false, false, false, false, false, false, false, false, false, false, false, false, false, false, false, false, false, false, false, false, false, false, false, false, false, false, false, false, false, false, false] rfl rfl (any_of HT_.out (by kernel_rfl)) (fun _ _ _ h => h) (Or.inl ⟨by rfl, ?_⟩) ?_ ?_; rotate_left; · (intro w'; go_simp; with_reducible rfl)
            rotate_left; · (simp only [Act.put, sT, sZ, sS, i64_w, i32_w]; rfl)
            refine take_ (i := 2) (N := some 35) (v := ?_) (a' := ?_) #[true, true, true, false, false, false, false, false, false, false, false, false, false, false, false, false, false, false, false, false, false, false, false, false, false, false, false, false, false, false, false, false, false, false] rfl rfl (take_ofW HT_.out HW_.out (by kernel_rfl)) (fun _ _ _ h => h) (Or.inl ⟨by rfl, ?_⟩) hHeld ?_ ?_; rotate_left
            · rintro w' ⟨s0, s1, s2, s3, s4, s5, s6, s7, s8, s9, s10⟩
              go_simp
              with_reducible rfl
            rotate_left; · (simp only [Act.put, sT, sZ, sS, i64_w, i32_w]; rfl)
            refine take_ (i := 3) (N := some 36) (v := ?_) (a' := ?_) #[true, true, true, true, false, false, false, false, false, false, false, false, false, false, false, false, false, false, false, false, false, false, false, false, false, false, false, false, false, false, false, false, false, false] rfl rfl (take_ofW HT_.out HW_.out (by kernel_rfl)) (fun _ _ _ h => h) (Or.inl ⟨by rfl, ?_⟩) hHeld ?_ ?_; rotate_left
            · rintro w' ⟨s0, s1, s2, s3, s4, s5, s6, s7, s8, s9, s10⟩
              go_simp
              with_reducible rfl
            rotate_left; · (simp only [Act.put, sT, sZ, sS, i64_w, i32_w]; rfl)
            refine take_ (i := 4) (N := some 37) (v := ?_) (a' := ?_) #[true, true, true, true, true, false, false, false, false, false, false, false, false, false, false, false, false, false, false, false, false, false, false, false, false, false, false, false, false, false, false, false, false, false] rfl rfl (take_ofW HT_.out HW_.out (by kernel_rfl)) (fun _ _ _ h => h) (Or.inl ⟨by rfl, ?_⟩) hHeld ?_ ?_; rotate_left
            · rintro w' ⟨s0, s1, s2, s3, s4, s5, s6, s7, s8, s9, s10⟩
              go_simp
              with_reducible rfl
            rotate_left; · (simp only [Act.put, sT, sZ, sS, i64_w, i32_w]; rfl)
            refine take_ (i := 6) (N := some 39) (v := ?_) (a' := ?_) #[true, true, true, true, true, false, true, false, false, false, false, false, false, false, false, false, false, false, false, false, false, false, false, false, false, false, false, false, false, false, false, false, false, false] rfl rfl (take_ofW HT_.out HW_.out (by kernel_rfl)) (fun _ _ _ h => h) (Or.inl ⟨by rfl, ?_⟩) hHeld ?_ ?_; rotate_left
            · rintro w' ⟨s0, s1, s2, s3, s4, s5, s6, s7, s8, s9, s10⟩
              go_simp
              with_reducible rfl
            rotate_left; · (simp only [Act.put, sT, sZ, sS, i64_w, i32_w]; rfl)
            refine take_ (i := 7) (N := some 40) (v := ?_) (a' := ?_) #[true, true, true, true, true, false, true, true, false, false, false, false, false, false, false, false, false, false, false, false, false, false, false, false, false, false, false, false, false, false, false, false, false, false] rfl rfl (take_ofW HT_.out HW_.out (by kernel_rfl)) (fun _ _ _ h => h) (Or.inl ⟨by rfl, ?_⟩) hHeld ?_ ?_; rotate_left
            · rintro w' ⟨s0, s1, s2, s3, s4, s5, s6, s7, s8, s9, s10⟩
              go_simp
              with_reducible rfl
            rotate_left; · (simp only [Act.put, sT, sZ, sS, i64_w, i32_w]; rfl)
            refine take_ (i := 8) (N := some 41) (v := ?_) (a' := ?_) #[true, true, true, true, true, false, true, true, true, false, false, false, false, false, false, false, false, false, false, false, false, false, false, false, false, false, false, false, false, false, false, false, false, false] rfl rfl (take_ofW HT_.out HW_.out (by kernel_rfl)) (fun _ _ _ h => h) (Or.inl ⟨by rfl, ?_⟩) hHeld ?_ ?_; rotate_left
            · rintro w' ⟨s0, s1, s2, s3, s4, s5, s6, s7, s8, s9, s10⟩
              go_simp
              with_reducible rfl
            rotate_left; · (simp only [Act.put, sT, sZ, sS, i64_w, i32_w]; rfl)
            refine one_ (i := 5) (N := some 38) #[true, true, true, true, true, true, true, true, true, false, false, false, false, false, false, false, false, false, false, false, false, false, false, false, false, false, false, false, false, false, false, false, false, false] rfl rfl (one_of HT_.out (by kernel_rfl)) (by decide) (fun K hK => ?_)
            refine goes_ Try.func12 (by kernel_rfl) rfl #[.agg #[.int .i64 a0_0, .int .i64 a0_1, .slice A0_2 l0_2.length c0_2], .agg #[.int .i64 a1_0, .int .i64 a1_1], .agg #[.int .i64 a2_0, .int .i64 a2_1]] (by rfl) rfl rfl (by (try simp only [List.map_toArray, List.map_cons, List.map_nil]); first | done | rfl | (simp; done)) ?_
            have hs0_ := HS.out
            (with_reducible refine (sight_Line.slcalls k _ _ _ _ _ _ _ _ _ _ _ _ _ (HF.out.keep HK.out) hs0_ (HR0_2.out.keep HK.out) HC0_2.out Hc12.out).mono ?_)
            rintro e_ w26 ⟨Az3000082, cz3000082, rfl, hsr_, hkr_⟩
            refine ⟨_, rfl, ?_⟩
            replace HS := Aside0.mk (hsr_)
            replace HK := Aside0.mk (HK.out.trans hkr_)
            refine hK.out _ _ ⟨(((blk_cell (SL.at_ (SL.get5 HS.out)) 0).trans rfl)), (((blk_cell (SL.at_ (SL.get5 HS.out)) 1).trans rfl)), (((blk_cell (SL.at_ (SL.get5 HS.out)) 2).trans rfl)), (((blk_cell (SL.at_ (SL.get4 HS.out)) 0).trans rfl)), (((blk_cell (SL.at_ (SL.get4 HS.out)) 1).trans rfl)), (((blk_cell (SL.at_ (SL.get3 HS.out)) 0).trans rfl)), (((blk_cell (SL.at_ (SL.get3 HS.out)) 1).trans rfl)), (((blk_cell (SL.at_ (SL.get2 HS.out)) 0).trans rfl)), (((blk_cell (SL.at_ (SL.get2 HS.out)) 1).trans rfl)), (((blk_cell (SL.at_ (SL.get1 HS.out)) 0).trans rfl)), (((blk_cell (SL.at_ (SL.get1 HS.out)) 1).trans rfl))⟩ (fun hHeld => ?_)
            clear hK K
            refine norm_ (a' := ?_) ?_ ?_; rotate_left
            · show Act.put _ (some 38) _ = _
              simp only [Act.put, sT, sZ, sS, i64_w, i32_w]
              rfl
            refine one_ (i := 9) (N := some 42) #[true, true, true, true, true, true, true, true, true, true, false, false, false, false, false, false, false, false, false, false, false, false, false, false, false, false, false, false, false, false, false, false, false, false] rfl rfl (one_of HT_.out (by kernel_rfl)) (by decide) (fun K hK => ?_)
            refine goes_ Try.func13 (by kernel_rfl) rfl #[.agg #[.int .i64 a0_0, .int .i64 a0_1, .slice A0_2 l0_2.length c0_2], .agg #[.int .i64 a1_0, .int .i64 a1_1], .agg #[.int .i64 a2_0, .int .i64 a2_1]] (by rfl) rfl rfl (by (try simp only [List.map_toArray, List.map_cons, List.map_nil]); first | done | rfl | (simp; done)) ?_
            (with_reducible refine (barrowref07_Line.calls k _ _ _ _ _ _ _ _ _ _ _ (RO.at_ HR0_2.out HK.out) HC0_2.out Hc13.out).mono ?_)
            rintro e_ w27 ⟨v3000083_, rfl, ho3000083_, hb_⟩
            refine ⟨_, rfl, ?_⟩
            have hs_ := (SL.new (HF.out.keep HK.out) HS.out hb_ (row_of_R ho3000083_)).1
            obtain ⟨Az3000083, cz3000083, e2_, _, _⟩ := SL.row_reads hs_
            subst e2_
            replace HS := Aside0.mk (hs_)
            replace HK := Aside0.mk (HK.out.trans (Keep.below hb_))
            refine hK.out _ _ ⟨(((blk_cell (SL.at_ (SL.get6 HS.out)) 0).trans rfl)), (((blk_cell (SL.at_ (SL.get6 HS.out)) 1).trans rfl)), (((blk_cell (SL.at_ (SL.get6 HS.out)) 2).trans rfl)), (((blk_cell (SL.at_ (SL.get5 HS.out)) 0).trans rfl)), (((blk_cell (SL.at_ (SL.get5 HS.out)) 1).trans rfl)), (((blk_cell (SL.at_ (SL.get4 HS.out)) 0).trans rfl)), (((blk_cell (SL.at_ (SL.get4 HS.out)) 1).trans rfl)), (((blk_cell (SL.at_ (SL.get3 HS.out)) 0).trans rfl)), (((blk_cell (SL.at_ (SL.get3 HS.out)) 1).trans rfl)), (((blk_cell (SL.at_ (SL.get2 HS.out)) 0).trans rfl)), (((blk_cell (SL.at_ (SL.get2 HS.out)) 1).trans rfl))⟩ (fun hHeld => ?_)
            clear hK K
            refine norm_ (a' := ?_) ?_ ?_; rotate_left
            · show Act.put _ (some 42) _ = _
              simp only [Act.put, sT, sZ, sS, i64_w, i32_w]
              rfl
            refine one_ (i := 10) (N := some 43) #[true, true, true, true, true, true, true, true, true, true, true, false, false, false, false, false, false, false, false, false, false, false, false, false, false, false, false, false, false, false, false, false, false, false] rfl rfl (one_of HT_.out (by kernel_rfl)) (by decide) (fun K hK => ?_)
            refine goes_ Try.func11 (by kernel_rfl) rfl #[.slice Az3000082 t551.length cz3000082, .slice Az3000083 t552.length cz3000083] (by rfl) rfl rfl (by (try simp only [List.map_toArray, List.map_cons, List.map_nil]); first | done | rfl | (simp; done)) ?_
            (with_reducible refine (barrowref06_Same.calls k _ _ _ _ _ _ _ _ (SL.row_c (SL.get1 HS.out)).2.2 (SL.row_c (SL.get1 HS.out)).2.1 (SL.row_c HS.out).2.2 (SL.row_c HS.out).2.1 Hc14.out).mono ?_)
            rintro e_ w28 ⟨rfl, hb_⟩
            refine ⟨_, rfl, ?_⟩
            replace hb_ := Drawn0.below hb_
            replace HS := Aside0.mk (HS.out.below hb_)
            replace HK := Aside0.mk (HK.out.trans (Keep.below hb_))
            refine hK.out _ _ ⟨(((blk_cell (SL.at_ (SL.get6 HS.out)) 0).trans rfl)), (((blk_cell (SL.at_ (SL.get6 HS.out)) 1).trans rfl)), (((blk_cell (SL.at_ (SL.get6 HS.out)) 2).trans rfl)), (((blk_cell (SL.at_ (SL.get5 HS.out)) 0).trans rfl)), (((blk_cell (SL.at_ (SL.get5 HS.out)) 1).trans rfl)), (((blk_cell (SL.at_ (SL.get4 HS.out)) 0).trans rfl)), (((blk_cell (SL.at_ (SL.get4 HS.out)) 1).trans rfl)), (((blk_cell (SL.at_ (SL.get3 HS.out)) 0).trans rfl)), (((blk_cell (SL.at_ (SL.get3 HS.out)) 1).trans rfl)), (((blk_cell (SL.at_ (SL.get2 HS.out)) 0).trans rfl)), (((blk_cell (SL.at_ (SL.get2 HS.out)) 1).trans rfl))⟩ (fun hHeld => ?_)
            clear hK K
            refine norm_ (a' := ?_) ?_ ?_; rotate_left
            · show Act.put _ (some 43) _ = _
              simp only [Act.put, sT, sZ, sS, i64_w, i32_w]
              rfl
            refine pure_ (i := 11) (N := some 44) (v := ?_) (a' := ?_) #[true, true, true, true, true, true, true, true, true, true, true, true, false, false, false, false, false, false, false, false, false, false, false, false, false, false, false, false, false, false, false, false, false, false] rfl rfl (any_of HT_.out (by kernel_rfl)) (fun _ _ _ h => h) (Or.inl ⟨by rfl, ?_⟩) ?_ ?_; rotate_left; · (intro w'; go_simp; with_reducible rfl)
            rotate_left; · (simp only [Act.put, sT, sZ, sS, i64_w, i32_w]; rfl)
            refine pure_ (i := 12) (N := some 45) (v := ?_) (a' := ?_) #[true, true, true, true, true, true, true, true, true, true, true, true, true, false, false, false, false, false, false, false, false, false, false, false, false, false, false, false, false, false, false, false, false, false] rfl rfl (any_of HT_.out (by kernel_rfl)) (fun _ _ _ h => h) (Or.inl ⟨by rfl, ?_⟩) ?_ ?_; rotate_left; · (intro w'; go_simp; with_reducible rfl)
            rotate_left; · (simp only [Act.put, sT, sZ, sS, i64_w, i32_w]; rfl)
            refine take_ (i := 13) (N := some 46) (v := ?_) (a' := ?_) #[true, true, true, true, true, true, true, true, true, true, true, true, true, true, false, false, false, false, false, false, false, false, false, false, false, false, false, false, false, false, false, false, false, false] rfl rfl (take_ofW HT_.out HW_.out (by kernel_rfl)) (fun _ _ _ h => h) (Or.inl ⟨by rfl, ?_⟩) hHeld ?_ ?_; rotate_left
            · rintro w' ⟨s0, s1, s2, s3, s4, s5, s6, s7, s8, s9, s10⟩
              go_simp
              with_reducible rfl
            rotate_left; · (simp only [Act.put, sT, sZ, sS, i64_w, i32_w]; rfl)
            refine take_ (i := 14) (N := some 47) (v := ?_) (a' := ?_) #[true, true, true, true, true, true, true, true, true, true, true, true, true, true, true, false, false, false, false, false, false, false, false, false, false, false, false, false, false, false, false, false, false, false] rfl rfl (take_ofW HT_.out HW_.out (by kernel_rfl)) (fun _ _ _ h => h) (Or.inl ⟨by rfl, ?_⟩) hHeld ?_ ?_; rotate_left
            · rintro w' ⟨s0, s1, s2, s3, s4, s5, s6, s7, s8, s9, s10⟩
              go_simp
              with_reducible rfl
            rotate_left; · (simp only [Act.put, sT, sZ, sS, i64_w, i32_w]; rfl)
            refine take_ (i := 15) (N := some 48) (v := ?_) (a' := ?_) #[true, true, true, true, true, true, true, true, true, true, true, true, true, true, true, true, false, false, false, false, false, false, false, false, false, false, false, false, false, false, false, false, false, false] rfl rfl (take_ofW HT_.out HW_.out (by kernel_rfl)) (fun _ _ _ h => h) (Or.inl ⟨by rfl, ?_⟩) hHeld ?_ ?_; rotate_left
            · rintro w' ⟨s0, s1, s2, s3, s4, s5, s6, s7, s8, s9, s10⟩
              go_simp
              with_reducible rfl
            rotate_left; · (simp only [Act.put, sT, sZ, sS, i64_w, i32_w]; rfl)
            refine take_ (i := 17) (N := some 50) (v := ?_) (a' := ?_) #[true, true, true, true, true, true, true, true, true, true, true, true, true, true, true, true, false, true, false, false, false, false, false, false, false, false, false, false, false, false, false, false, false, false] rfl rfl (take_ofW HT_.out HW_.out (by kernel_rfl)) (fun _ _ _ h => h) (Or.inl ⟨by rfl, ?_⟩) hHeld ?_ ?_; rotate_left
            · rintro w' ⟨s0, s1, s2, s3, s4, s5, s6, s7, s8, s9, s10⟩
              go_simp
              with_reducible rfl
            rotate_left; · (simp only [Act.put, sT, sZ, sS, i64_w, i32_w]; rfl)
            refine take_ (i := 18) (N := some 51) (v := ?_) (a' := ?_) #[true, true, true, true, true, true, true, true, true, true, true, true, true, true, true, true, false, true, true, false, false, false, false, false, false, false, false, false, false, false, false, false, false, false] rfl rfl (take_ofW HT_.out HW_.out (by kernel_rfl)) (fun _ _ _ h => h) (Or.inl ⟨by rfl, ?_⟩) hHeld ?_ ?_; rotate_left
            · rintro w' ⟨s0, s1, s2, s3, s4, s5, s6, s7, s8, s9, s10⟩
              go_simp
              with_reducible rfl
            rotate_left; · (simp only [Act.put, sT, sZ, sS, i64_w, i32_w]; rfl)
            refine take_ (i := 19) (N := some 52) (v := ?_) (a' := ?_) #[true, true, true, true, true, true, true, true, true, true, true, true, true, true, true, true, false, true, true, true, false, false, false, false, false, false, false, false, false, false, false, false, false, false] rfl rfl (take_ofW HT_.out HW_.out (by kernel_rfl)) (fun _ _ _ h => h) (Or.inl ⟨by rfl, ?_⟩) hHeld ?_ ?_; rotate_left
            · rintro w' ⟨s0, s1, s2, s3, s4, s5, s6, s7, s8, s9, s10⟩
              go_simp
              with_reducible rfl
            rotate_left; · (simp only [Act.put, sT, sZ, sS, i64_w, i32_w]; rfl)
            refine one_ (i := 16) (N := some 49) #[true, true, true, true, true, true, true, true, true, true, true, true, true, true, true, true, true, true, true, true, false, false, false, false, false, false, false, false, false, false, false, false, false, false] rfl rfl (one_of HT_.out (by kernel_rfl)) (by decide) (fun K hK => ?_)
            refine goes_ Try.func14 (by kernel_rfl) rfl #[.agg #[.int .i64 a0_0, .int .i64 a0_1, .slice A0_2 l0_2.length c0_2], .agg #[.int .i64 a1_0, .int .i64 a1_1], .agg #[.int .i64 a2_0, .int .i64 a2_1]] (by rfl) rfl rfl (by (try simp only [List.map_toArray, List.map_cons, List.map_nil]); first | done | rfl | (simp; done)) ?_
            (with_reducible refine (sight_Sees.calls k _ _ _ _ _ _ _ _ _ _ _ (RO.at_ HR0_2.out HK.out) HC0_2.out Hc16.out).mono ?_)
            rintro e_ w29 ⟨rfl, hb_⟩
            refine ⟨_, rfl, ?_⟩
            replace HS := Aside0.mk (HS.out.below hb_)
            replace HK := Aside0.mk (HK.out.trans (Keep.below hb_))
            refine hK.out _ _ ⟨(((blk_cell (SL.at_ (SL.get6 HS.out)) 0).trans rfl)), (((blk_cell (SL.at_ (SL.get6 HS.out)) 1).trans rfl)), (((blk_cell (SL.at_ (SL.get6 HS.out)) 2).trans rfl)), (((blk_cell (SL.at_ (SL.get5 HS.out)) 0).trans rfl)), (((blk_cell (SL.at_ (SL.get5 HS.out)) 1).trans rfl)), (((blk_cell (SL.at_ (SL.get4 HS.out)) 0).trans rfl)), (((blk_cell (SL.at_ (SL.get4 HS.out)) 1).trans rfl)), (((blk_cell (SL.at_ (SL.get3 HS.out)) 0).trans rfl)), (((blk_cell (SL.at_ (SL.get3 HS.out)) 1).trans rfl)), (((blk_cell (SL.at_ (SL.get2 HS.out)) 0).trans rfl)), (((blk_cell (SL.at_ (SL.get2 HS.out)) 1).trans rfl))⟩ (fun hHeld => ?_)
            clear hK K
            refine norm_ (a' := ?_) ?_ ?_; rotate_left
            · show Act.put _ (some 49) _ = _
              simp only [Act.put, sT, sZ, sS, i64_w, i32_w]
              rfl
            refine one_ (i := 20) (N := some 53) #[true, true, true, true, true, true, true, true, true, true, true, true, true, true, true, true, true, true, true, true, true, false, false, false, false, false, false, false, false, false, false, false, false, false] rfl rfl (one_of HT_.out (by kernel_rfl)) (by decide) (fun K hK => ?_)
            refine goes_ Try.func15 (by kernel_rfl) rfl #[.agg #[.int .i64 a0_0, .int .i64 a0_1, .slice A0_2 l0_2.length c0_2], .agg #[.int .i64 a1_0, .int .i64 a1_1], .agg #[.int .i64 a2_0, .int .i64 a2_1]] (by rfl) rfl rfl (by (try simp only [List.map_toArray, List.map_cons, List.map_nil]); first | done | rfl | (simp; done)) ?_
            (with_reducible refine (barrowref07_Sees.calls k _ _ _ _ _ _ _ _ _ _ _ (RO.at_ HR0_2.out HK.out) HC0_2.out Hc17.out).mono ?_)
            rintro e_ w30 ⟨rfl, hb_⟩
            refine ⟨_, rfl, ?_⟩
            replace HS := Aside0.mk (HS.out.below hb_)
            replace HK := Aside0.mk (HK.out.trans (Keep.below hb_))
            refine hK.out _ _ ⟨(((blk_cell (SL.at_ (SL.get6 HS.out)) 0).trans rfl)), (((blk_cell (SL.at_ (SL.get6 HS.out)) 1).trans rfl)), (((blk_cell (SL.at_ (SL.get6 HS.out)) 2).trans rfl)), (((blk_cell (SL.at_ (SL.get5 HS.out)) 0).trans rfl)), (((blk_cell (SL.at_ (SL.get5 HS.out)) 1).trans rfl)), (((blk_cell (SL.at_ (SL.get4 HS.out)) 0).trans rfl)), (((blk_cell (SL.at_ (SL.get4 HS.out)) 1).trans rfl)), (((blk_cell (SL.at_ (SL.get3 HS.out)) 0).trans rfl)), (((blk_cell (SL.at_ (SL.get3 HS.out)) 1).trans rfl)), (((blk_cell (SL.at_ (SL.get2 HS.out)) 0).trans rfl)), (((blk_cell (SL.at_ (SL.get2 HS.out)) 1).trans rfl))⟩ (fun hHeld => ?_)
            clear hK K
            refine norm_ (a' := ?_) ?_ ?_; rotate_left
            · show Act.put _ (some 53) _ = _
              simp only [Act.put, sT, sZ, sS, i64_w, i32_w]
              rfl
            refine pure_ (i := 21) (N := some 54) (v := ?_) (a' := ?_) #[true, true, true, true, true, true, true, true, true, true, true, true, true, true, true, true, true, true, true, true, true, true, false, false, false, false, false, false, false, false, false, false, false, false] rfl rfl (any_of HT_.out (by kernel_rfl)) (fun _ _ _ h => h) (Or.inl ⟨by rfl, ?_⟩) ?_ ?_; rotate_left; · (intro w'; go_simp; with_reducible rfl)
            rotate_left; · (simp only [Act.put, sT, sZ, sS, i64_w, i32_w]; rfl)
            refine pure_ (i := 22) (N := some 55) (v := ?_) (a' := ?_) #[true, true, true, true, true, true, true, true, true, true, true, true, true, true, true, true, true, true, true, true, true, true, true, false, false, false, false, false, false, false, false, false, false, false] rfl rfl (any_of HT_.out (by kernel_rfl)) (fun _ _ _ h => h) (Or.inl ⟨by rfl, ?_⟩) ?_ ?_; rotate_left; · (intro w'; go_simp; with_reducible rfl)
            rotate_left; · (simp only [Act.put, sT, sZ, sS, i64_w, i32_w]; rfl)
            refine pure_ (i := 23) (N := some 56) (v := ?_) (a' := ?_) #[true, true, true, true, true, true, true, true, true, true, true, true, true, true, true, true, true, true, true, true, true, true, true, true, false, false, false, false, false, false, false, false, false, false] rfl rfl (any_of HT_.out (by kernel_rfl)) (fun _ _ _ h => h) (Or.inl ⟨by rfl, ?_⟩) ?_ ?_; rotate_left; · (intro w'; go_simp; with_reducible rfl)
            rotate_left; · (simp only [Act.put, sT, sZ, sS, i64_w, i32_w]; rfl)
            refine take_ (i := 24) (N := some 57) (v := ?_) (a' := ?_) #[true, true, true, true, true, true, true, true, true, true, true, true, true, true, true, true, true, true, true, true, true, true, true, true, true, false, false, false, false, false, false, false, false, false] rfl rfl (take_ofW HT_.out HW_.out (by kernel_rfl)) (fun _ _ _ h => h) (Or.inl ⟨by rfl, ?_⟩) hHeld ?_ ?_; rotate_left
            · rintro w' ⟨s0, s1, s2, s3, s4, s5, s6, s7, s8, s9, s10⟩
              go_simp
              with_reducible rfl
            rotate_left; · (simp only [Act.put, sT, sZ, sS, i64_w, i32_w]; rfl)
            refine take_ (i := 25) (N := some 58) (v := ?_) (a' := ?_) #[true, true, true, true, true, true, true, true, true, true, true, true, true, true, true, true, true, true, true, true, true, true, true, true, true, true, false, false, false, false, false, false, false, false] rfl rfl (take_ofW HT_.out HW_.out (by kernel_rfl)) (fun _ _ _ h => h) (Or.inl ⟨by rfl, ?_⟩) hHeld ?_ ?_; rotate_left
            · rintro w' ⟨s0, s1, s2, s3, s4, s5, s6, s7, s8, s9, s10⟩
              go_simp
              with_reducible rfl
            rotate_left; · (simp only [Act.put, sT, sZ, sS, i64_w, i32_w]; rfl)
            refine pure_ (i := 26) (N := some 59) (v := ?_) (a' := ?_) #[true, true, true, true, true, true, true, true, true, true, true, true, true, true, true, true, true, true, true, true, true, true, true, true, true, true, true, false, false, false, false, false, false, false] rfl rfl (any_of HT_.out (by kernel_rfl)) (fun _ _ _ h => h) (Or.inl ⟨by rfl, ?_⟩) ?_ ?_; rotate_left; · (intro w'; go_simp; with_reducible rfl)
            rotate_left; · (simp only [Act.put, sT, sZ, sS, i64_w, i32_w]; rfl)
            refine pure_ (i := 27) (N := some 60) (v := ?_) (a' := ?_) #[true, true, true, true, true, true, true, true, true, true, true, true, true, true, true, true, true, true, true, true, true, true, true, true, true, true, true, true, false, false, false, false, false, false] rfl rfl (any_of HT_.out (by kernel_rfl)) (fun _ _ _ h => h) (Or.inl ⟨by rfl, ?_⟩) ?_ ?_; rotate_left; · (intro w'; go_simp; with_reducible rfl)
            rotate_left; · (simp only [Act.put, sT, sZ, sS, i64_w, i32_w]; rfl)
            refine pure_ (i := 28) (N := some 61) (v := ?_) (a' := ?_) #[true, true, true, true, true, true, true, true, true, true, true, true, true, true, true, true, true, true, true, true, true, true, true, true, true, true, true, true, true, false, false, false, false, false] rfl rfl (any_of HT_.out (by kernel_rfl)) (fun _ _ _ h => h) (Or.inl ⟨by rfl, ?_⟩) ?_ ?_; rotate_left; · (intro w'; go_simp; with_reducible rfl)
            rotate_left; · (simp only [Act.put, sT, sZ, sS, i64_w, i32_w]; rfl)
            refine pure_ (i := 29) (N := some 62) (v := ?_) (a' := ?_) #[true, true, true, true, true, true, true, true, true, true, true, true, true, true, true, true, true, true, true, true, true, true, true, true, true, true, true, true, true, true, false, false, false, false] rfl rfl (any_of HT_.out (by kernel_rfl)) (fun _ _ _ h => h) (Or.inl ⟨by rfl, ?_⟩) ?_ ?_; rotate_left; · (intro w'; go_simp; with_reducible rfl)
            rotate_left; · (simp only [Act.put, sT, sZ, sS, i64_w, i32_w]; rfl)
            refine pure_ (i := 30) (N := some 63) (v := ?_) (a' := ?_) #[true, true, true, true, true, true, true, true, true, true, true, true, true, true, true, true, true, true, true, true, true, true, true, true, true, true, true, true, true, true, true, false, false, false] rfl rfl (any_of HT_.out (by kernel_rfl)) (fun _ _ _ h => h) (Or.inl ⟨by rfl, ?_⟩) ?_ ?_; rotate_left; · (intro w'; go_simp; with_reducible rfl)
            rotate_left; · (simp only [Act.put, sT, sZ, sS, i64_w, i32_w]; rfl)
            refine pure_ (i := 31) (N := some 64) (v := ?_) (a' := ?_) #[true, true, true, true, true, true, true, true, true, true, true, true, true, true, true, true, true, true, true, true, true, true, true, true, true, true, true, true, true, true, true, true, false, false] rfl rfl (any_of HT_.out (by kernel_rfl)) (fun _ _ _ h => h) (Or.inl ⟨by rfl, ?_⟩) ?_ ?_; rotate_left; · (intro w'; go_simp; with_reducible rfl)
            rotate_left; · (simp only [Act.put, sT, sZ, sS, i64_w, i32_w]; rfl)
            refine pure_ (i := 32) (N := some 65) (v := ?_) (a' := ?_) #[true, true, true, true, true, true, true, true, true, true, true, true, true, true, true, true, true, true, true, true, true, true, true, true, true, true, true, true, true, true, true, true, true, false] rfl rfl (any_of HT_.out (by kernel_rfl)) (fun _ _ _ h => h) (Or.inl ⟨by rfl, ?_⟩) ?_ ?_; rotate_left; · (intro w'; go_simp; with_reducible rfl)
            rotate_left; · (simp only [Act.put, sT, sZ, sS, i64_w, i32_w]; rfl)
            refine pure_ (i := 33) (N := some 6) (v := ?_) (a' := ?_) #[true, true, true, true, true, true, true, true, true, true, true, true, true, true, true, true, true, true, true, true, true, true, true, true, true, true, true, true, true, true, true, true, true, true] rfl rfl (any_of HT_.out (by kernel_rfl)) (fun _ _ _ h => h) (Or.inl ⟨by rfl, ?_⟩) ?_ ?_; rotate_left; · (intro w'; go_simp; with_reducible rfl)
            rotate_left; · (simp only [Act.put, sT, sZ, sS, i64_w, i32_w]; rfl)
            refine done_ (done_of HT_.out (by kernel_rfl)) ?_
            try go_wp2
            go_ret
            replace HS := Aside0.mk (SL.tail (SL.tail (SL.tail (SL.tail (SL.tail (SL.tail (SL.tail HS.out)))))))
            unfold barrowlaw07_SightLines.Post
            exact ⟨by first | rfl | (simp; done) | (simp [*]; done), HS.out, HK.out⟩
          · rw [if_neg c19] at H
            have c19b0 : (t545 == t548 && (t546 == t549)) = false := by simpa using c19
            (try (have c19b1 : decide (t545 = t548 && (t546 == t549)) = false := by simpa using c19))
            (try (have c19b2 : (t545 == t548 && (t546 == t549)) = false := by simpa using c19))
            (try (have c19b3 : ¬ (t545 = t548 && (t546 == t549)) := by simpa using c19))
            clear c19
            exact absurd H (by simp)
        · rw [if_neg c18] at H
          have c18b0 : (t554 == t555) = false := by simpa using c18
          (try (have c18b1 : decide (t554 = t555) = false := by simpa using c18))
          (try (have c18b2 : (t554 == t555) = false := by simpa using c18))
          (try (have c18b3 : ¬ (t554 = t555) := by simpa using c18))
          clear c18
          exact absurd H (by simp)
      · replace c15 := Bool.eq_false_iff.mpr c15
        subst c15
        rw [if_neg (show ¬ (false = true) by decide)] at H
        exact absurd H (by simp)
    · replace c11 := Bool.eq_false_iff.mpr c11
      subst c11
      rw [if_neg (show ¬ (false = true) by decide)] at H
      exact absurd H (by simp)
  · replace c8 := Bool.eq_false_iff.mpr c8
    subst c8
    rw [if_neg (show ¬ (false = true) by decide)] at H
    obtain rfl := Option.some.inj H
    refine hG_.out ?_
    go_wp2
    go_ret
    replace HS := Aside0.mk (SL.tail (SL.tail (SL.tail HS.out)))
    unfold barrowlaw07_SightLines.Post
    exact ⟨by first | rfl | (simp; done) | (simp [*]; done), HS.out, HK.out⟩
theorem barrowlaw07_SightLines.calls (k : Nat) (a0_0 : Int) (a0_1 : Int) (A0_2 : Option Addr) (c0_2 : Nat) (l0_2 : List Bool) (a1_0 : Int) (a1_1 : Int) (a2_0 : Int) (a2_1 : Int) (r : Bool) (w : World) (hr0_2 : Kd.C Kd.bool w A0_2 l0_2.length l0_2) (hc0_2 : l0_2.length ≤ c0_2) (h : barrowlaw07_SightLines.f k a0_0 a0_1 l0_2 a1_0 a1_1 a2_0 a2_1 = some r) :
    Calls Try.prog 3 #[.agg #[.int .i64 a0_0, .int .i64 a0_1, .slice A0_2 l0_2.length c0_2], .agg #[.int .i64 a1_0, .int .i64 a1_1], .agg #[.int .i64 a2_0, .int .i64 a2_1]] w fun e w' => e = .returned (.bool r) ∧ Below w.heap.size w w' :=
  (barrowlaw07_SightLines.slcalls k a0_0 a0_1 A0_2 c0_2 l0_2 a1_0 a1_1 a2_0 a2_1 r (news w) [] w (fresh_news w) trivial (RO.top hr0_2) hc0_2 h).mono fun _ _ h => ⟨h.1, h.2.2.to_below⟩

/-- THE ONE PURE STATEMENT of barrowlaw07_SightLines. -/
def barrowlaw07_SightLines.Pure : Prop := ∀ (a0_0 : Int) (a0_1 : Int) (l0_2 : List Bool) (a1_0 : Int) (a1_1 : Int) (a2_0 : Int) (a2_1 : Int), ((Lit.int .i64 a0_0).wf = true) → ((Lit.int .i64 a0_1).wf = true) → (l0_2.length ≤ maxLen ∧ l0_2.length * 1 ≤ 140737488351232 ∧ ∀ x556_ ∈ l0_2, True) → ((Lit.int .i64 a1_0).wf = true) → ((Lit.int .i64 a1_1).wf = true) → ((Lit.int .i64 a2_0).wf = true) → ((Lit.int .i64 a2_1).wf = true) → ∃ k, barrowlaw07_SightLines.f k a0_0 a0_1 l0_2 a1_0 a1_1 a2_0 a2_1 = some true

end Go.Proofs.Ytljmecjciifceaa.XSG
