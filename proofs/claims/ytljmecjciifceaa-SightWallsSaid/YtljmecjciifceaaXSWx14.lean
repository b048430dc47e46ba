-- Written by xprint.py (a program of this session) for this claim
import Derived.Test.YtljmecjciifceaaSq
import Derived.Test.YtljmecjciifceaaSL5
import Derived.Test.YtljmecjciifceaaXSWx0
import Derived.Test.YtljmecjciifceaaXSWx1
import Derived.Test.YtljmecjciifceaaXSWx2
import Derived.Test.YtljmecjciifceaaXSWx6
import Derived.Test.YtljmecjciifceaaXSWx7
import Derived.Test.YtljmecjciifceaaXSWx8
import Derived.Test.YtljmecjciifceaaXSWx9
import Derived.Test.YtljmecjciifceaaXSWx11
import Derived.Test.YtljmecjciifceaaXSWx12
import Derived.Test.YtljmecjciifceaaXSWx13
namespace Go.Proofs.Ytljmecjciifceaa.XSW
open Go.Proofs.YtljmecjciifceaaV Go.Proofs.YtljmecjciifceaaS
open Go.RowKit Go.Proofs.YtljmecjciifceaaW.PrintWords Go.Proofs.YtljmecjciifceaaW.PrintLast Go.Proofs.YtljmecjciifceaaW.PrintMore
attribute [local go_sem] max2_int min2_int max_two min_two max_three min_three max_four min_four   -- for this text's walks alone
set_option linter.unusedVariables false
set_option linter.unusedSimpArgs false

attribute [local go_sem high] eqA26
/-! ### barrowlaw07_SightWalls: function 5 -/
def barrowlaw07_SightWalls.f (k : Nat) (a0_0 : Int) (a0_1 : Int) (l0_2 : List Bool) (a1_0 : Int) (a1_1 : Int) (a2_0 : Int) (a2_1 : Int) (a3 : Int) : Option (Bool) := (barrowlaw07_small.f k).bind fun t480 => ((barrowlaw06_Few.f a0_0 a0_1 l0_2).bind fun t481 => (if t481 = true then ((grid_In.f a0_0 a0_1 l0_2 a1_0 a1_1).bind fun t484 => (if t484 = true then ((grid_In.f a0_0 a0_1 l0_2 a2_0 a2_1).bind fun t485 => (if t485 = true then (if (l0_2.length : Int) = 0 then (some t480) else ((some ((l0_2.length : Int) : Int)).bind fun j486 => (if 0 ≤ j486 then (if j486 ≤ 281474976710656 then ((some (List.replicate (j486).toNat false : List Bool)).bind fun y487 => ((some (([] : List Bool) : List Bool)).bind fun y488 => (if y488.length + l0_2.length < 140737488355328 then ((some (y488 ++ l0_2 : List Bool)).bind fun y489 => (if (y489.length : Int) = 0 then (none) else ((some (Int.tmod (Go.bits .and .i64 a3 4095) (y489.length : Int) : Int)).bind fun j492 => (if 0 ≤ j492 then (if j492 < (y489.length : Int) then ((some (y489.set (j492).toNat true : List Bool)).bind fun y494 => ((sight_First.f k a0_0 a0_1 l0_2 a1_0 a1_1 a2_0 a2_1).bind fun bt495 => (if t480 = true then ((sight_Sees.f k a0_0 a0_1 y487 a1_0 a1_1 a2_0 a2_1).bind fun t498 => (if t498 = true then ((sight_Sees.f k a0_0 a0_1 y494 a1_0 a1_1 a2_0 a2_1).bind fun t499 => (if t499 = true then ((sight_Sees.f k a0_0 a0_1 l0_2 a1_0 a1_1 a2_0 a2_1).bind fun t500 => (if t500 = true then (if bt495.2.2 = true then (none) else ((sight_Sees.f k a0_0 a0_1 l0_2 a1_0 a1_1 a1_0 a1_1).bind fun t502 => (some t502))) else (none))) else ((sight_Sees.f k a0_0 a0_1 l0_2 a1_0 a1_1 a2_0 a2_1).bind fun t503 => (if (bt495.2.2 != t503) = true then (if bt495.2.2 = true then ((grid_Wall.f a0_0 a0_1 l0_2 bt495.1 bt495.2.1).bind fun t504 => (if t504 = true then ((sight_Line.f k a0_0 a0_1 l0_2 a1_0 a1_1 a2_0 a2_1).bind fun t505 => ((barrowlaw07_has.f k t505 bt495.1 bt495.2.1).bind fun t506 => (if t506 = true then (if (!(bt495.1 == a1_0) || (!(bt495.2.1 == a1_1))) = true then (if (!(bt495.1 == a2_0) || (!(bt495.2.1 == a2_1))) = true then ((sight_Sees.f k a0_0 a0_1 l0_2 a1_0 a1_1 a1_0 a1_1).bind fun t507 => (some t507)) else (none)) else (none)) else (none)))) else (none))) else ((sight_Sees.f k a0_0 a0_1 l0_2 a1_0 a1_1 a1_0 a1_1).bind fun t508 => (some t508))) else (none))))) else (none))) else (none)))) else (none)) else (none))))) else (none)))) else (none)) else (none)))) else (some t480))) else (some t480))) else (some t480)))
theorem barrowlaw07_SightWalls.mono : ∀ a0 a1 a2 a3 a4 a5 a6 a7 k, LeO (barrowlaw07_SightWalls.f k a0 a1 a2 a3 a4 a5 a6 a7) (barrowlaw07_SightWalls.f (k + 1) a0 a1 a2 a3 a4 a5 a6 a7) := by
 intro a0 a1 a2 a3 a4 a5 a6 a7 k
 unfold barrowlaw07_SightWalls.f
 repeat' first
   | (with_reducible exact barrowlaw07_has.mono _ _ _ _)
   | (with_reducible exact barrowlaw07_small.mono _)
   | (with_reducible exact sight_First.mono _ _ _ _ _ _ _ _)
   | (with_reducible exact sight_Line.mono _ _ _ _ _ _ _ _)
   | (with_reducible exact sight_Sees.mono _ _ _ _ _ _ _ _)
   | (with_reducible exact LeO.refl _)
   | (with_reducible exact LeO.none _)
   | (with_reducible refine LeO.ite ?_ ?_)
   | (with_reducible refine everyOf_le (fun _ => ?_))
   | (with_reducible refine LeO.bind ?_ (fun _ => ?_))
   | exact barrowlaw07_has.mono _ _ _ _
   | exact barrowlaw07_small.mono _
   | exact sight_First.mono _ _ _ _ _ _ _ _
   | exact sight_Line.mono _ _ _ _ _ _ _ _
   | exact sight_Sees.mono _ _ _ _ _ _ _ _
   | exact LeO.none _
   | refine LeO.ite ?_ ?_
   | refine LeO.bind ?_ (fun _ => ?_)
def barrowlaw07_SightWalls.T5 : Bool × List (List Nat × List Nat) := (true, [([], []), ([0], [0]), ([], []), ([2], [2]), ([], []), ([4], [4]), ([5], [5]), ([6, 6], [6]), ([1, 3, 7], [1, 3, 7]), ([], []), ([9, 8, 0, 1, 2, 3, 4, 5, 6, 7, 8, 9], [8, 9])])
def barrowlaw07_SightWalls.B5 : List Nat := [0, 1, 0, 4, 0, 16, 48, 112, 255, 0, 1023]
theorem barrowlaw07_SightWalls.tab5 : rtab .any (opsOf Try.f5 5) = barrowlaw07_SightWalls.T5 := by kernel_rfl
theorem barrowlaw07_SightWalls.bits5 : waitsOk barrowlaw07_SightWalls.T5.2 barrowlaw07_SightWalls.B5 = true := by kernel_rfl
def barrowlaw07_SightWalls.T6 : Bool × List (List Nat × List Nat) := (true, [([], []), ([0], [0]), ([], []), ([2], [2]), ([], []), ([], []), ([5], [5]), ([4, 6], [4, 6]), ([1, 3, 7], [1, 3, 7]), ([], []), ([9, 8, 7, 0, 1, 2, 3, 4, 5, 6, 7, 8, 9], [8, 9])])
def barrowlaw07_SightWalls.B6 : List Nat := [0, 1, 0, 4, 0, 0, 32, 112, 255, 0, 1023]
theorem barrowlaw07_SightWalls.tab6 : rtab .any (opsOf Try.f5 6) = barrowlaw07_SightWalls.T6 := by kernel_rfl
theorem barrowlaw07_SightWalls.bits6 : waitsOk barrowlaw07_SightWalls.T6.2 barrowlaw07_SightWalls.B6 = true := by kernel_rfl
def barrowlaw07_SightWalls.T7 : Bool × List (List Nat × List Nat) := (true, [([], []), ([0], [0]), ([], []), ([2], [2]), ([], []), ([4], [4]), ([5], [5]), ([3, 6], [3, 6]), ([1, 7, 0, 1, 2, 3, 4, 5, 6, 7], [1, 7]), ([8, 0, 1, 2, 3, 4, 5, 6, 7], [8])])
def barrowlaw07_SightWalls.B7 : List Nat := [0, 1, 0, 4, 0, 16, 48, 124, 255, 511]
theorem barrowlaw07_SightWalls.tab7 : rtab .any (opsOf Try.f5 7) = barrowlaw07_SightWalls.T7 := by kernel_rfl
theorem barrowlaw07_SightWalls.bits7 : waitsOk barrowlaw07_SightWalls.T7.2 barrowlaw07_SightWalls.B7 = true := by kernel_rfl
def barrowlaw07_SightWalls.T9 : Bool × List (List Nat × List Nat) := (true, [([], []), ([0], [0]), ([1], [1]), ([1], [1]), ([1], [1]), ([2, 3, 4, 1, 1], [1, 2, 3, 4]), ([1, 5], [1, 5]), ([6, 5], [6]), ([7], [7]), ([7], [7]), ([7], [7]), ([8, 9, 10, 7, 7], [7, 8, 9, 10]), ([11, 7], [7, 11]), ([12, 11, 7], [7, 12]), ([13], [13]), ([13], [13]), ([13], [13]), ([14, 15, 16, 13, 13], [13, 14, 15, 16]), ([13, 17, 7], [7, 13, 17]), ([7, 18], [7, 18]), ([19, 17], [19]), ([20], [20]), ([20], [20]), ([20], [20]), ([20], [20]), ([22, 23, 24, 20, 20], [20, 22, 23, 24]), ([21, 25, 20], [20, 21, 25]), ([20, 26], [20, 26]), ([27, 25], [27]), ([28], [28]), ([29, 28], [28, 29]), ([30, 28, 28], [28, 30]), ([31], [31]), ([31], [31]), ([32, 33, 31, 31], [31, 32, 33]), ([34, 34, 31], [31, 34]), ([35], [35]), ([35], [35]), ([35], [35]), ([36, 37, 38, 35, 35], [35, 36, 37, 38]), ([35], [35]), ([39, 40, 39, 35], [35, 39, 40]), ([35, 41, 31], [31, 35, 41]), ([42, 41, 31], [31, 42]), ([43], [43]), ([43], [43]), ([44, 45, 43], [43, 44, 45]), ([43, 46, 31], [31, 43, 46]), ([47, 43, 31], [31, 47]), ([48], [48]), ([48], [48]), ([49, 50, 48], [48, 49, 50]), ([48, 51, 31], [31, 48, 51]), ([31, 52, 28], [28, 31, 52]), ([28, 53], [28, 53]), ([54, 48], [54]), ([55], [55]), ([55], [55]), ([55], [55]), ([56, 57, 58, 55, 55], [55, 56, 57, 58]), ([55, 59], [55, 59]), ([60, 59, 0, 1, 2, 3, 4, 5, 6, 7, 8, 9, 10, 11, 12, 13, 14, 15, 16, 17, 18, 19, 20, 21, 22, 23, 24, 25, 26, 27, 28, 29, 30, 31, 32, 33, 34, 35, 36, 37, 38, 39, 40, 41, 42, 43, 44, 45, 46, 47, 48, 49, 50, 51, 52, 53, 54, 55, 56, 57, 58, 59, 60], [60])])
def barrowlaw07_SightWalls.B9 : List Nat := [0, 1, 3, 3, 3, 31, 63, 127, 255, 255, 255, 2047, 4095, 8191, 16383, 16383, 16383, 131071, 262143, 524287, 1048575, 2097151, 2097151, 2097151, 2097151, 31457279, 67108863, 134217727, 268435455, 536870911, 1073741823, 2147483647, 4294967295, 4294967295, 17179869183, 34359738367, 68719476735, 68719476735, 68719476735, 549755813887, 68719476735, 2199023255551, 4398046511103, 8796093022207, 17592186044415, 17592186044415, 70368744177663, 140737488355327, 281474976710655, 562949953421311, 562949953421311, 2251799813685247, 4503599627370495, 9007199254740991, 18014398509481983, 36028797018963967, 72057594037927935, 72057594037927935, 72057594037927935, 576460752303423487, 1152921504606846975, 2305843009213693951]
theorem barrowlaw07_SightWalls.tab9 : rtab .any (opsOf Try.f5 9) = barrowlaw07_SightWalls.T9 := by kernel_rfl
theorem barrowlaw07_SightWalls.bits9 : waitsOk barrowlaw07_SightWalls.T9.2 barrowlaw07_SightWalls.B9 = true := by kernel_rfl
def barrowlaw07_SightWalls.Post (r : Bool) (S : Nat → Prop) (L : List Asr) (w : World) (e : Ending) (w' : World) : Prop := e = .returned (.bool r) ∧ SL (L) w' S ∧ Keep S w w'
set_option maxHeartbeats 8000000 in
set_option maxRecDepth 100000 in
theorem barrowlaw07_SightWalls.slcalls (k : Nat) (a0_0 : Int) (a0_1 : Int) (A0_2 : Option Addr) (c0_2 : Nat) (l0_2 : List Bool) (a1_0 : Int) (a1_1 : Int) (a2_0 : Int) (a2_1 : Int) (a3 : Int) (r : Bool) (S : Nat → Prop) (L : List Asr) (w : World) (hf : Fresh S w) (hs : SL (L) w S) (hr0_2 : RO S w (fun w_ => Kd.C Kd.bool w_ A0_2 l0_2.length l0_2)) (hc0_2 : l0_2.length ≤ c0_2) (h : barrowlaw07_SightWalls.f k a0_0 a0_1 l0_2 a1_0 a1_1 a2_0 a2_1 a3 = some r) :
  Calls Try.prog 5 #[.agg #[.int .i64 a0_0, .int .i64 a0_1, .slice A0_2 l0_2.length c0_2], .agg #[.int .i64 a1_0, .int .i64 a1_1], .agg #[.int .i64 a2_0, .int .i64 a2_1], .int .i64 a3] w (barrowlaw07_SightWalls.Post r S L w) := by
 have HR0_2 := Aside0.mk hr0_2
 have HC0_2 := Aside0.mk hc0_2
 clear hr0_2 hc0_2
 have HF := Aside0.mk hf
 have HS := Aside0.mk hs
 have HK := Aside0.mk (Keep.refl S w)
 clear hf hs
 have hu24 := Try.underlying24
 have hu26 := Try.underlying26
 have H : ((barrowlaw07_small.f k).bind fun t480 => ((barrowlaw06_Few.f a0_0 a0_1 l0_2).bind fun t481 => (if t481 = true then ((grid_In.f a0_0 a0_1 l0_2 a1_0 a1_1).bind fun t484 => (if t484 = true then ((grid_In.f a0_0 a0_1 l0_2 a2_0 a2_1).bind fun t485 => (if t485 = true then (if (l0_2.length : Int) = 0 then (some t480) else ((some ((l0_2.length : Int) : Int)).bind fun j486 => (if 0 ≤ j486 then (if j486 ≤ 281474976710656 then ((some (List.replicate (j486).toNat false : List Bool)).bind fun y487 => ((some (([] : List Bool) : List Bool)).bind fun y488 => (if y488.length + l0_2.length < 140737488355328 then ((some (y488 ++ l0_2 : List Bool)).bind fun y489 => (if (y489.length : Int) = 0 then (none) else ((some (Int.tmod (Go.bits .and .i64 a3 4095) (y489.length : Int) : Int)).bind fun j492 => (if 0 ≤ j492 then (if j492 < (y489.length : Int) then ((some (y489.set (j492).toNat true : List Bool)).bind fun y494 => ((sight_First.f k a0_0 a0_1 l0_2 a1_0 a1_1 a2_0 a2_1).bind fun bt495 => (if t480 = true then ((sight_Sees.f k a0_0 a0_1 y487 a1_0 a1_1 a2_0 a2_1).bind fun t498 => (if t498 = true then ((sight_Sees.f k a0_0 a0_1 y494 a1_0 a1_1 a2_0 a2_1).bind fun t499 => (if t499 = true then ((sight_Sees.f k a0_0 a0_1 l0_2 a1_0 a1_1 a2_0 a2_1).bind fun t500 => (if t500 = true then (if bt495.2.2 = true then (none) else ((sight_Sees.f k a0_0 a0_1 l0_2 a1_0 a1_1 a1_0 a1_1).bind fun t502 => (some t502))) else (none))) else ((sight_Sees.f k a0_0 a0_1 l0_2 a1_0 a1_1 a2_0 a2_1).bind fun t503 => (if (bt495.2.2 != t503) = true then (if bt495.2.2 = true then ((grid_Wall.f a0_0 a0_1 l0_2 bt495.1 bt495.2.1).bind fun t504 => (if t504 = true then ((sight_Line.f k a0_0 a0_1 l0_2 a1_0 a1_1 a2_0 a2_1).bind fun t505 => ((barrowlaw07_has.f k t505 bt495.1 bt495.2.1).bind fun t506 => (if t506 = true then (if (!(bt495.1 == a1_0) || (!(bt495.2.1 == a1_1))) = true then (if (!(bt495.1 == a2_0) || (!(bt495.2.1 == a2_1))) = true then ((sight_Sees.f k a0_0 a0_1 l0_2 a1_0 a1_1 a1_0 a1_1).bind fun t507 => (some t507)) else (none)) else (none)) else (none)))) else (none))) else ((sight_Sees.f k a0_0 a0_1 l0_2 a1_0 a1_1 a1_0 a1_1).bind fun t508 => (some t508))) else (none))))) else (none))) else (none)))) else (none)) else (none))))) else (none)))) else (none)) else (none)))) else (some t480))) else (some t480))) else (some t480)))) = some r := h
 clear h
 replace H := Option.bind_eq_some_iff.1 H
 obtain ⟨t480, Hc10, H⟩ := H
 try dsimp only at H
 have Hc1 := Aside0.mk Hc10
 clear Hc10
 replace H := Option.bind_eq_some_iff.1 H
 obtain ⟨t481, Hc20, H⟩ := H
 try dsimp only at H
 have Hc2 := Aside0.mk Hc20
 clear Hc20
 have H' := Aside0.mk H
 clear H
 go_enter Try.func5, Try.ntmps5
 go_wp2_with (first | ((with_reducible refine gate_dst (N := 4) rfl ?_); refine wpList_plain rfl (fun K_ hK_ => ?_); refine op_box (S := S) (cs := #[.int .i64 a0_0, .int .i64 a0_1, .slice A0_2 l0_2.length c0_2]) (t := 24) (HF.out.keep HK.out) HS.out (by first | (go_simp; done) | (go_simp; rfl)) ?_; intro g3000053 w3 hs_ hk_; refine hK_ _ _ ?_; clear hK_ K_; replace HS := Aside0.mk (hs_); replace HK := Aside0.mk (HK.out.trans hk_)) | ((with_reducible refine gate_dst (N := 5) rfl ?_); refine wpList_plain rfl (fun K_ hK_ => ?_); refine op_box (S := S) (cs := #[.int .i64 a1_0, .int .i64 a1_1]) (t := 26) (HF.out.keep HK.out) HS.out (by first | (go_simp; done) | (go_simp; rfl)) ?_; intro g3000054 w4 hs_ hk_; refine hK_ _ _ ?_; clear hK_ K_; replace HS := Aside0.mk (hs_); replace HK := Aside0.mk (HK.out.trans hk_)) | ((with_reducible refine gate_dst (N := 6) rfl ?_); refine wpList_plain rfl (fun K_ hK_ => ?_); refine op_box (S := S) (cs := #[.int .i64 a2_0, .int .i64 a2_1]) (t := 26) (HF.out.keep HK.out) HS.out (by first | (go_simp; done) | (go_simp; rfl)) ?_; intro g3000055 w5 hs_ hk_; refine hK_ _ _ ?_; clear hK_ K_; replace HS := Aside0.mk (hs_); replace HK := Aside0.mk (HK.out.trans hk_)) | ((with_reducible refine gate_dst (N := 15) rfl ?_); refine goesL_ (some 15) rfl rfl Try.func7 (by kernel_rfl) rfl #[] rfl (by (try simp only [List.map_toArray, List.map_cons, List.map_nil]); first | done | rfl | (simp; done)) ?_; (with_reducible refine (barrowlaw07_small.calls k _ _  Hc1.out).mono ?_); rintro e_ w6 ⟨rfl, hb_⟩; refine ⟨_, rfl, ?_⟩; replace HS := Aside0.mk (HS.out.below hb_); replace HK := Aside0.mk (HK.out.trans (Keep.below hb_)); have hb_ := SL.at_ (SL.get2 HS.out); have hz3000053_0_4 := ((blk_cell hb_ 0).trans rfl : _ = some (.int .i64 a0_0)); have hz3000053_1_4 := ((blk_cell hb_ 1).trans rfl : _ = some (.int .i64 a0_1)); have hz3000053_2_4 := ((blk_cell hb_ 2).trans rfl : _ = some (.slice A0_2 l0_2.length c0_2)); clear hb_) | ((with_reducible refine gate_dst (N := 17) rfl ?_); refine goesL_ (some 17) rfl rfl Try.func8 (by kernel_rfl) rfl #[.agg #[.int .i64 a0_0, .int .i64 a0_1, .slice A0_2 l0_2.length c0_2]] rfl (by (try simp only [List.map_toArray, List.map_cons, List.map_nil]); first | done | rfl | (simp; done)) ?_; (with_reducible refine (barrowlaw06_Few.calls _ _ _ _ _ _ _ (RO.at_ HR0_2.out HK.out) HC0_2.out Hc2.out).mono ?_); rintro e_ w7 ⟨rfl, hb_⟩; refine ⟨_, rfl, ?_⟩; replace HS := Aside0.mk (HS.out.below hb_); replace HK := Aside0.mk (HK.out.trans (Keep.below hb_)); (try clear hz3000053_0_4 hz3000053_1_4 hz3000053_2_4); refine stop_ ?_; intro G_ hG_))
 have H := H'.out
 clear H'
 by_cases c8 : t481 = true
 ·subst c8
  rw [if_pos rfl] at H
  replace H := Option.bind_eq_some_iff.1 H
  obtain ⟨t484, Hc90, H⟩ := H
  try dsimp only at H
  have Hc9 := Aside0.mk Hc90
  clear Hc90
  by_cases c10 : t484 = true
  ·subst c10
   rw [if_pos rfl] at H
   replace H := Option.bind_eq_some_iff.1 H
   obtain ⟨t485, Hc110, H⟩ := H
   try dsimp only at H
   have Hc11 := Aside0.mk Hc110
   clear Hc110
   by_cases c12 : t485 = true
   ·subst c12
    rw [if_pos rfl] at H
    by_cases c13 : (l0_2.length : Int) = 0
    ·rw [if_pos c13] at H
     have c13b0 : ((l0_2.length : Int) == 0) = true := beq_iff_eq.mpr c13
     have c13b1 : ((l0_2.length : Int) != 0) = false := bne_eq_false_iff_eq.mpr c13
     clear c13
     obtain rfl := Option.some.inj H
     have hb_ := SL.at_ (SL.get1 HS.out)
     have hz3000054_0_0 := ((blk_cell hb_ 0).trans rfl : _ = some (.int .i64 a1_0))
     have hz3000054_1_0 := ((blk_cell hb_ 1).trans rfl : _ = some (.int .i64 a1_1))
     clear hb_
     have hb_ := SL.at_ (SL.get2 HS.out)
     have hz3000053_0_0 := ((blk_cell hb_ 0).trans rfl : _ = some (.int .i64 a0_0))
     have hz3000053_1_0 := ((blk_cell hb_ 1).trans rfl : _ = some (.int .i64 a0_1))
     have hz3000053_2_0 := ((blk_cell hb_ 2).trans rfl : _ = some (.slice A0_2 l0_2.length c0_2))
     clear hb_
     refine hG_.out ?_
     try simp only [c13b0, c13b1]
     go_wp2_with (first | ((with_reducible refine gate_dst (N := 23) rfl ?_); (try (refine gate_guard (by rfl) ?_; dsimp only)); refine goesL_ (some 23) rfl rfl Try.func16 (by kernel_rfl) rfl #[.agg #[.int .i64 a0_0, .int .i64 a0_1, .slice A0_2 l0_2.length c0_2], .agg #[.int .i64 a1_0, .int .i64 a1_1]] rfl (by (try simp only [List.map_toArray, List.map_cons, List.map_nil]); first | done | rfl | (simp; done)) ?_; (with_reducible refine (grid_In.calls _ _ _ _ _ _ _ _ _ (RO.at_ HR0_2.out HK.out) HC0_2.out Hc9.out).mono ?_); rintro e_ w14 ⟨rfl, hb_⟩; refine ⟨_, rfl, ?_⟩; replace HS := Aside0.mk (HS.out.below hb_); replace HK := Aside0.mk (HK.out.trans (Keep.below hb_)); (try clear hz3000053_0_0 hz3000053_1_0 hz3000053_2_0); (try clear hz3000054_0_0 hz3000054_1_0); have hb_ := SL.at_ HS.out; have hz3000055_0_1 := ((blk_cell hb_ 0).trans rfl : _ = some (.int .i64 a2_0)); have hz3000055_1_1 := ((blk_cell hb_ 1).trans rfl : _ = some (.int .i64 a2_1)); clear hb_; have hb_ := SL.at_ (SL.get2 HS.out); have hz3000053_0_1 := ((blk_cell hb_ 0).trans rfl : _ = some (.int .i64 a0_0)); have hz3000053_1_1 := ((blk_cell hb_ 1).trans rfl : _ = some (.int .i64 a0_1)); have hz3000053_2_1 := ((blk_cell hb_ 2).trans rfl : _ = some (.slice A0_2 l0_2.length c0_2)); clear hb_) | ((with_reducible refine gate_dst (N := 29) rfl ?_); (try (refine gate_guard (by rfl) ?_; dsimp only)); refine goesL_ (some 29) rfl rfl Try.func16 (by kernel_rfl) rfl #[.agg #[.int .i64 a0_0, .int .i64 a0_1, .slice A0_2 l0_2.length c0_2], .agg #[.int .i64 a2_0, .int .i64 a2_1]] rfl (by (try simp only [List.map_toArray, List.map_cons, List.map_nil]); first | done | rfl | (simp; done)) ?_; (with_reducible refine (grid_In.calls _ _ _ _ _ _ _ _ _ (RO.at_ HR0_2.out HK.out) HC0_2.out Hc11.out).mono ?_); rintro e_ w15 ⟨rfl, hb_⟩; refine ⟨_, rfl, ?_⟩; replace HS := Aside0.mk (HS.out.below hb_); replace HK := Aside0.mk (HK.out.trans (Keep.below hb_)); (try clear hz3000053_0_1 hz3000053_1_1 hz3000053_2_1); (try clear hz3000055_0_1 hz3000055_1_1); have hb_ := SL.at_ (SL.get2 HS.out); have hz3000053_0_2 := ((blk_cell hb_ 0).trans rfl : _ = some (.int .i64 a0_0)); have hz3000053_1_2 := ((blk_cell hb_ 1).trans rfl : _ = some (.int .i64 a0_1)); have hz3000053_2_2 := ((blk_cell hb_ 2).trans rfl : _ = some (.slice A0_2 l0_2.length c0_2)); clear hb_))
     go_ret
     replace HS := Aside0.mk (SL.tail (SL.tail (SL.tail HS.out)))
     unfold barrowlaw07_SightWalls.Post
     exact ⟨by first | rfl | (simp; done) | (simp [*]; done) | (simp at c13b0 ⊢; first | exact c13b0 | (simp [c13b0]; done)), HS.out, HK.out⟩
    ·rw [if_neg c13] at H
     have c13b0 : ((l0_2.length : Int) == 0) = false := beq_eq_false_iff_ne.mpr c13
     have c13b1 : ((l0_2.length : Int) != 0) = true := bne_iff_ne.mpr c13
     have c13b2 : ¬ (l0_2 = []) := fun h_ => c13 (by rw [h_]; rfl)
     replace H := Option.bind_eq_some_iff.1 H
     obtain ⟨j486, hj4860, H⟩ := H
     try dsimp only at H
     have hj486 := Option.some.inj hj4860
     clear hj4860
     by_cases c16 : 0 ≤ j486
     ·rw [if_pos c16] at H
      have c16b0 := eq_true c16
      have c16b1 : decide (0 ≤ j486) = true := decide_eq_true c16
      clear c16
      by_cases c17 : j486 ≤ 281474976710656
      ·rw [if_pos c17] at H
       have LMc17 := Aside0.mk c17
       clear c17
       replace H := Option.bind_eq_some_iff.1 H
       obtain ⟨y487, hy4870, H⟩ := H
       try dsimp only at H
       have hy487 := Option.some.inj hy4870
       clear hy4870
       have Ny487 := Aside0.mk hy487
       clear hy487
       replace H := Option.bind_eq_some_iff.1 H
       obtain ⟨y488, hy4880, H⟩ := H
       try dsimp only at H
       have hy488 := Option.some.inj hy4880
       clear hy4880
       have Ny488 := Aside0.mk hy488
       clear hy488
       by_cases c18 : y488.length + l0_2.length < 140737488355328
       ·rw [if_pos c18] at H
        have LMc18 := Aside0.mk c18
        clear c18
        replace H := Option.bind_eq_some_iff.1 H
        obtain ⟨y489, hy4890, H⟩ := H
        try dsimp only at H
        have hy489 := Option.some.inj hy4890
        clear hy4890
        have Ny489 := Aside0.mk hy489
        clear hy489
        by_cases c19 : (y489.length : Int) = 0
        ·rw [if_pos c19] at H
         exact absurd H (by simp)
        ·rw [if_neg c19] at H
         have c19b0 : ((y489.length : Int) == 0) = false := beq_eq_false_iff_ne.mpr c19
         have c19b1 : ((y489.length : Int) != 0) = true := bne_iff_ne.mpr c19
         have c19b2 : ¬ (y489 = []) := fun h_ => c19 (by rw [h_]; rfl)
         replace H := Option.bind_eq_some_iff.1 H
         obtain ⟨j492, hj4920, H⟩ := H
         try dsimp only at H
         have hj492 := Option.some.inj hj4920
         clear hj4920
         by_cases c20 : 0 ≤ j492
         ·rw [if_pos c20] at H
          have c20b0 : decide (0 ≤ j492) = true := decide_eq_true c20
          clear c20
          by_cases c21 : j492 < (y489.length : Int)
          ·rw [if_pos c21] at H
           have c21b0 : decide (j492 < (y489.length : Int)) = true := decide_eq_true c21
           clear c21
           replace H := Option.bind_eq_some_iff.1 H
           obtain ⟨y494, hy4940, H⟩ := H
           try dsimp only at H
           have hy494 := Option.some.inj hy4940
           clear hy4940
           have Ny494 := Aside0.mk hy494
           clear hy494
           replace H := Option.bind_eq_some_iff.1 H
           obtain ⟨⟨t495, t496, t497⟩, Hc220, H⟩ := H
           try dsimp only at H
           have Hc22 := Aside0.mk Hc220
           clear Hc220
           by_cases c23 : t480 = true
           ·subst c23
            rw [if_pos rfl] at H
            replace H := Option.bind_eq_some_iff.1 H
            obtain ⟨t498, Hc240, H⟩ := H
            try dsimp only at H
            have Hc24 := Aside0.mk Hc240
            clear Hc240
            by_cases c25 : t498 = true
            ·subst c25
             rw [if_pos rfl] at H
             replace H := Option.bind_eq_some_iff.1 H
             obtain ⟨t499, Hc260, H⟩ := H
             try dsimp only at H
             have Hc26 := Aside0.mk Hc260
             clear Hc260
             by_cases c27 : t499 = true
             ·subst c27
              rw [if_pos rfl] at H
              replace H := Option.bind_eq_some_iff.1 H
              obtain ⟨t500, Hc280, H⟩ := H
              try dsimp only at H
              have Hc28 := Aside0.mk Hc280
              clear Hc280
              by_cases c29 : t500 = true
              ·subst c29
               rw [if_pos rfl] at H
               by_cases c30 : t497 = true
               ·subst c30
                rw [if_pos rfl] at H
                exact absurd H (by simp)
               ·replace c30 := Bool.eq_false_iff.mpr c30
                subst c30
                rw [if_neg (show ¬ (false = true) by decide)] at H
                replace H := Option.bind_eq_some_iff.1 H
                obtain ⟨t502, Hc310, H⟩ := H
                try dsimp only at H
                have Hc31 := Aside0.mk Hc310
                clear Hc310
                obtain rfl := Option.some.inj H
                have hb_ := SL.at_ (SL.get1 HS.out)
                have hz3000054_0_0 := ((blk_cell hb_ 0).trans rfl : _ = some (.int .i64 a1_0))
                have hz3000054_1_0 := ((blk_cell hb_ 1).trans rfl : _ = some (.int .i64 a1_1))
                clear hb_
                have hb_ := SL.at_ (SL.get2 HS.out)
                have hz3000053_0_0 := ((blk_cell hb_ 0).trans rfl : _ = some (.int .i64 a0_0))
                have hz3000053_1_0 := ((blk_cell hb_ 1).trans rfl : _ = some (.int .i64 a0_1))
                have hz3000053_2_0 := ((blk_cell hb_ 2).trans rfl : _ = some (.slice A0_2 l0_2.length c0_2))
                clear hb_
                refine hG_.out ?_
                try simp only [c13b0, c13b1, c16b0, c16b1, c19b0, c19b1, c20b0, c21b0]
                try go_wp2_with (first | ((with_reducible refine gate_dst (N := 23) rfl ?_); (try (refine gate_guard (by rfl) ?_; dsimp only)); refine goesL_ (some 23) rfl rfl Try.func16 (by kernel_rfl) rfl #[.agg #[.int .i64 a0_0, .int .i64 a0_1, .slice A0_2 l0_2.length c0_2], .agg #[.int .i64 a1_0, .int .i64 a1_1]] rfl (by (try simp only [List.map_toArray, List.map_cons, List.map_nil]); first | done | rfl | (simp; done)) ?_; (with_reducible refine (grid_In.calls _ _ _ _ _ _ _ _ _ (RO.at_ HR0_2.out HK.out) HC0_2.out Hc9.out).mono ?_); rintro e_ w32 ⟨rfl, hb_⟩; refine ⟨_, rfl, ?_⟩; replace HS := Aside0.mk (HS.out.below hb_); replace HK := Aside0.mk (HK.out.trans (Keep.below hb_)); (try clear hz3000053_0_0 hz3000053_1_0 hz3000053_2_0); (try clear hz3000054_0_0 hz3000054_1_0); have hb_ := SL.at_ HS.out; have hz3000055_0_1 := ((blk_cell hb_ 0).trans rfl : _ = some (.int .i64 a2_0)); have hz3000055_1_1 := ((blk_cell hb_ 1).trans rfl : _ = some (.int .i64 a2_1)); clear hb_; have hb_ := SL.at_ (SL.get2 HS.out); have hz3000053_0_1 := ((blk_cell hb_ 0).trans rfl : _ = some (.int .i64 a0_0)); have hz3000053_1_1 := ((blk_cell hb_ 1).trans rfl : _ = some (.int .i64 a0_1)); have hz3000053_2_1 := ((blk_cell hb_ 2).trans rfl : _ = some (.slice A0_2 l0_2.length c0_2)); clear hb_) | ((with_reducible refine gate_dst (N := 29) rfl ?_); (try (refine gate_guard (by rfl) ?_; dsimp only)); refine goesL_ (some 29) rfl rfl Try.func16 (by kernel_rfl) rfl #[.agg #[.int .i64 a0_0, .int .i64 a0_1, .slice A0_2 l0_2.length c0_2], .agg #[.int .i64 a2_0, .int .i64 a2_1]] rfl (by (try simp only [List.map_toArray, List.map_cons, List.map_nil]); first | done | rfl | (simp; done)) ?_; (with_reducible refine (grid_In.calls _ _ _ _ _ _ _ _ _ (RO.at_ HR0_2.out HK.out) HC0_2.out Hc11.out).mono ?_); rintro e_ w33 ⟨rfl, hb_⟩; refine ⟨_, rfl, ?_⟩; replace HS := Aside0.mk (HS.out.below hb_); replace HK := Aside0.mk (HK.out.trans (Keep.below hb_)); (try clear hz3000053_0_1 hz3000053_1_1 hz3000053_2_1); (try clear hz3000055_0_1 hz3000055_1_1); have hb_ := SL.at_ (SL.get2 HS.out); have hz3000053_0_2 := ((blk_cell hb_ 0).trans rfl : _ = some (.int .i64 a0_0)); have hz3000053_1_2 := ((blk_cell hb_ 1).trans rfl : _ = some (.int .i64 a0_1)); have hz3000053_2_2 := ((blk_cell hb_ 2).trans rfl : _ = some (.slice A0_2 l0_2.length c0_2)); clear hb_))
                refine start_ (n := 11) (S := fun w' => w'.cell? ⟨g3000053, 0, none⟩ = some (.int .i64 a0_0) ∧ w'.cell? ⟨g3000053, 1, none⟩ = some (.int .i64 a0_1) ∧ w'.cell? ⟨g3000053, 2, none⟩ = some (.slice A0_2 l0_2.length c0_2)) (ds := []) #[O,O,O,O,O,O,O,O,O,O,O] (by kernel_rfl) rfl rfl ⟨bc (SL.get2 HS.out) 0 rfl, bc (SL.get2 HS.out) 1 rfl, bc (SL.get2 HS.out) 2 rfl⟩ (fun hHeld => ?_); refine with_tabW barrowlaw07_SightWalls.tab5 barrowlaw07_SightWalls.bits5 (fun HT_ HW_ => ?_)
                replace HK := Aside0.mk (Keep.drew HK.out)
                replace HS := Aside0.mk (SL.drew HS.out)
                refine pure_ (i := 0) (N := some 39) (v := ?_) (a' := ?_) #[I,O,O,O,O,O,O,O,O,O,O] rfl rfl (any_of HT_.out (by kernel_rfl)) (fun _ _ _ h => h) (Or.inl ⟨by rfl, ?_⟩) ?_ ?_; rotate_left; · (intro w'; go_simp; with_reducible rfl)
                rotate_left; · (simp only [Act.put, sT, sZ, sS, i64_w, i32_w]; rfl)
                refine pure_ (i := 2) (N := some 41) (v := ?_) (a' := ?_) #[I,O,I,O,O,O,O,O,O,O,O] rfl rfl (any_of HT_.out (by kernel_rfl)) (fun _ _ _ h => h) (Or.inl ⟨by rfl, ?_⟩) ?_ ?_; rotate_left; · (intro w'; go_simp; with_reducible rfl)
                rotate_left; · (simp only [Act.put, sT, sZ, sS, i64_w, i32_w]; rfl)
                refine pure_ (i := 4) (N := some 43) (v := ?_) (a' := ?_) #[I,O,I,O,I,O,O,O,O,O,O] rfl rfl (any_of HT_.out (by kernel_rfl)) (fun _ _ _ h => h) (Or.inl ⟨by rfl, ?_⟩) ?_ ?_; rotate_left; · (intro w'; go_simp; with_reducible rfl)
                rotate_left; · (simp only [Act.put, sT, sZ, sS, i64_w, i32_w]; rfl)
                refine take_ (i := 1) (N := some 40) (v := ?_) (a' := ?_) #[I,I,I,O,I,O,O,O,O,O,O] rfl rfl (take_ofW HT_.out HW_.out (by kernel_rfl)) (fun _ _ _ h => h) (Or.inl ⟨by rfl, ?_⟩) hHeld ?_ ?_; rotate_left
                ·rintro w' ⟨s0, s1, s2⟩
                 go_simp
                 with_reducible rfl
                rotate_left; · (simp only [Act.put, sT, sZ, sS, i64_w, i32_w]; rfl)
                refine take_ (i := 3) (N := some 42) (v := ?_) (a' := ?_) #[I,I,I,I,I,O,O,O,O,O,O] rfl rfl (take_ofW HT_.out HW_.out (by kernel_rfl)) (fun _ _ _ h => h) (Or.inl ⟨by rfl, ?_⟩) hHeld ?_ ?_; rotate_left
                ·rintro w' ⟨s0, s1, s2⟩
                 go_simp
                 with_reducible rfl
                rotate_left; · (simp only [Act.put, sT, sZ, sS, i64_w, i32_w]; rfl)
                refine take_ (i := 5) (N := some 44) (v := ?_) (a' := ?_) #[I,I,I,I,I,I,O,O,O,O,O] rfl rfl (take_ofW HT_.out HW_.out (by kernel_rfl)) (fun _ _ _ h => h) (Or.inl ⟨by rfl, ?_⟩) hHeld ?_ ?_; rotate_left
                ·rintro w' ⟨s0, s1, s2⟩
                 go_simp
                 with_reducible rfl
                rotate_left; · (simp only [Act.put, sT, sZ, sS, i64_w, i32_w]; rfl)
                refine pure_ (i := 6) (N := some 45) (v := ?_) (a' := ?_) #[I,I,I,I,I,I,I,O,O,O,O] rfl rfl (any_of HT_.out (by kernel_rfl)) (fun _ _ _ h => h) (Or.inl ⟨by rfl, ?_⟩) ?_ ?_; rotate_left; · (intro w'; go_simp; with_reducible rfl)
                rotate_left; · (simp only [Act.put, sT, sZ, sS, i64_w, i32_w]; rfl)
                refine join_ (σ := Option Addr × Nat × Nat) 1 #[I,I,I,I,I,I,I,I,I,I,O] (fun s_ => [(46, .slice s_.1 y487.length s_.2.1), (47, .agg #[.int .i64 a0_0, .int .i64 a0_1, .slice s_.1 y487.length s_.2.1]), (11, .pointer (some ⟨s_.2.2, 0, none⟩))]) (fun s_ w_ => Keep S w w_ ∧ SL (row Kd.bool 4 (.slice s_.1 y487.length s_.2.1) y487 :: cells s_.2.2 24 [.int .i64 0, .int .i64 0, .slice none 0 0].toArray :: cells g3000055 26 [.int .i64 a2_0, .int .i64 a2_1].toArray :: cells g3000054 26 [.int .i64 a1_0, .int .i64 a1_1].toArray :: cells g3000053 24 [.int .i64 a0_0, .int .i64 a0_1, .slice A0_2 l0_2.length c0_2].toArray :: L) w_ S) ?_ ?_; rotate_left
                ·intro hCont
                 refine two_ (i := 7) (j := 9) (Ni := some 46) (Nj := some 11) #[I,I,I,I,I,I,I,I,O,O,O] #[I,I,I,I,I,I,I,O,O,I,O] rfl rfl rfl rfl (two_of HT_.out (by kernel_rfl)) (by decide) (by decide) (fun K hK => ?_) (fun K hK => ?_)
                 ·skip
                  refine st_of (by rfl) ?_
                  refine op_make (S := S) (enc := Value.bool) (h1 := fun _ => rfl) false 22 4 1 (.tmp 45) (.tmp 45) rfl Try.underlying22 (by kernel_rfl) rfl (by decide) (j486) rfl rfl (of_decide_eq_true (by first | (with_reducible assumption) | assumption)) (by have := LMc17.out; omega) y487 Ny487.out (HF.out.keep HK.out) HS.out ?_
                  intro Az3000056 cz3000056 w51 hs_ hk_
                  replace HS := Aside0.mk ((show SL (row Kd.bool 4 (.slice Az3000056 y487.length cz3000056) y487 :: _) _ _ from hs_))
                  replace HK := Aside0.mk (HK.out.trans hk_)
                  refine hK.out _ _ ⟨bc (SL.get3 HS.out) 0 rfl, bc (SL.get3 HS.out) 1 rfl, bc (SL.get3 HS.out) 2 rfl⟩ (fun hHeld => ?_)
                  clear hK K
                  refine norm_ (a' := ?_) ?_ ?_; rotate_left
                  ·show Act.put _ (some 46) _ = _
                   simp only [Act.put, sT, sZ, sS, i64_w, i32_w]
                   rfl
                  refine pure_ (i := 8) (N := some 47) (v := ?_) (a' := ?_) #[I,I,I,I,I,I,I,I,I,O,O] rfl rfl (any_of HT_.out (by kernel_rfl)) (fun _ _ _ h => h) (Or.inl ⟨by rfl, ?_⟩) ?_ ?_; rotate_left; · (intro w'; go_simp; with_reducible rfl)
                  rotate_left; · (simp only [Act.put, sT, sZ, sS, i64_w, i32_w]; rfl)
                  refine one_ (i := 9) (N := some 11) #[I,I,I,I,I,I,I,I,I,I,O] rfl rfl (one_of HT_.out (by kernel_rfl)) (by decide) (fun K hK => ?_)
                  replace HS := Aside0.mk (SL.get3 (SL.get3 (SL.get3 HS.out)))
                  refine st_of (by rfl) ?_
                  refine op_box (S := S) (cs := #[.int .i64 0, .int .i64 0, .slice none 0 0]) (t := 24) (HF.out.keep HK.out) HS.out (by first | (go_simp; done) | (go_simp; rfl)) ?_
                  intro g3000057 w52 hs_ hk_
                  replace HS := Aside0.mk (hs_)
                  replace HK := Aside0.mk (HK.out.trans hk_)
                  refine hK.out _ _ ⟨bc (SL.get3 HS.out) 0 rfl, bc (SL.get3 HS.out) 1 rfl, bc (SL.get3 HS.out) 2 rfl⟩ (fun hHeld => ?_)
                  clear hK K
                  refine norm_ (a' := ?_) ?_ ?_; rotate_left
                  ·show Act.put _ (some 11) _ = _
                   simp only [Act.put, sT, sZ, sS, i64_w, i32_w]
                   rfl
                  exact norm_ (by simp only [putAll, Act.put, sT, sZ, sS]) (hCont (Az3000056, cz3000056, g3000057) _ ⟨HK.out, (SL.get4 (SL.get3 (SL.get3 (SL.get3 (SL.get3 HS.out)))))⟩)
                 ·skip
                  refine st_of (by rfl) ?_
                  refine op_box (S := S) (cs := #[.int .i64 0, .int .i64 0, .slice none 0 0]) (t := 24) (HF.out.keep HK.out) HS.out (by first | (go_simp; done) | (go_simp; rfl)) ?_
                  intro g3000057 w53 hs_ hk_
                  replace HS := Aside0.mk (hs_)
                  replace HK := Aside0.mk (HK.out.trans hk_)
                  refine hK.out _ _ ⟨bc (SL.get3 HS.out) 0 rfl, bc (SL.get3 HS.out) 1 rfl, bc (SL.get3 HS.out) 2 rfl⟩ (fun hHeld => ?_)
                  clear hK K
                  refine norm_ (a' := ?_) ?_ ?_; rotate_left
                  ·show Act.put _ (some 11) _ = _
                   simp only [Act.put, sT, sZ, sS, i64_w, i32_w]
                   rfl
                  refine one_ (i := 7) (N := some 46) #[I,I,I,I,I,I,I,I,O,I,O] rfl rfl (one_of HT_.out (by kernel_rfl)) (by decide) (fun K hK => ?_)
                  replace HS := Aside0.mk (SL.get3 (SL.get3 (SL.get3 HS.out)))
                  refine st_of (by rfl) ?_
                  refine op_make (S := S) (enc := Value.bool) (h1 := fun _ => rfl) false 22 4 1 (.tmp 45) (.tmp 45) rfl Try.underlying22 (by kernel_rfl) rfl (by decide) (j486) rfl rfl (of_decide_eq_true (by first | (with_reducible assumption) | assumption)) (by have := LMc17.out; omega) y487 Ny487.out (HF.out.keep HK.out) HS.out ?_
                  intro Az3000056 cz3000056 w54 hs_ hk_
                  replace HS := Aside0.mk ((show SL (row Kd.bool 4 (.slice Az3000056 y487.length cz3000056) y487 :: _) _ _ from hs_))
                  replace HK := Aside0.mk (HK.out.trans hk_)
                  refine hK.out _ _ ⟨bc (SL.get3 HS.out) 0 rfl, bc (SL.get3 HS.out) 1 rfl, bc (SL.get3 HS.out) 2 rfl⟩ (fun hHeld => ?_)
                  clear hK K
                  refine norm_ (a' := ?_) ?_ ?_; rotate_left
                  ·show Act.put _ (some 46) _ = _
                   simp only [Act.put, sT, sZ, sS, i64_w, i32_w]
                   rfl
                  refine pure_ (i := 8) (N := some 47) (v := ?_) (a' := ?_) #[I,I,I,I,I,I,I,I,I,I,O] rfl rfl (any_of HT_.out (by kernel_rfl)) (fun _ _ _ h => h) (Or.inl ⟨by rfl, ?_⟩) ?_ ?_; rotate_left; · (intro w'; go_simp; with_reducible rfl)
                  rotate_left; · (simp only [Act.put, sT, sZ, sS, i64_w, i32_w]; rfl)
                  exact norm_ (by simp only [putAll, Act.put, sT, sZ, sS]) (hCont (Az3000056, cz3000056, g3000057) _ ⟨HK.out, (SL.get4 (SL.get4 (SL.get3 (SL.get3 (SL.get3 HS.out)))))⟩)
                rintro ⟨Az3000056, cz3000056, g3000057⟩ w50 ⟨hk_, hs_⟩
                clear HK HS
                have HK := Aside0.mk hk_
                have HS := Aside0.mk hs_
                clear hk_ hs_
                have hHeld := (⟨bc (SL.get4 HS.out) 0 rfl, bc (SL.get4 HS.out) 1 rfl, bc (SL.get4 HS.out) 2 rfl⟩ : w50.cell? ⟨g3000053, 0, none⟩ = some (.int .i64 a0_0) ∧ w50.cell? ⟨g3000053, 1, none⟩ = some (.int .i64 a0_1) ∧ w50.cell? ⟨g3000053, 2, none⟩ = some (.slice A0_2 l0_2.length c0_2))
                replace HS := Aside0.mk (SL.get4 (SL.get3 (SL.get4 (SL.get4 (SL.get4 HS.out)))))
                refine norm_ (a' := ?_) ?_ ?_; rotate_left; · (simp only [putAll, Act.put, sT, sZ, sS]; rfl)
                refine one_ (i := 10) (N := none) #[I,I,I,I,I,I,I,I,I,I,I] rfl rfl (one_of HT_.out (by kernel_rfl)) (by decide) (fun K hK => ?_)
                refine st_of (by rfl) ?_
                refine op_store (S := S) 24 (.tmp 11) (.tmp 47) rfl g3000057 0 (.agg #[.int .i64 a0_0, .int .i64 a0_1, .slice Az3000056 y487.length cz3000056]) [.int .i64 a0_0, .int .i64 a0_1, .slice Az3000056 y487.length cz3000056] rfl rfl rfl (by kernel_rfl) (by simp [Value.oneCell']) HS.out (by simp) ?_
                intro w36 hs_ hk_
                replace HS := Aside0.mk ((show SL (cells g3000057 24 [.int .i64 a0_0, .int .i64 a0_1, .slice Az3000056 y487.length cz3000056].toArray :: _) _ _ from hs_))
                replace HK := Aside0.mk (HK.out.trans hk_)
                refine hK.out _ _ ⟨bc (SL.get4 HS.out) 0 rfl, bc (SL.get4 HS.out) 1 rfl, bc (SL.get4 HS.out) 2 rfl⟩ (fun hHeld => ?_)
                clear hK K
                refine done_ (done_of HT_.out (by kernel_rfl)) ?_
                try go_wp2
                refine start_ (n := 11) (S := fun w' => w'.cell? ⟨g3000053, 0, none⟩ = some (.int .i64 a0_0) ∧ w'.cell? ⟨g3000053, 1, none⟩ = some (.int .i64 a0_1) ∧ w'.cell? ⟨g3000053, 2, none⟩ = some (.slice A0_2 l0_2.length c0_2)) (ds := []) #[O,O,O,O,O,O,O,O,O,O,O] (by kernel_rfl) rfl rfl ⟨bc (SL.get4 HS.out) 0 rfl, bc (SL.get4 HS.out) 1 rfl, bc (SL.get4 HS.out) 2 rfl⟩ (fun hHeld => ?_); refine with_tabW barrowlaw07_SightWalls.tab6 barrowlaw07_SightWalls.bits6 (fun HT_ HW_ => ?_)
                replace HK := Aside0.mk (Keep.drew HK.out)
                replace HS := Aside0.mk (SL.drew HS.out)
                refine pure_ (i := 0) (N := some 48) (v := ?_) (a' := ?_) #[I,O,O,O,O,O,O,O,O,O,O] rfl rfl (any_of HT_.out (by kernel_rfl)) (fun _ _ _ h => h) (Or.inl ⟨by rfl, ?_⟩) ?_ ?_; rotate_left; · (intro w'; go_simp; with_reducible rfl)
                rotate_left; · (simp only [Act.put, sT, sZ, sS, i64_w, i32_w]; rfl)
                refine pure_ (i := 2) (N := some 50) (v := ?_) (a' := ?_) #[I,O,I,O,O,O,O,O,O,O,O] rfl rfl (any_of HT_.out (by kernel_rfl)) (fun _ _ _ h => h) (Or.inl ⟨by rfl, ?_⟩) ?_ ?_; rotate_left; · (intro w'; go_simp; with_reducible rfl)
                rotate_left; · (simp only [Act.put, sT, sZ, sS, i64_w, i32_w]; rfl)
                refine pure_ (i := 5) (N := some 53) (v := ?_) (a' := ?_) #[I,O,I,O,O,I,O,O,O,O,O] rfl rfl (any_of HT_.out (by kernel_rfl)) (fun _ _ _ h => h) (Or.inl ⟨by rfl, ?_⟩) ?_ ?_; rotate_left; · (intro w'; go_simp; with_reducible rfl)
                rotate_left; · (simp only [Act.put, sT, sZ, sS, i64_w, i32_w]; rfl)
                refine take_ (i := 1) (N := some 49) (v := ?_) (a' := ?_) #[I,I,I,O,O,I,O,O,O,O,O] rfl rfl (take_ofW HT_.out HW_.out (by kernel_rfl)) (fun _ _ _ h => h) (Or.inl ⟨by rfl, ?_⟩) hHeld ?_ ?_; rotate_left
                ·rintro w' ⟨s0, s1, s2⟩
                 go_simp
                 with_reducible rfl
                rotate_left; · (simp only [Act.put, sT, sZ, sS, i64_w, i32_w]; rfl)
                refine take_ (i := 3) (N := some 51) (v := ?_) (a' := ?_) #[I,I,I,I,O,I,O,O,O,O,O] rfl rfl (take_ofW HT_.out HW_.out (by kernel_rfl)) (fun _ _ _ h => h) (Or.inl ⟨by rfl, ?_⟩) hHeld ?_ ?_; rotate_left
                ·rintro w' ⟨s0, s1, s2⟩
                 go_simp
                 with_reducible rfl
                rotate_left; · (simp only [Act.put, sT, sZ, sS, i64_w, i32_w]; rfl)
                refine take_ (i := 6) (N := some 54) (v := ?_) (a' := ?_) #[I,I,I,I,O,I,I,O,O,O,O] rfl rfl (take_ofW HT_.out HW_.out (by kernel_rfl)) (fun _ _ _ h => h) (Or.inl ⟨by rfl, ?_⟩) hHeld ?_ ?_; rotate_left
                ·rintro w' ⟨s0, s1, s2⟩
                 go_simp
                 with_reducible rfl
                rotate_left; · (simp only [Act.put, sT, sZ, sS, i64_w, i32_w]; rfl)
                refine join_ (σ := Option Addr × Nat × Option Addr × Nat × Nat) 1 #[I,I,I,I,I,I,I,I,I,I,O] (fun s_ => [(52, .slice s_.2.2.1 0 s_.2.2.2.1), (55, .slice s_.1 y489.length s_.2.1), (56, .agg #[.int .i64 a0_0, .int .i64 a0_1, .slice s_.1 y489.length s_.2.1]), (12, .pointer (some ⟨s_.2.2.2.2, 0, none⟩))]) (fun s_ w_ => Keep S w w_ ∧ SL (row Kd.bool 4 (.slice s_.1 y489.length s_.2.1) y489 :: cells s_.2.2.2.2 24 [.int .i64 0, .int .i64 0, .slice none 0 0].toArray :: cells g3000057 24 [.int .i64 a0_0, .int .i64 a0_1, .slice Az3000056 y487.length cz3000056].toArray :: row Kd.bool 4 (.slice Az3000056 y487.length cz3000056) y487 :: cells g3000055 26 [.int .i64 a2_0, .int .i64 a2_1].toArray :: cells g3000054 26 [.int .i64 a1_0, .int .i64 a1_1].toArray :: cells g3000053 24 [.int .i64 a0_0, .int .i64 a0_1, .slice A0_2 l0_2.length c0_2].toArray :: L) w_ S) ?_ ?_; rotate_left
                ·intro hCont
                 refine two_ (i := 4) (j := 9) (Ni := some 52) (Nj := some 12) #[I,I,I,I,I,I,I,O,O,O,O] #[I,I,I,I,O,I,I,O,O,I,O] rfl rfl rfl rfl (two_of HT_.out (by kernel_rfl)) (by decide) (by decide) (fun K hK => ?_) (fun K hK => ?_)
                 ·skip
                  refine st_of (by rfl) ?_
                  refine op_row (S := S) (enc := Value.bool) (h1 := fun _ => rfl) 4 y488 #[] 0 (by rw [← Ny488.out]; rfl) (by rw [← Ny488.out]; rfl) (by decide) (HF.out.keep HK.out) HS.out (by first | (go_simp; done) | (go_simp; rfl)) ?_
                  intro Az3000058 cz3000058 w56 hs_ hk_
                  replace HS := Aside0.mk ((show SL (row Kd.bool 4 (.slice Az3000058 0 cz3000058) y488 :: _) _ _ from hs_))
                  replace HK := Aside0.mk (HK.out.trans hk_)
                  refine hK.out _ _ ⟨bc (SL.get5 HS.out) 0 rfl, bc (SL.get5 HS.out) 1 rfl, bc (SL.get5 HS.out) 2 rfl⟩ (fun hHeld => ?_)
                  clear hK K
                  refine norm_ (a' := ?_) ?_ ?_; rotate_left
                  ·show Act.put _ (some 52) _ = _
                   simp only [Act.put, sT, sZ, sS, i64_w, i32_w]
                   rfl
                  refine two_ (i := 7) (j := 9) (Ni := some 55) (Nj := some 12) #[I,I,I,I,I,I,I,I,O,O,O] #[I,I,I,I,I,I,I,O,O,I,O] rfl rfl rfl rfl (two_of HT_.out (by kernel_rfl)) (by decide) (by decide) (fun K hK => ?_) (fun K hK => ?_)
                  ·skip
                   replace HS := Aside0.mk (SL.get5 (SL.get5 (SL.get5 (SL.get5 (SL.get5 HS.out)))))
                   refine st_of (by rfl) ?_
                   refine op_append (S := S) (enc := Value.bool) (h1 := fun _ => rfl) false (.tmp 52) (.tmp 54) 22 4 (.bool false) 1 rfl Try.underlying22 info4 rfl (by decide) (.slice Az3000058 0 cz3000058) rfl rfl (HF.out.keep HK.out) (SL.get5 HS.out) (RO.at_ HR0_2.out HK.out) (by have := LMc18.out; omega) y489 Ny489.out ?_
                   intro A490 c491 w57 hs_ hk_
                   replace HS := Aside0.mk ((SL.back5 (show SL (row Kd.bool 4 (.slice A490 y489.length c491) y489 :: _) _ _ from hs_)))
                   replace HK := Aside0.mk (HK.out.trans hk_)
                   refine hK.out _ _ ⟨bc (SL.get4 HS.out) 0 rfl, bc (SL.get4 HS.out) 1 rfl, bc (SL.get4 HS.out) 2 rfl⟩ (fun hHeld => ?_)
                   clear hK K
                   refine norm_ (a' := ?_) ?_ ?_; rotate_left
                   ·show Act.put _ (some 55) _ = _
                    simp only [Act.put, sT, sZ, sS, i64_w, i32_w]
                    rfl
                   refine pure_ (i := 8) (N := some 56) (v := ?_) (a' := ?_) #[I,I,I,I,I,I,I,I,I,O,O] rfl rfl (any_of HT_.out (by kernel_rfl)) (fun _ _ _ h => h) (Or.inl ⟨by rfl, ?_⟩) ?_ ?_; rotate_left; · (intro w'; go_simp; with_reducible rfl)
                   rotate_left; · (simp only [Act.put, sT, sZ, sS, i64_w, i32_w]; rfl)
                   refine one_ (i := 9) (N := some 12) #[I,I,I,I,I,I,I,I,I,I,O] rfl rfl (one_of HT_.out (by kernel_rfl)) (by decide) (fun K hK => ?_)
                   refine st_of (by rfl) ?_
                   refine op_box (S := S) (cs := #[.int .i64 0, .int .i64 0, .slice none 0 0]) (t := 24) (HF.out.keep HK.out) HS.out (by first | (go_simp; done) | (go_simp; rfl)) ?_
                   intro g3000059 w58 hs_ hk_
                   replace HS := Aside0.mk (hs_)
                   replace HK := Aside0.mk (HK.out.trans hk_)
                   refine hK.out _ _ ⟨bc (SL.get5 HS.out) 0 rfl, bc (SL.get5 HS.out) 1 rfl, bc (SL.get5 HS.out) 2 rfl⟩ (fun hHeld => ?_)
                   clear hK K
                   refine norm_ (a' := ?_) ?_ ?_; rotate_left
                   ·show Act.put _ (some 12) _ = _
                    simp only [Act.put, sT, sZ, sS, i64_w, i32_w]
                    rfl
                   exact norm_ (by simp only [putAll, Act.put, sT, sZ, sS]) (hCont (A490, c491, Az3000058, cz3000058, g3000059) _ ⟨HK.out, (SL.get6 (SL.get5 (SL.get5 (SL.get5 (SL.get5 (SL.get5 (SL.get5 HS.out)))))))⟩)
                  ·skip
                   replace HS := Aside0.mk (SL.get5 (SL.get5 (SL.get5 (SL.get5 (SL.get5 HS.out)))))
                   refine st_of (by rfl) ?_
                   refine op_box (S := S) (cs := #[.int .i64 0, .int .i64 0, .slice none 0 0]) (t := 24) (HF.out.keep HK.out) HS.out (by first | (go_simp; done) | (go_simp; rfl)) ?_
                   intro g3000059 w59 hs_ hk_
                   replace HS := Aside0.mk (hs_)
                   replace HK := Aside0.mk (HK.out.trans hk_)
                   refine hK.out _ _ ⟨bc (SL.get5 HS.out) 0 rfl, bc (SL.get5 HS.out) 1 rfl, bc (SL.get5 HS.out) 2 rfl⟩ (fun hHeld => ?_)
                   clear hK K
                   refine norm_ (a' := ?_) ?_ ?_; rotate_left
                   ·show Act.put _ (some 12) _ = _
                    simp only [Act.put, sT, sZ, sS, i64_w, i32_w]
                    rfl
                   refine one_ (i := 7) (N := some 55) #[I,I,I,I,I,I,I,I,O,I,O] rfl rfl (one_of HT_.out (by kernel_rfl)) (by decide) (fun K hK => ?_)
                   replace HS := Aside0.mk (SL.get6 (SL.get6 (SL.get6 (SL.get6 (SL.get6 (SL.get6 HS.out))))))
                   refine st_of (by rfl) ?_
                   refine op_append (S := S) (enc := Value.bool) (h1 := fun _ => rfl) false (.tmp 52) (.tmp 54) 22 4 (.bool false) 1 rfl Try.underlying22 info4 rfl (by decide) (.slice Az3000058 0 cz3000058) rfl rfl (HF.out.keep HK.out) (SL.get5 HS.out) (RO.at_ HR0_2.out HK.out) (by have := LMc18.out; omega) y489 Ny489.out ?_
                   intro A490 c491 w60 hs_ hk_
                   replace HS := Aside0.mk ((SL.back5 (show SL (row Kd.bool 4 (.slice A490 y489.length c491) y489 :: _) _ _ from hs_)))
                   replace HK := Aside0.mk (HK.out.trans hk_)
                   refine hK.out _ _ ⟨bc (SL.get4 HS.out) 0 rfl, bc (SL.get4 HS.out) 1 rfl, bc (SL.get4 HS.out) 2 rfl⟩ (fun hHeld => ?_)
                   clear hK K
                   refine norm_ (a' := ?_) ?_ ?_; rotate_left
                   ·show Act.put _ (some 55) _ = _
                    simp only [Act.put, sT, sZ, sS, i64_w, i32_w]
                    rfl
                   refine pure_ (i := 8) (N := some 56) (v := ?_) (a' := ?_) #[I,I,I,I,I,I,I,I,I,I,O] rfl rfl (any_of HT_.out (by kernel_rfl)) (fun _ _ _ h => h) (Or.inl ⟨by rfl, ?_⟩) ?_ ?_; rotate_left; · (intro w'; go_simp; with_reducible rfl)
                   rotate_left; · (simp only [Act.put, sT, sZ, sS, i64_w, i32_w]; rfl)
                   exact norm_ (by simp only [putAll, Act.put, sT, sZ, sS]) (hCont (A490, c491, Az3000058, cz3000058, g3000059) _ ⟨HK.out, (SL.get6 (SL.get6 (SL.get4 (SL.get4 (SL.get4 (SL.get4 (SL.get4 HS.out)))))))⟩)
                 ·skip
                  refine st_of (by rfl) ?_
                  refine op_box (S := S) (cs := #[.int .i64 0, .int .i64 0, .slice none 0 0]) (t := 24) (HF.out.keep HK.out) HS.out (by first | (go_simp; done) | (go_simp; rfl)) ?_
                  intro g3000059 w61 hs_ hk_
                  replace HS := Aside0.mk (hs_)
                  replace HK := Aside0.mk (HK.out.trans hk_)
                  refine hK.out _ _ ⟨bc (SL.get5 HS.out) 0 rfl, bc (SL.get5 HS.out) 1 rfl, bc (SL.get5 HS.out) 2 rfl⟩ (fun hHeld => ?_)
                  clear hK K
                  refine norm_ (a' := ?_) ?_ ?_; rotate_left
                  ·show Act.put _ (some 12) _ = _
                   simp only [Act.put, sT, sZ, sS, i64_w, i32_w]
                   rfl
                  refine one_ (i := 4) (N := some 52) #[I,I,I,I,I,I,I,O,O,I,O] rfl rfl (one_of HT_.out (by kernel_rfl)) (by decide) (fun K hK => ?_)
                  replace HS := Aside0.mk (SL.get5 (SL.get5 (SL.get5 (SL.get5 (SL.get5 HS.out)))))
                  refine st_of (by rfl) ?_
                  refine op_row (S := S) (enc := Value.bool) (h1 := fun _ => rfl) 4 y488 #[] 0 (by rw [← Ny488.out]; rfl) (by rw [← Ny488.out]; rfl) (by decide) (HF.out.keep HK.out) HS.out (by first | (go_simp; done) | (go_simp; rfl)) ?_
                  intro Az3000058 cz3000058 w62 hs_ hk_
                  replace HS := Aside0.mk ((show SL (row Kd.bool 4 (.slice Az3000058 0 cz3000058) y488 :: _) _ _ from hs_))
                  replace HK := Aside0.mk (HK.out.trans hk_)
                  refine hK.out _ _ ⟨bc (SL.get5 HS.out) 0 rfl, bc (SL.get5 HS.out) 1 rfl, bc (SL.get5 HS.out) 2 rfl⟩ (fun hHeld => ?_)
                  clear hK K
                  refine norm_ (a' := ?_) ?_ ?_; rotate_left
                  ·show Act.put _ (some 52) _ = _
                   simp only [Act.put, sT, sZ, sS, i64_w, i32_w]
                   rfl
                  refine one_ (i := 7) (N := some 55) #[I,I,I,I,I,I,I,I,O,I,O] rfl rfl (one_of HT_.out (by kernel_rfl)) (by decide) (fun K hK => ?_)
                  replace HS := Aside0.mk (SL.get6 (SL.get6 (SL.get6 (SL.get6 (SL.get6 (SL.get6 HS.out))))))
                  refine st_of (by rfl) ?_
                  refine op_append (S := S) (enc := Value.bool) (h1 := fun _ => rfl) false (.tmp 52) (.tmp 54) 22 4 (.bool false) 1 rfl Try.underlying22 info4 rfl (by decide) (.slice Az3000058 0 cz3000058) rfl rfl (HF.out.keep HK.out) (SL.get6 HS.out) (RO.at_ HR0_2.out HK.out) (by have := LMc18.out; omega) y489 Ny489.out ?_
                  intro A490 c491 w63 hs_ hk_
                  replace HS := Aside0.mk ((SL.back6 (show SL (row Kd.bool 4 (.slice A490 y489.length c491) y489 :: _) _ _ from hs_)))
                  replace HK := Aside0.mk (HK.out.trans hk_)
                  refine hK.out _ _ ⟨bc (SL.get4 HS.out) 0 rfl, bc (SL.get4 HS.out) 1 rfl, bc (SL.get4 HS.out) 2 rfl⟩ (fun hHeld => ?_)
                  clear hK K
                  refine norm_ (a' := ?_) ?_ ?_; rotate_left
                  ·show Act.put _ (some 55) _ = _
                   simp only [Act.put, sT, sZ, sS, i64_w, i32_w]
                   rfl
                  refine pure_ (i := 8) (N := some 56) (v := ?_) (a' := ?_) #[I,I,I,I,I,I,I,I,I,I,O] rfl rfl (any_of HT_.out (by kernel_rfl)) (fun _ _ _ h => h) (Or.inl ⟨by rfl, ?_⟩) ?_ ?_; rotate_left; · (intro w'; go_simp; with_reducible rfl)
                  rotate_left; · (simp only [Act.put, sT, sZ, sS, i64_w, i32_w]; rfl)
                  exact norm_ (by simp only [putAll, Act.put, sT, sZ, sS]) (hCont (A490, c491, Az3000058, cz3000058, g3000059) _ ⟨HK.out, (SL.get6 (SL.get5 (SL.get4 (SL.get4 (SL.get4 (SL.get4 (SL.get4 HS.out)))))))⟩)
                rintro ⟨A490, c491, Az3000058, cz3000058, g3000059⟩ w55 ⟨hk_, hs_⟩
                clear HK HS
                have HK := Aside0.mk hk_
                have HS := Aside0.mk hs_
                clear hk_ hs_
                have hHeld := (⟨bc (SL.get6 HS.out) 0 rfl, bc (SL.get6 HS.out) 1 rfl, bc (SL.get6 HS.out) 2 rfl⟩ : w55.cell? ⟨g3000053, 0, none⟩ = some (.int .i64 a0_0) ∧ w55.cell? ⟨g3000053, 1, none⟩ = some (.int .i64 a0_1) ∧ w55.cell? ⟨g3000053, 2, none⟩ = some (.slice A0_2 l0_2.length c0_2))
                replace HS := Aside0.mk (SL.get6 (SL.get5 (SL.get6 (SL.get6 (SL.get6 (SL.get6 (SL.get6 HS.out)))))))
                refine norm_ (a' := ?_) ?_ ?_; rotate_left; · (simp only [putAll, Act.put, sT, sZ, sS]; rfl)
                refine one_ (i := 10) (N := none) #[I,I,I,I,I,I,I,I,I,I,I] rfl rfl (one_of HT_.out (by kernel_rfl)) (by decide) (fun K hK => ?_)
                refine st_of (by rfl) ?_
                refine op_store (S := S) 24 (.tmp 12) (.tmp 56) rfl g3000059 0 (.agg #[.int .i64 a0_0, .int .i64 a0_1, .slice A490 y489.length c491]) [.int .i64 a0_0, .int .i64 a0_1, .slice A490 y489.length c491] rfl rfl rfl (by kernel_rfl) (by simp [Value.oneCell']) HS.out (by simp) ?_
                intro w40 hs_ hk_
                replace HS := Aside0.mk ((show SL (cells g3000059 24 [.int .i64 a0_0, .int .i64 a0_1, .slice A490 y489.length c491].toArray :: _) _ _ from hs_))
                replace HK := Aside0.mk (HK.out.trans hk_)
                refine hK.out _ _ ⟨bc (SL.get6 HS.out) 0 rfl, bc (SL.get6 HS.out) 1 rfl, bc (SL.get6 HS.out) 2 rfl⟩ (fun hHeld => ?_)
                clear hK K
                refine done_ (done_of HT_.out (by kernel_rfl)) ?_
                try go_wp2
                have pq493 : 0 ≤ (j492 : Int) := of_decide_eq_true (by first | (with_reducible assumption) | assumption)
                have qq493 : j492 < ((y489.length : Int) : Int) := of_decide_eq_true (by first | (with_reducible assumption) | assumption)
                obtain ⟨adq493, eq493, hxq493_0⟩ := Kd.at_bool (SL.row_c (SL.get1 HS.out)).2.2 j492 pq493 qq493
                cases eq493
                replace pq493 := eq_true pq493
                replace qq493 := eq_true qq493
                refine start_ (n := 10) (S := fun w' => w'.cell? ⟨g3000059, 2, none⟩ = some (.slice (some adq493) y489.length c491) ∧ w'.cell? (adq493.add j492.toNat) = some (.bool (rdOf false y489 j492))) (ds := [9]) #[O,O,O,O,O,O,O,O,O,O] (by kernel_rfl) rfl rfl ⟨bc HS.out 2 rfl, (SL.cell_sc (enc := Value.bool) (h1 := fun _ => rfl) false (SL.get1 HS.out) j492 (of_eq_true pq493) (of_eq_true qq493))⟩ (fun hHeld => ?_); refine with_tabW barrowlaw07_SightWalls.tab7 barrowlaw07_SightWalls.bits7 (fun HT_ HW_ => ?_)
                replace HK := Aside0.mk (Keep.drew HK.out)
                replace HS := Aside0.mk (SL.drew HS.out)
                refine pure_ (i := 0) (N := some 57) (v := ?_) (a' := ?_) #[I,O,O,O,O,O,O,O,O,O] rfl rfl (any_of HT_.out (by kernel_rfl)) (fun _ _ _ h => h) (Or.inl ⟨by rfl, ?_⟩) ?_ ?_; rotate_left; · (intro w'; go_simp; with_reducible rfl)
                rotate_left; · (simp only [Act.put, sT, sZ, sS, i64_w, i32_w]; rfl)
                refine pure_ (i := 2) (N := some 59) (v := ?_) (a' := ?_) #[I,O,I,O,O,O,O,O,O,O] rfl rfl (any_of HT_.out (by kernel_rfl)) (fun _ _ _ h => h) (Or.inl ⟨by rfl, ?_⟩) ?_ ?_; rotate_left; · (intro w'; go_simp; with_reducible rfl)
                rotate_left; · (simp only [Act.put, sT, sZ, sS, i64_w, i32_w]; rfl)
                refine pure_ (i := 3) (N := some 60) (v := ?_) (a' := ?_) #[I,O,I,I,O,O,O,O,O,O] rfl rfl (any_of HT_.out (by kernel_rfl)) (fun _ _ _ h => h) (Or.inl ⟨by rfl, ?_⟩) ?_ ?_; rotate_left; · (intro w'; go_simp; with_reducible rfl)
                rotate_left; · (simp only [Act.put, sT, sZ, sS, i64_w, i32_w]; rfl)
                refine pure_ (i := 4) (N := some 61) (v := ?_) (a' := ?_) #[I,O,I,I,I,O,O,O,O,O] rfl rfl (any_of HT_.out (by kernel_rfl)) (fun _ _ _ h => h) (Or.inl ⟨by rfl, ?_⟩) ?_ ?_; rotate_left; · (intro w'; go_simp; with_reducible rfl)
                rotate_left; · (simp only [Act.put, sT, sZ, sS, i64_w, i32_w]; rfl)
                refine take_ (i := 1) (N := some 58) (v := ?_) (a' := ?_) #[I,I,I,I,I,O,O,O,O,O] rfl rfl (take_ofW HT_.out HW_.out (by kernel_rfl)) (fun _ _ _ h => h) (Or.inl ⟨by rfl, ?_⟩) hHeld ?_ ?_; rotate_left
                ·rintro w' ⟨s0, s1⟩
                 go_simp
                 with_reducible rfl
                rotate_left; · (simp only [Act.put, sT, sZ, sS, i64_w, i32_w]; rfl)
                refine take_ (i := 5) (N := some 62) (v := ?_) (a' := ?_) #[I,I,I,I,I,I,O,O,O,O] rfl rfl (take_ofW HT_.out HW_.out (by kernel_rfl)) (fun _ _ _ h => h) (Or.inl ⟨by rfl, ?_⟩) hHeld ?_ ?_; rotate_left
                ·rintro w' ⟨s0, s1⟩
                 go_simp
                 with_reducible rfl
                rotate_left; · (simp only [Act.put, sT, sZ, sS, i64_w, i32_w]; rfl)
                refine pure_ (i := 6) (N := some 63) (v := ?_) (a' := ?_) #[I,I,I,I,I,I,I,O,O,O] rfl rfl (any_of HT_.out (by kernel_rfl)) (fun _ _ _ h => h) (Or.inl ⟨by rfl, ?_⟩) ?_ ?_; rotate_left; · (intro w'; go_simp; with_reducible rfl)
                rotate_left; · (simp only [Act.put, sT, sZ, sS, i64_w, i32_w]; rfl)
                refine pure_ (i := 7) (N := some 64) (v := ?_) (a' := ?_) #[I,I,I,I,I,I,I,I,O,O] rfl rfl (any_of HT_.out (by kernel_rfl)) (fun _ _ _ h => h) (Or.inl ⟨by rfl, ?_⟩) ?_ ?_; rotate_left; · (intro w'; go_simp; with_reducible rfl)
                rotate_left; · (simp only [Act.put, sT, sZ, sS, i64_w, i32_w]; rfl)
                refine pure_ (i := 8) (N := some 65) (v := ?_) (a' := ?_) #[I,I,I,I,I,I,I,I,I,O] rfl rfl (any_of HT_.out (by kernel_rfl)) (fun _ _ _ h => h) (Or.inl ⟨by rfl, ?_⟩) ?_ ?_; rotate_left; · (intro w'; go_simp; with_reducible rfl)
                rotate_left; · (simp only [Act.put, sT, sZ, sS, i64_w, i32_w]; rfl)
                refine last_ (i := 9) (N := none) #[I,I,I,I,I,I,I,I,I,I] rfl rfl (one_of HT_.out (by kernel_rfl)) (by decide) (fun K hK => ?_)
                refine st_of (by rfl) ?_
                refine op_set (S := S) (enc := Value.bool) (h1 := fun _ => rfl) 4 (.tmp 65) (.const (.bool true)) rfl adq493 (j492) true (SL.get1 HS.out) (by rfl) rfl (by kernel_rfl) (of_decide_eq_true (by first | (with_reducible assumption) | assumption)) (of_decide_eq_true (by first | (with_reducible assumption) | assumption)) y494 Ny494.out ?_
                intro w41 hs_ hk_
                replace HS := Aside0.mk ((SL.back1 (show SL (row Kd.bool 4 (.slice (some adq493) y489.length c491) y494 :: _) _ _ from hs_)))
                replace HK := Aside0.mk (HK.out.trans hk_)
                refine hK.out _ _ ?_
                clear hK K
                refine done_ (done_of HT_.out (by kernel_rfl)) ?_
                have hb_ := SL.at_ (SL.get4 HS.out)
                have hz3000055_0_13 := ((blk_cell hb_ 0).trans rfl : _ = some (.int .i64 a2_0))
                have hz3000055_1_13 := ((blk_cell hb_ 1).trans rfl : _ = some (.int .i64 a2_1))
                clear hb_
                have hb_ := SL.at_ (SL.get5 HS.out)
                have hz3000054_0_13 := ((blk_cell hb_ 0).trans rfl : _ = some (.int .i64 a1_0))
                have hz3000054_1_13 := ((blk_cell hb_ 1).trans rfl : _ = some (.int .i64 a1_1))
                clear hb_
                have hb_ := SL.at_ (SL.get6 HS.out)
                have hz3000053_0_13 := ((blk_cell hb_ 0).trans rfl : _ = some (.int .i64 a0_0))
                have hz3000053_1_13 := ((blk_cell hb_ 1).trans rfl : _ = some (.int .i64 a0_1))
                have hz3000053_2_13 := ((blk_cell hb_ 2).trans rfl : _ = some (.slice A0_2 l0_2.length c0_2))
                clear hb_
                try go_wp2_with (first | ((with_reducible refine gate_dst (N := 70) rfl ?_); refine goesL_ (some 70) rfl rfl Try.func9 (by kernel_rfl) rfl #[.agg #[.int .i64 a0_0, .int .i64 a0_1, .slice A0_2 l0_2.length c0_2], .agg #[.int .i64 a1_0, .int .i64 a1_1], .agg #[.int .i64 a2_0, .int .i64 a2_1]] rfl (by (try simp only [List.map_toArray, List.map_cons, List.map_nil]); first | done | rfl | (simp; done)) ?_; (with_reducible refine (sight_First.calls k _ _ _ _ _ _ _ _ _ _ _ _ _ (RO.at_ HR0_2.out HK.out) HC0_2.out Hc22.out).mono ?_); rintro e_ w42 ⟨rfl, hb_⟩; refine ⟨_, rfl, ?_⟩; replace HS := Aside0.mk (HS.out.below hb_); replace HK := Aside0.mk (HK.out.trans (Keep.below hb_)); (try clear hz3000053_0_13 hz3000053_1_13 hz3000053_2_13); (try clear hz3000054_0_13 hz3000054_1_13); (try clear hz3000055_0_13 hz3000055_1_13)) | ((with_reducible refine gate_dst (N := 13) rfl ?_); refine wpList_plain rfl (fun K_ hK_ => ?_); refine op_box (S := S) (cs := #[.int .i64 0, .int .i64 0]) (t := 26) (HF.out.keep HK.out) HS.out (by first | (go_simp; done) | (go_simp; rfl)) ?_; intro g3000060 w43 hs_ hk_; refine hK_ _ _ ?_; clear hK_ K_; replace HS := Aside0.mk (hs_); replace HK := Aside0.mk (HK.out.trans hk_)) | ((with_reducible refine gate_store (t := 26) (p := 13) (v := (.tmp 71)) rfl ?_); refine wpList_plain rfl (fun K_ hK_ => ?_); refine op_store (S := S) 26 (.tmp 13) (.tmp 71) rfl g3000060 0 (.agg #[.int .i64 t495, .int .i64 t496]) [.int .i64 t495, .int .i64 t496] rfl rfl rfl (by kernel_rfl) (by simp [Value.oneCell']) HS.out (by simp) ?_; intro w44 hs_ hk_; refine hK_ _ _ ?_; clear hK_ K_; replace HS := Aside0.mk ((show SL (cells g3000060 26 [.int .i64 t495, .int .i64 t496].toArray :: _) _ _ from hs_)); replace HK := Aside0.mk (HK.out.trans hk_)))
                refine start_ (n := 62) (S := fun w' => w'.cell? ⟨g3000057, 0, none⟩ = some (.int .i64 a0_0) ∧ w'.cell? ⟨g3000057, 1, none⟩ = some (.int .i64 a0_1) ∧ w'.cell? ⟨g3000057, 2, none⟩ = some (.slice Az3000056 y487.length cz3000056) ∧ w'.cell? ⟨g3000054, 0, none⟩ = some (.int .i64 a1_0) ∧ w'.cell? ⟨g3000054, 1, none⟩ = some (.int .i64 a1_1) ∧ w'.cell? ⟨g3000055, 0, none⟩ = some (.int .i64 a2_0) ∧ w'.cell? ⟨g3000055, 1, none⟩ = some (.int .i64 a2_1) ∧ w'.cell? ⟨g3000059, 0, none⟩ = some (.int .i64 a0_0) ∧ w'.cell? ⟨g3000059, 1, none⟩ = some (.int .i64 a0_1) ∧ w'.cell? ⟨g3000059, 2, none⟩ = some (.slice (some adq493) y489.length c491) ∧ w'.cell? ⟨g3000053, 0, none⟩ = some (.int .i64 a0_0) ∧ w'.cell? ⟨g3000053, 1, none⟩ = some (.int .i64 a0_1) ∧ w'.cell? ⟨g3000053, 2, none⟩ = some (.slice A0_2 l0_2.length c0_2)) (ds := []) #[O,O,O,O,O,O,O,O,O,O,O,O,O,O,O,O,O,O,O,O,O,O,O,O,O,O,O,O,O,O,O,O,O,O,O,O,O,O,O,O,O,O,O,O,O,O,O,O,O,O,O,O,O,O,O,O,O,O,O,O,O,O] (by kernel_rfl) rfl rfl ⟨bc (SL.get3 HS.out) 0 rfl, bc (SL.get3 HS.out) 1 rfl, bc (SL.get3 HS.out) 2 rfl, bc (SL.get6 HS.out) 0 rfl, bc (SL.get6 HS.out) 1 rfl, bc (SL.get5 HS.out) 0 rfl, bc (SL.get5 HS.out) 1 rfl, bc (SL.get1 HS.out) 0 rfl, bc (SL.get1 HS.out) 1 rfl, bc (SL.get1 HS.out) 2 rfl, bc (SL.get7 HS.out) 0 rfl, bc (SL.get7 HS.out) 1 rfl, bc (SL.get7 HS.out) 2 rfl⟩ (fun hHeld => ?_); refine with_tabW barrowlaw07_SightWalls.tab9 barrowlaw07_SightWalls.bits9 (fun HT_ HW_ => ?_)
                replace HK := Aside0.mk (Keep.drew HK.out)
                replace HS := Aside0.mk (SL.drew HS.out)
                refine pure_ (i := 0) (N := some 73) (v := ?_) (a' := ?_) #[I,O,O,O,O,O,O,O,O,O,O,O,O,O,O,O,O,O,O,O,O,O,O,O,O,O,O,O,O,O,O,O,O,O,O,O,O,O,O,O,O,O,O,O,O,O,O,O,O,O,O,O,O,O,O,O,O,O,O,O,O,O] rfl rfl (any_of HT_.out (by kernel_rfl)) (fun _ _ _ h => h) (Or.inl ⟨by rfl, ?_⟩) ?_ ?_; rotate_left; · (intro w'; go_simp; with_reducible rfl)
                rotate_left; · (simp only [Act.put, sT, sZ, sS, i64_w, i32_w]; rfl)
                refine pure_ (i := 1) (N := some 74) (v := ?_) (a' := ?_) #[I,I,O,O,O,O,O,O,O,O,O,O,O,O,O,O,O,O,O,O,O,O,O,O,O,O,O,O,O,O,O,O,O,O,O,O,O,O,O,O,O,O,O,O,O,O,O,O,O,O,O,O,O,O,O,O,O,O,O,O,O,O] rfl rfl (any_of HT_.out (by kernel_rfl)) (fun _ _ _ h => h) (Or.inl ⟨by rfl, ?_⟩) ?_ ?_; rotate_left; · (intro w'; go_simp; with_reducible rfl)
                rotate_left; · (simp only [Act.put, sT, sZ, sS, i64_w, i32_w]; rfl)
                refine take_ (i := 2) (N := some 75) (v := ?_) (a' := ?_) #[I,I,I,O,O,O,O,O,O,O,O,O,O,O,O,O,O,O,O,O,O,O,O,O,O,O,O,O,O,O,O,O,O,O,O,O,O,O,O,O,O,O,O,O,O,O,O,O,O,O,O,O,O,O,O,O,O,O,O,O,O,O] rfl rfl (take_ofW HT_.out HW_.out (by kernel_rfl)) (fun _ _ _ h => h) (Or.inl ⟨by rfl, ?_⟩) hHeld ?_ ?_; rotate_left
                ·rintro w' ⟨s0, s1, s2, s3, s4, s5, s6, s7, s8, s9, s10, s11, s12⟩
                 go_simp
                 with_reducible rfl
                rotate_left; · (simp only [Act.put, sT, sZ, sS, i64_w, i32_w]; rfl)
                refine take_ (i := 3) (N := some 76) (v := ?_) (a' := ?_) #[I,I,I,I,O,O,O,O,O,O,O,O,O,O,O,O,O,O,O,O,O,O,O,O,O,O,O,O,O,O,O,O,O,O,O,O,O,O,O,O,O,O,O,O,O,O,O,O,O,O,O,O,O,O,O,O,O,O,O,O,O,O] rfl rfl (take_ofW HT_.out HW_.out (by kernel_rfl)) (fun _ _ _ h => h) (Or.inl ⟨by rfl, ?_⟩) hHeld ?_ ?_; rotate_left
                ·rintro w' ⟨s0, s1, s2, s3, s4, s5, s6, s7, s8, s9, s10, s11, s12⟩
                 go_simp
                 with_reducible rfl
                rotate_left; · (simp only [Act.put, sT, sZ, sS, i64_w, i32_w]; rfl)
                refine take_ (i := 4) (N := some 77) (v := ?_) (a' := ?_) #[I,I,I,I,I,O,O,O,O,O,O,O,O,O,O,O,O,O,O,O,O,O,O,O,O,O,O,O,O,O,O,O,O,O,O,O,O,O,O,O,O,O,O,O,O,O,O,O,O,O,O,O,O,O,O,O,O,O,O,O,O,O] rfl rfl (take_ofW HT_.out HW_.out (by kernel_rfl)) (fun _ _ _ h => h) (Or.inl ⟨by rfl, ?_⟩) hHeld ?_ ?_; rotate_left
                ·rintro w' ⟨s0, s1, s2, s3, s4, s5, s6, s7, s8, s9, s10, s11, s12⟩
                 go_simp
                 with_reducible rfl
                rotate_left; · (simp only [Act.put, sT, sZ, sS, i64_w, i32_w]; rfl)
                refine one_ (i := 5) (N := some 78) #[I,I,I,I,I,I,O,O,O,O,O,O,O,O,O,O,O,O,O,O,O,O,O,O,O,O,O,O,O,O,O,O,O,O,O,O,O,O,O,O,O,O,O,O,O,O,O,O,O,O,O,O,O,O,O,O,O,O,O,O,O,O] rfl rfl (one_of HT_.out (by kernel_rfl)) (by decide) (fun K hK => ?_)
                refine goes_ Try.func14 (by kernel_rfl) rfl #[.agg #[.int .i64 a0_0, .int .i64 a0_1, .slice Az3000056 y487.length cz3000056], .agg #[.int .i64 a1_0, .int .i64 a1_1], .agg #[.int .i64 a2_0, .int .i64 a2_1]] (by rfl) rfl rfl (by (try simp only [List.map_toArray, List.map_cons, List.map_nil]); first | done | rfl | (simp; done)) ?_
                (with_reducible refine (sight_Sees.calls k _ _ _ _ _ _ _ _ _ _ _ (SL.row_c (SL.get4 HS.out)).2.2 (SL.row_c (SL.get4 HS.out)).2.1 Hc24.out).mono ?_)
                rintro e_ w45 ⟨rfl, hb_⟩
                refine ⟨_, rfl, ?_⟩
                replace HS := Aside0.mk (HS.out.below hb_)
                replace HK := Aside0.mk (HK.out.trans (Keep.below hb_))
                refine hK.out _ _ ⟨bc (SL.get3 HS.out) 0 rfl, bc (SL.get3 HS.out) 1 rfl, bc (SL.get3 HS.out) 2 rfl, bc (SL.get6 HS.out) 0 rfl, bc (SL.get6 HS.out) 1 rfl, bc (SL.get5 HS.out) 0 rfl, bc (SL.get5 HS.out) 1 rfl, bc (SL.get1 HS.out) 0 rfl, bc (SL.get1 HS.out) 1 rfl, bc (SL.get1 HS.out) 2 rfl, bc (SL.get7 HS.out) 0 rfl, bc (SL.get7 HS.out) 1 rfl, bc (SL.get7 HS.out) 2 rfl⟩ (fun hHeld => ?_)
                clear hK K
                refine norm_ (a' := ?_) ?_ ?_; rotate_left
                ·show Act.put _ (some 78) _ = _
                 simp only [Act.put, sT, sZ, sS, i64_w, i32_w]
                 rfl
                refine pure_ (i := 6) (N := some 79) (v := ?_) (a' := ?_) #[I,I,I,I,I,I,I,O,O,O,O,O,O,O,O,O,O,O,O,O,O,O,O,O,O,O,O,O,O,O,O,O,O,O,O,O,O,O,O,O,O,O,O,O,O,O,O,O,O,O,O,O,O,O,O,O,O,O,O,O,O,O] rfl rfl (any_of HT_.out (by kernel_rfl)) (fun _ _ _ h => h) (Or.inl ⟨by rfl, ?_⟩) ?_ ?_; rotate_left; · (intro w'; go_simp; with_reducible rfl)
                rotate_left; · (simp only [Act.put, sT, sZ, sS, i64_w, i32_w]; rfl)
                refine pure_ (i := 7) (N := some 80) (v := ?_) (a' := ?_) #[I,I,I,I,I,I,I,I,O,O,O,O,O,O,O,O,O,O,O,O,O,O,O,O,O,O,O,O,O,O,O,O,O,O,O,O,O,O,O,O,O,O,O,O,O,O,O,O,O,O,O,O,O,O,O,O,O,O,O,O,O,O] rfl rfl (any_of HT_.out (by kernel_rfl)) (fun _ _ _ h => h) (Or.inl ⟨by rfl, ?_⟩) ?_ ?_; rotate_left; · (intro w'; go_simp; with_reducible rfl)
                rotate_left; · (simp only [Act.put, sT, sZ, sS, i64_w, i32_w]; rfl)
                refine take_ (i := 8) (N := some 81) (v := ?_) (a' := ?_) #[I,I,I,I,I,I,I,I,I,O,O,O,O,O,O,O,O,O,O,O,O,O,O,O,O,O,O,O,O,O,O,O,O,O,O,O,O,O,O,O,O,O,O,O,O,O,O,O,O,O,O,O,O,O,O,O,O,O,O,O,O,O] rfl rfl (take_ofW HT_.out HW_.out (by kernel_rfl)) (fun _ _ _ h => h) (Or.inl ⟨by rfl, ?_⟩) hHeld ?_ ?_; rotate_left
                ·rintro w' ⟨s0, s1, s2, s3, s4, s5, s6, s7, s8, s9, s10, s11, s12⟩
                 go_simp
                 with_reducible rfl
                rotate_left; · (simp only [Act.put, sT, sZ, sS, i64_w, i32_w]; rfl)
                refine take_ (i := 9) (N := some 82) (v := ?_) (a' := ?_) #[I,I,I,I,I,I,I,I,I,I,O,O,O,O,O,O,O,O,O,O,O,O,O,O,O,O,O,O,O,O,O,O,O,O,O,O,O,O,O,O,O,O,O,O,O,O,O,O,O,O,O,O,O,O,O,O,O,O,O,O,O,O] rfl rfl (take_ofW HT_.out HW_.out (by kernel_rfl)) (fun _ _ _ h => h) (Or.inl ⟨by rfl, ?_⟩) hHeld ?_ ?_; rotate_left
                ·rintro w' ⟨s0, s1, s2, s3, s4, s5, s6, s7, s8, s9, s10, s11, s12⟩
                 go_simp
                 with_reducible rfl
                rotate_left; · (simp only [Act.put, sT, sZ, sS, i64_w, i32_w]; rfl)
                refine take_ (i := 10) (N := some 83) (v := ?_) (a' := ?_) #[I,I,I,I,I,I,I,I,I,I,I,O,O,O,O,O,O,O,O,O,O,O,O,O,O,O,O,O,O,O,O,O,O,O,O,O,O,O,O,O,O,O,O,O,O,O,O,O,O,O,O,O,O,O,O,O,O,O,O,O,O,O] rfl rfl (take_ofW HT_.out HW_.out (by kernel_rfl)) (fun _ _ _ h => h) (Or.inl ⟨by rfl, ?_⟩) hHeld ?_ ?_; rotate_left
                ·rintro w' ⟨s0, s1, s2, s3, s4, s5, s6, s7, s8, s9, s10, s11, s12⟩
                 go_simp
                 with_reducible rfl
                rotate_left; · (simp only [Act.put, sT, sZ, sS, i64_w, i32_w]; rfl)
                refine one_ (i := 11) (N := some 84) #[I,I,I,I,I,I,I,I,I,I,I,I,O,O,O,O,O,O,O,O,O,O,O,O,O,O,O,O,O,O,O,O,O,O,O,O,O,O,O,O,O,O,O,O,O,O,O,O,O,O,O,O,O,O,O,O,O,O,O,O,O,O] rfl rfl (one_of HT_.out (by kernel_rfl)) (by decide) (fun K hK => ?_)
                refine goes_ Try.func14 (by kernel_rfl) rfl #[.agg #[.int .i64 a0_0, .int .i64 a0_1, .slice (some adq493) y489.length c491], .agg #[.int .i64 a1_0, .int .i64 a1_1], .agg #[.int .i64 a2_0, .int .i64 a2_1]] (by rfl) rfl rfl (by (try simp only [List.map_toArray, List.map_cons, List.map_nil]); first | done | rfl | (simp; done)) ?_
                have el3000058_ := Aside0.mk (SL.row_c (SL.get2 HS.out)).1
                refine calls_of_args (args' := #[.agg #[.int .i64 a0_0, .int .i64 a0_1, .slice (some adq493) y494.length c491], .agg #[.int .i64 a1_0, .int .i64 a1_1], .agg #[.int .i64 a2_0, .int .i64 a2_1]]) (by rw [← el3000058_.out]) ?_
                (with_reducible refine (sight_Sees.calls k _ _ _ _ _ _ _ _ _ _ _ (by have e_ := (SL.row_c (SL.get2 HS.out)).1; have h_ := (SL.row_c (SL.get2 HS.out)).2.2; rw [e_] at h_; exact h_) (by have e_ := (SL.row_c (SL.get2 HS.out)).1; have h_ := (SL.row_c (SL.get2 HS.out)).2.1; (try dsimp only at e_ h_); (try dsimp only); omega) Hc26.out).mono ?_)
                rintro e_ w46 ⟨rfl, hb_⟩
                refine ⟨_, rfl, ?_⟩
                replace HS := Aside0.mk (HS.out.below hb_)
                replace HK := Aside0.mk (HK.out.trans (Keep.below hb_))
                refine hK.out _ _ ⟨bc (SL.get3 HS.out) 0 rfl, bc (SL.get3 HS.out) 1 rfl, bc (SL.get3 HS.out) 2 rfl, bc (SL.get6 HS.out) 0 rfl, bc (SL.get6 HS.out) 1 rfl, bc (SL.get5 HS.out) 0 rfl, bc (SL.get5 HS.out) 1 rfl, bc (SL.get1 HS.out) 0 rfl, bc (SL.get1 HS.out) 1 rfl, bc (SL.get1 HS.out) 2 rfl, bc (SL.get7 HS.out) 0 rfl, bc (SL.get7 HS.out) 1 rfl, bc (SL.get7 HS.out) 2 rfl⟩ (fun hHeld => ?_)
                clear hK K
                refine norm_ (a' := ?_) ?_ ?_; rotate_left
                ·show Act.put _ (some 84) _ = _
                 simp only [Act.put, sT, sZ, sS, i64_w, i32_w]
                 rfl
                refine pure_ (i := 12) (N := some 85) (v := ?_) (a' := ?_) #[I,I,I,I,I,I,I,I,I,I,I,I,I,O,O,O,O,O,O,O,O,O,O,O,O,O,O,O,O,O,O,O,O,O,O,O,O,O,O,O,O,O,O,O,O,O,O,O,O,O,O,O,O,O,O,O,O,O,O,O,O,O] rfl rfl (any_of HT_.out (by kernel_rfl)) (fun _ _ _ h => h) (Or.inl ⟨by rfl, ?_⟩) ?_ ?_; rotate_left; · (intro w'; go_simp; with_reducible rfl)
                rotate_left; · (simp only [Act.put, sT, sZ, sS, i64_w, i32_w]; rfl)
                refine pure_ (i := 13) (N := some 86) (v := ?_) (a' := ?_) #[I,I,I,I,I,I,I,I,I,I,I,I,I,I,O,O,O,O,O,O,O,O,O,O,O,O,O,O,O,O,O,O,O,O,O,O,O,O,O,O,O,O,O,O,O,O,O,O,O,O,O,O,O,O,O,O,O,O,O,O,O,O] rfl rfl (any_of HT_.out (by kernel_rfl)) (fun _ _ _ h => h) (Or.inl ⟨by rfl, ?_⟩) ?_ ?_; rotate_left; · (intro w'; go_simp; with_reducible rfl)
                rotate_left; · (simp only [Act.put, sT, sZ, sS, i64_w, i32_w]; rfl)
                refine take_ (i := 14) (N := some 87) (v := ?_) (a' := ?_) #[I,I,I,I,I,I,I,I,I,I,I,I,I,I,I,O,O,O,O,O,O,O,O,O,O,O,O,O,O,O,O,O,O,O,O,O,O,O,O,O,O,O,O,O,O,O,O,O,O,O,O,O,O,O,O,O,O,O,O,O,O,O] rfl rfl (take_ofW HT_.out HW_.out (by kernel_rfl)) (fun _ _ _ h => h) (Or.inl ⟨by rfl, ?_⟩) hHeld ?_ ?_; rotate_left
                ·rintro w' ⟨s0, s1, s2, s3, s4, s5, s6, s7, s8, s9, s10, s11, s12⟩
                 go_simp
                 with_reducible rfl
                rotate_left; · (simp only [Act.put, sT, sZ, sS, i64_w, i32_w]; rfl)
                refine take_ (i := 15) (N := some 88) (v := ?_) (a' := ?_) #[I,I,I,I,I,I,I,I,I,I,I,I,I,I,I,I,O,O,O,O,O,O,O,O,O,O,O,O,O,O,O,O,O,O,O,O,O,O,O,O,O,O,O,O,O,O,O,O,O,O,O,O,O,O,O,O,O,O,O,O,O,O] rfl rfl (take_ofW HT_.out HW_.out (by kernel_rfl)) (fun _ _ _ h => h) (Or.inl ⟨by rfl, ?_⟩) hHeld ?_ ?_; rotate_left
                ·rintro w' ⟨s0, s1, s2, s3, s4, s5, s6, s7, s8, s9, s10, s11, s12⟩
                 go_simp
                 with_reducible rfl
                rotate_left; · (simp only [Act.put, sT, sZ, sS, i64_w, i32_w]; rfl)
                refine take_ (i := 16) (N := some 89) (v := ?_) (a' := ?_) #[I,I,I,I,I,I,I,I,I,I,I,I,I,I,I,I,I,O,O,O,O,O,O,O,O,O,O,O,O,O,O,O,O,O,O,O,O,O,O,O,O,O,O,O,O,O,O,O,O,O,O,O,O,O,O,O,O,O,O,O,O,O] rfl rfl (take_ofW HT_.out HW_.out (by kernel_rfl)) (fun _ _ _ h => h) (Or.inl ⟨by rfl, ?_⟩) hHeld ?_ ?_; rotate_left
                ·rintro w' ⟨s0, s1, s2, s3, s4, s5, s6, s7, s8, s9, s10, s11, s12⟩
                 go_simp
                 with_reducible rfl
                rotate_left; · (simp only [Act.put, sT, sZ, sS, i64_w, i32_w]; rfl)
                refine one_ (i := 17) (N := some 90) #[I,I,I,I,I,I,I,I,I,I,I,I,I,I,I,I,I,I,O,O,O,O,O,O,O,O,O,O,O,O,O,O,O,O,O,O,O,O,O,O,O,O,O,O,O,O,O,O,O,O,O,O,O,O,O,O,O,O,O,O,O,O] rfl rfl (one_of HT_.out (by kernel_rfl)) (by decide) (fun K hK => ?_)
                refine goes_ Try.func14 (by kernel_rfl) rfl #[.agg #[.int .i64 a0_0, .int .i64 a0_1, .slice A0_2 l0_2.length c0_2], .agg #[.int .i64 a1_0, .int .i64 a1_1], .agg #[.int .i64 a2_0, .int .i64 a2_1]] (by rfl) rfl rfl (by (try simp only [List.map_toArray, List.map_cons, List.map_nil]); first | done | rfl | (simp; done)) ?_
                (with_reducible refine (sight_Sees.calls k _ _ _ _ _ _ _ _ _ _ _ (RO.at_ HR0_2.out HK.out) HC0_2.out Hc28.out).mono ?_)
                rintro e_ w47 ⟨rfl, hb_⟩
                refine ⟨_, rfl, ?_⟩
                replace HS := Aside0.mk (HS.out.below hb_)
                replace HK := Aside0.mk (HK.out.trans (Keep.below hb_))
                refine hK.out _ _ ⟨bc (SL.get3 HS.out) 0 rfl, bc (SL.get3 HS.out) 1 rfl, bc (SL.get3 HS.out) 2 rfl, bc (SL.get6 HS.out) 0 rfl, bc (SL.get6 HS.out) 1 rfl, bc (SL.get5 HS.out) 0 rfl, bc (SL.get5 HS.out) 1 rfl, bc (SL.get1 HS.out) 0 rfl, bc (SL.get1 HS.out) 1 rfl, bc (SL.get1 HS.out) 2 rfl, bc (SL.get7 HS.out) 0 rfl, bc (SL.get7 HS.out) 1 rfl, bc (SL.get7 HS.out) 2 rfl⟩ (fun hHeld => ?_)
                clear hK K
                refine norm_ (a' := ?_) ?_ ?_; rotate_left
                ·show Act.put _ (some 90) _ = _
                 simp only [Act.put, sT, sZ, sS, i64_w, i32_w]
                 rfl
                refine pure_ (i := 18) (N := some 91) (v := ?_) (a' := ?_) #[I,I,I,I,I,I,I,I,I,I,I,I,I,I,I,I,I,I,I,O,O,O,O,O,O,O,O,O,O,O,O,O,O,O,O,O,O,O,O,O,O,O,O,O,O,O,O,O,O,O,O,O,O,O,O,O,O,O,O,O,O,O] rfl rfl (any_of HT_.out (by kernel_rfl)) (fun _ _ _ h => h) (Or.inl ⟨by rfl, ?_⟩) ?_ ?_; rotate_left; · (intro w'; go_simp; with_reducible rfl)
                rotate_left; · (simp only [Act.put, sT, sZ, sS, i64_w, i32_w]; rfl)
                refine pure_ (i := 19) (N := some 92) (v := ?_) (a' := ?_) #[I,I,I,I,I,I,I,I,I,I,I,I,I,I,I,I,I,I,I,I,O,O,O,O,O,O,O,O,O,O,O,O,O,O,O,O,O,O,O,O,O,O,O,O,O,O,O,O,O,O,O,O,O,O,O,O,O,O,O,O,O,O] rfl rfl (any_of HT_.out (by kernel_rfl)) (fun _ _ _ h => h) (Or.inl ⟨by rfl, ?_⟩) ?_ ?_; rotate_left; · (intro w'; go_simp; with_reducible rfl)
                rotate_left; · (simp only [Act.put, sT, sZ, sS, i64_w, i32_w]; rfl)
                refine pure_ (i := 20) (N := some 93) (v := ?_) (a' := ?_) #[I,I,I,I,I,I,I,I,I,I,I,I,I,I,I,I,I,I,I,I,I,O,O,O,O,O,O,O,O,O,O,O,O,O,O,O,O,O,O,O,O,O,O,O,O,O,O,O,O,O,O,O,O,O,O,O,O,O,O,O,O,O] rfl rfl (any_of HT_.out (by kernel_rfl)) (fun _ _ _ h => h) (Or.inl ⟨by rfl, ?_⟩) ?_ ?_; rotate_left; · (intro w'; go_simp; with_reducible rfl)
                rotate_left; · (simp only [Act.put, sT, sZ, sS, i64_w, i32_w]; rfl)
                refine pure_ (i := 21) (N := some 94) (v := ?_) (a' := ?_) #[I,I,I,I,I,I,I,I,I,I,I,I,I,I,I,I,I,I,I,I,I,I,O,O,O,O,O,O,O,O,O,O,O,O,O,O,O,O,O,O,O,O,O,O,O,O,O,O,O,O,O,O,O,O,O,O,O,O,O,O,O,O] rfl rfl (any_of HT_.out (by kernel_rfl)) (fun _ _ _ h => h) (Or.inl ⟨by rfl, ?_⟩) ?_ ?_; rotate_left; · (intro w'; go_simp; with_reducible rfl)
                rotate_left; · (simp only [Act.put, sT, sZ, sS, i64_w, i32_w]; rfl)
                refine take_ (i := 22) (N := some 95) (v := ?_) (a' := ?_) #[I,I,I,I,I,I,I,I,I,I,I,I,I,I,I,I,I,I,I,I,I,I,I,O,O,O,O,O,O,O,O,O,O,O,O,O,O,O,O,O,O,O,O,O,O,O,O,O,O,O,O,O,O,O,O,O,O,O,O,O,O,O] rfl rfl (take_ofW HT_.out HW_.out (by kernel_rfl)) (fun _ _ _ h => h) (Or.inl ⟨by rfl, ?_⟩) hHeld ?_ ?_; rotate_left
                ·rintro w' ⟨s0, s1, s2, s3, s4, s5, s6, s7, s8, s9, s10, s11, s12⟩
                 go_simp
                 with_reducible rfl
                rotate_left; · (simp only [Act.put, sT, sZ, sS, i64_w, i32_w]; rfl)
                refine take_ (i := 23) (N := some 96) (v := ?_) (a' := ?_) #[I,I,I,I,I,I,I,I,I,I,I,I,I,I,I,I,I,I,I,I,I,I,I,I,O,O,O,O,O,O,O,O,O,O,O,O,O,O,O,O,O,O,O,O,O,O,O,O,O,O,O,O,O,O,O,O,O,O,O,O,O,O] rfl rfl (take_ofW HT_.out HW_.out (by kernel_rfl)) (fun _ _ _ h => h) (Or.inl ⟨by rfl, ?_⟩) hHeld ?_ ?_; rotate_left
                ·rintro w' ⟨s0, s1, s2, s3, s4, s5, s6, s7, s8, s9, s10, s11, s12⟩
                 go_simp
                 with_reducible rfl
                rotate_left; · (simp only [Act.put, sT, sZ, sS, i64_w, i32_w]; rfl)
                refine take_ (i := 24) (N := some 97) (v := ?_) (a' := ?_) #[I,I,I,I,I,I,I,I,I,I,I,I,I,I,I,I,I,I,I,I,I,I,I,I,I,O,O,O,O,O,O,O,O,O,O,O,O,O,O,O,O,O,O,O,O,O,O,O,O,O,O,O,O,O,O,O,O,O,O,O,O,O] rfl rfl (take_ofW HT_.out HW_.out (by kernel_rfl)) (fun _ _ _ h => h) (Or.inl ⟨by rfl, ?_⟩) hHeld ?_ ?_; rotate_left
                ·rintro w' ⟨s0, s1, s2, s3, s4, s5, s6, s7, s8, s9, s10, s11, s12⟩
                 go_simp
                 with_reducible rfl
                rotate_left; · (simp only [Act.put, sT, sZ, sS, i64_w, i32_w]; rfl)
                refine one_ (i := 25) (N := some 98) #[I,I,I,I,I,I,I,I,I,I,I,I,I,I,I,I,I,I,I,I,I,I,I,I,I,I,O,O,O,O,O,O,O,O,O,O,O,O,O,O,O,O,O,O,O,O,O,O,O,O,O,O,O,O,O,O,O,O,O,O,O,O] rfl rfl (one_of HT_.out (by kernel_rfl)) (by decide) (fun K hK => ?_)
                refine goes_ Try.func14 (by kernel_rfl) rfl #[.agg #[.int .i64 a0_0, .int .i64 a0_1, .slice A0_2 l0_2.length c0_2], .agg #[.int .i64 a1_0, .int .i64 a1_1], .agg #[.int .i64 a2_0, .int .i64 a2_1]] (by rfl) rfl rfl (by (try simp only [List.map_toArray, List.map_cons, List.map_nil]); first | done | rfl | (simp; done)) ?_
                (with_reducible refine (sight_Sees.calls k _ _ _ _ _ _ _ _ _ _ _ (RO.at_ HR0_2.out HK.out) HC0_2.out Hc28.out).mono ?_)
                rintro e_ w48 ⟨rfl, hb_⟩
                refine ⟨_, rfl, ?_⟩
                replace HS := Aside0.mk (HS.out.below hb_)
                replace HK := Aside0.mk (HK.out.trans (Keep.below hb_))
                refine hK.out _ _ ⟨bc (SL.get3 HS.out) 0 rfl, bc (SL.get3 HS.out) 1 rfl, bc (SL.get3 HS.out) 2 rfl, bc (SL.get6 HS.out) 0 rfl, bc (SL.get6 HS.out) 1 rfl, bc (SL.get5 HS.out) 0 rfl, bc (SL.get5 HS.out) 1 rfl, bc (SL.get1 HS.out) 0 rfl, bc (SL.get1 HS.out) 1 rfl, bc (SL.get1 HS.out) 2 rfl, bc (SL.get7 HS.out) 0 rfl, bc (SL.get7 HS.out) 1 rfl, bc (SL.get7 HS.out) 2 rfl⟩ (fun hHeld => ?_)
                clear hK K
                refine norm_ (a' := ?_) ?_ ?_; rotate_left
                ·show Act.put _ (some 98) _ = _
                 simp only [Act.put, sT, sZ, sS, i64_w, i32_w]
                 rfl
                refine pure_ (i := 26) (N := some 99) (v := ?_) (a' := ?_) #[I,I,I,I,I,I,I,I,I,I,I,I,I,I,I,I,I,I,I,I,I,I,I,I,I,I,I,O,O,O,O,O,O,O,O,O,O,O,O,O,O,O,O,O,O,O,O,O,O,O,O,O,O,O,O,O,O,O,O,O,O,O] rfl rfl (any_of HT_.out (by kernel_rfl)) (fun _ _ _ h => h) (Or.inl ⟨by rfl, ?_⟩) ?_ ?_; rotate_left; · (intro w'; go_simp; with_reducible rfl)
                rotate_left; · (simp only [Act.put, sT, sZ, sS, i64_w, i32_w]; rfl)
                refine pure_ (i := 27) (N := some 100) (v := ?_) (a' := ?_) #[I,I,I,I,I,I,I,I,I,I,I,I,I,I,I,I,I,I,I,I,I,I,I,I,I,I,I,I,O,O,O,O,O,O,O,O,O,O,O,O,O,O,O,O,O,O,O,O,O,O,O,O,O,O,O,O,O,O,O,O,O,O] rfl rfl (any_of HT_.out (by kernel_rfl)) (fun _ _ _ h => h) (Or.inl ⟨by rfl, ?_⟩) ?_ ?_; rotate_left; · (intro w'; go_simp; with_reducible rfl)
                rotate_left; · (simp only [Act.put, sT, sZ, sS, i64_w, i32_w]; rfl)
                refine pure_ (i := 28) (N := some 101) (v := ?_) (a' := ?_) #[I,I,I,I,I,I,I,I,I,I,I,I,I,I,I,I,I,I,I,I,I,I,I,I,I,I,I,I,I,O,O,O,O,O,O,O,O,O,O,O,O,O,O,O,O,O,O,O,O,O,O,O,O,O,O,O,O,O,O,O,O,O] rfl rfl (any_of HT_.out (by kernel_rfl)) (fun _ _ _ h => h) (Or.inl ⟨by rfl, ?_⟩) ?_ ?_; rotate_left; · (intro w'; go_simp; with_reducible rfl)
                rotate_left; · (simp only [Act.put, sT, sZ, sS, i64_w, i32_w]; rfl)
                refine pure_ (i := 29) (N := some 102) (v := ?_) (a' := ?_) #[I,I,I,I,I,I,I,I,I,I,I,I,I,I,I,I,I,I,I,I,I,I,I,I,I,I,I,I,I,I,O,O,O,O,O,O,O,O,O,O,O,O,O,O,O,O,O,O,O,O,O,O,O,O,O,O,O,O,O,O,O,O] rfl rfl (any_of HT_.out (by kernel_rfl)) (fun _ _ _ h => h) (Or.inl ⟨by rfl, ?_⟩) ?_ ?_; rotate_left; · (intro w'; go_simp; with_reducible rfl)
                rotate_left; · (simp only [Act.put, sT, sZ, sS, i64_w, i32_w]; rfl)
                refine pure_ (i := 30) (N := some 103) (v := ?_) (a' := ?_) #[I,I,I,I,I,I,I,I,I,I,I,I,I,I,I,I,I,I,I,I,I,I,I,I,I,I,I,I,I,I,I,O,O,O,O,O,O,O,O,O,O,O,O,O,O,O,O,O,O,O,O,O,O,O,O,O,O,O,O,O,O,O] rfl rfl (any_of HT_.out (by kernel_rfl)) (fun _ _ _ h => h) (Or.inl ⟨by rfl, ?_⟩) ?_ ?_; rotate_left; · (intro w'; go_simp; with_reducible rfl)
                rotate_left; · (simp only [Act.put, sT, sZ, sS, i64_w, i32_w]; rfl)
                refine pure_ (i := 31) (N := some 104) (v := ?_) (a' := ?_) #[I,I,I,I,I,I,I,I,I,I,I,I,I,I,I,I,I,I,I,I,I,I,I,I,I,I,I,I,I,I,I,I,O,O,O,O,O,O,O,O,O,O,O,O,O,O,O,O,O,O,O,O,O,O,O,O,O,O,O,O,O,O] rfl rfl (any_of HT_.out (by kernel_rfl)) (fun _ _ _ h => h) (Or.inl ⟨by rfl, ?_⟩) ?_ ?_; rotate_left; · (intro w'; go_simp; with_reducible rfl)
                rotate_left; · (simp only [Act.put, sT, sZ, sS, i64_w, i32_w]; rfl)
                refine pure_ (i := 32) (N := some 105) (v := undef) (a' := ?_) #[I,I,I,I,I,I,I,I,I,I,I,I,I,I,I,I,I,I,I,I,I,I,I,I,I,I,I,I,I,I,I,I,I,O,O,O,O,O,O,O,O,O,O,O,O,O,O,O,O,O,O,O,O,O,O,O,O,O,O,O,O,O] rfl rfl (any_of HT_.out (by kernel_rfl)) (fun _ _ _ h => h) (Or.inr ⟨by rfl, rfl⟩) ?_ ?_; rotate_left; · (simp only [Act.put, sT, sZ, sS, i64_w, i32_w]; rfl)
                refine pure_ (i := 33) (N := some 106) (v := undef) (a' := ?_) #[I,I,I,I,I,I,I,I,I,I,I,I,I,I,I,I,I,I,I,I,I,I,I,I,I,I,I,I,I,I,I,I,I,I,O,O,O,O,O,O,O,O,O,O,O,O,O,O,O,O,O,O,O,O,O,O,O,O,O,O,O,O] rfl rfl (any_of HT_.out (by kernel_rfl)) (fun _ _ _ h => h) (Or.inr ⟨by rfl, rfl⟩) ?_ ?_; rotate_left; · (simp only [Act.put, sT, sZ, sS, i64_w, i32_w]; rfl)
                refine pure_ (i := 34) (N := some 107) (v := undef) (a' := ?_) #[I,I,I,I,I,I,I,I,I,I,I,I,I,I,I,I,I,I,I,I,I,I,I,I,I,I,I,I,I,I,I,I,I,I,I,O,O,O,O,O,O,O,O,O,O,O,O,O,O,O,O,O,O,O,O,O,O,O,O,O,O,O] rfl rfl (any_of HT_.out (by kernel_rfl)) (fun _ _ _ h => h) (Or.inr ⟨by rfl, rfl⟩) ?_ ?_; rotate_left; · (simp only [Act.put, sT, sZ, sS, i64_w, i32_w]; rfl)
                refine pure_ (i := 35) (N := some 108) (v := undef) (a' := ?_) #[I,I,I,I,I,I,I,I,I,I,I,I,I,I,I,I,I,I,I,I,I,I,I,I,I,I,I,I,I,I,I,I,I,I,I,I,O,O,O,O,O,O,O,O,O,O,O,O,O,O,O,O,O,O,O,O,O,O,O,O,O,O] rfl rfl (any_of HT_.out (by kernel_rfl)) (fun _ _ _ h => h) (Or.inr ⟨by rfl, rfl⟩) ?_ ?_; rotate_left; · (simp only [Act.put, sT, sZ, sS, i64_w, i32_w]; rfl)
                refine pure_ (i := 36) (N := some 109) (v := undef) (a' := ?_) #[I,I,I,I,I,I,I,I,I,I,I,I,I,I,I,I,I,I,I,I,I,I,I,I,I,I,I,I,I,I,I,I,I,I,I,I,I,O,O,O,O,O,O,O,O,O,O,O,O,O,O,O,O,O,O,O,O,O,O,O,O,O] rfl rfl (any_of HT_.out (by kernel_rfl)) (fun _ _ _ h => h) (Or.inr ⟨by rfl, rfl⟩) ?_ ?_; rotate_left; · (simp only [Act.put, sT, sZ, sS, i64_w, i32_w]; rfl)
                refine pure_ (i := 37) (N := some 110) (v := undef) (a' := ?_) #[I,I,I,I,I,I,I,I,I,I,I,I,I,I,I,I,I,I,I,I,I,I,I,I,I,I,I,I,I,I,I,I,I,I,I,I,I,I,O,O,O,O,O,O,O,O,O,O,O,O,O,O,O,O,O,O,O,O,O,O,O,O] rfl rfl (any_of HT_.out (by kernel_rfl)) (fun _ _ _ h => h) (Or.inr ⟨by rfl, rfl⟩) ?_ ?_; rotate_left; · (simp only [Act.put, sT, sZ, sS, i64_w, i32_w]; rfl)
                refine pure_ (i := 38) (N := some 111) (v := undef) (a' := ?_) #[I,I,I,I,I,I,I,I,I,I,I,I,I,I,I,I,I,I,I,I,I,I,I,I,I,I,I,I,I,I,I,I,I,I,I,I,I,I,I,O,O,O,O,O,O,O,O,O,O,O,O,O,O,O,O,O,O,O,O,O,O,O] rfl rfl (any_of HT_.out (by kernel_rfl)) (fun _ _ _ h => h) (Or.inr ⟨by rfl, rfl⟩) ?_ ?_; rotate_left; · (simp only [Act.put, sT, sZ, sS, i64_w, i32_w]; rfl)
                refine pure_ (i := 39) (N := some 112) (v := undef) (a' := ?_) #[I,I,I,I,I,I,I,I,I,I,I,I,I,I,I,I,I,I,I,I,I,I,I,I,I,I,I,I,I,I,I,I,I,I,I,I,I,I,I,I,O,O,O,O,O,O,O,O,O,O,O,O,O,O,O,O,O,O,O,O,O,O] rfl rfl (any_of HT_.out (by kernel_rfl)) (fun _ _ _ h => h) (Or.inr ⟨by rfl, rfl⟩) ?_ ?_; rotate_left; · (simp only [Act.put, sT, sZ, sS, i64_w, i32_w]; rfl)
                refine pure_ (i := 40) (N := some 113) (v := undef) (a' := ?_) #[I,I,I,I,I,I,I,I,I,I,I,I,I,I,I,I,I,I,I,I,I,I,I,I,I,I,I,I,I,I,I,I,I,I,I,I,I,I,I,I,I,O,O,O,O,O,O,O,O,O,O,O,O,O,O,O,O,O,O,O,O,O] rfl rfl (any_of HT_.out (by kernel_rfl)) (fun _ _ _ h => h) (Or.inr ⟨by rfl, rfl⟩) ?_ ?_; rotate_left; · (simp only [Act.put, sT, sZ, sS, i64_w, i32_w]; rfl)
                refine pure_ (i := 41) (N := some 114) (v := undef) (a' := ?_) #[I,I,I,I,I,I,I,I,I,I,I,I,I,I,I,I,I,I,I,I,I,I,I,I,I,I,I,I,I,I,I,I,I,I,I,I,I,I,I,I,I,I,O,O,O,O,O,O,O,O,O,O,O,O,O,O,O,O,O,O,O,O] rfl rfl (any_of HT_.out (by kernel_rfl)) (fun _ _ _ h => h) (Or.inr ⟨by rfl, rfl⟩) ?_ ?_; rotate_left; · (simp only [Act.put, sT, sZ, sS, i64_w, i32_w]; rfl)
                refine pure_ (i := 42) (N := some 115) (v := undef) (a' := ?_) #[I,I,I,I,I,I,I,I,I,I,I,I,I,I,I,I,I,I,I,I,I,I,I,I,I,I,I,I,I,I,I,I,I,I,I,I,I,I,I,I,I,I,I,O,O,O,O,O,O,O,O,O,O,O,O,O,O,O,O,O,O,O] rfl rfl (any_of HT_.out (by kernel_rfl)) (fun _ _ _ h => h) (Or.inr ⟨by rfl, rfl⟩) ?_ ?_; rotate_left; · (simp only [Act.put, sT, sZ, sS, i64_w, i32_w]; rfl)
                refine pure_ (i := 43) (N := some 116) (v := undef) (a' := ?_) #[I,I,I,I,I,I,I,I,I,I,I,I,I,I,I,I,I,I,I,I,I,I,I,I,I,I,I,I,I,I,I,I,I,I,I,I,I,I,I,I,I,I,I,I,O,O,O,O,O,O,O,O,O,O,O,O,O,O,O,O,O,O] rfl rfl (any_of HT_.out (by kernel_rfl)) (fun _ _ _ h => h) (Or.inr ⟨by rfl, rfl⟩) ?_ ?_; rotate_left; · (simp only [Act.put, sT, sZ, sS, i64_w, i32_w]; rfl)
                refine pure_ (i := 44) (N := some 117) (v := undef) (a' := ?_) #[I,I,I,I,I,I,I,I,I,I,I,I,I,I,I,I,I,I,I,I,I,I,I,I,I,I,I,I,I,I,I,I,I,I,I,I,I,I,I,I,I,I,I,I,I,O,O,O,O,O,O,O,O,O,O,O,O,O,O,O,O,O] rfl rfl (any_of HT_.out (by kernel_rfl)) (fun _ _ _ h => h) (Or.inr ⟨by rfl, rfl⟩) ?_ ?_; rotate_left; · (simp only [Act.put, sT, sZ, sS, i64_w, i32_w]; rfl)
                refine pure_ (i := 45) (N := some 118) (v := undef) (a' := ?_) #[I,I,I,I,I,I,I,I,I,I,I,I,I,I,I,I,I,I,I,I,I,I,I,I,I,I,I,I,I,I,I,I,I,I,I,I,I,I,I,I,I,I,I,I,I,I,O,O,O,O,O,O,O,O,O,O,O,O,O,O,O,O] rfl rfl (any_of HT_.out (by kernel_rfl)) (fun _ _ _ h => h) (Or.inr ⟨by rfl, rfl⟩) ?_ ?_; rotate_left; · (simp only [Act.put, sT, sZ, sS, i64_w, i32_w]; rfl)
                refine pure_ (i := 46) (N := some 119) (v := undef) (a' := ?_) #[I,I,I,I,I,I,I,I,I,I,I,I,I,I,I,I,I,I,I,I,I,I,I,I,I,I,I,I,I,I,I,I,I,I,I,I,I,I,I,I,I,I,I,I,I,I,I,O,O,O,O,O,O,O,O,O,O,O,O,O,O,O] rfl rfl (any_of HT_.out (by kernel_rfl)) (fun _ _ _ h => h) (Or.inr ⟨by rfl, rfl⟩) ?_ ?_; rotate_left; · (simp only [Act.put, sT, sZ, sS, i64_w, i32_w]; rfl)
                refine pure_ (i := 47) (N := some 120) (v := undef) (a' := ?_) #[I,I,I,I,I,I,I,I,I,I,I,I,I,I,I,I,I,I,I,I,I,I,I,I,I,I,I,I,I,I,I,I,I,I,I,I,I,I,I,I,I,I,I,I,I,I,I,I,O,O,O,O,O,O,O,O,O,O,O,O,O,O] rfl rfl (any_of HT_.out (by kernel_rfl)) (fun _ _ _ h => h) (Or.inr ⟨by rfl, rfl⟩) ?_ ?_; rotate_left; · (simp only [Act.put, sT, sZ, sS, i64_w, i32_w]; rfl)
                refine pure_ (i := 48) (N := some 121) (v := undef) (a' := ?_) #[I,I,I,I,I,I,I,I,I,I,I,I,I,I,I,I,I,I,I,I,I,I,I,I,I,I,I,I,I,I,I,I,I,I,I,I,I,I,I,I,I,I,I,I,I,I,I,I,I,O,O,O,O,O,O,O,O,O,O,O,O,O] rfl rfl (any_of HT_.out (by kernel_rfl)) (fun _ _ _ h => h) (Or.inr ⟨by rfl, rfl⟩) ?_ ?_; rotate_left; · (simp only [Act.put, sT, sZ, sS, i64_w, i32_w]; rfl)
                refine pure_ (i := 49) (N := some 122) (v := undef) (a' := ?_) #[I,I,I,I,I,I,I,I,I,I,I,I,I,I,I,I,I,I,I,I,I,I,I,I,I,I,I,I,I,I,I,I,I,I,I,I,I,I,I,I,I,I,I,I,I,I,I,I,I,I,O,O,O,O,O,O,O,O,O,O,O,O] rfl rfl (any_of HT_.out (by kernel_rfl)) (fun _ _ _ h => h) (Or.inr ⟨by rfl, rfl⟩) ?_ ?_; rotate_left; · (simp only [Act.put, sT, sZ, sS, i64_w, i32_w]; rfl)
                refine pure_ (i := 50) (N := some 123) (v := undef) (a' := ?_) #[I,I,I,I,I,I,I,I,I,I,I,I,I,I,I,I,I,I,I,I,I,I,I,I,I,I,I,I,I,I,I,I,I,I,I,I,I,I,I,I,I,I,I,I,I,I,I,I,I,I,I,O,O,O,O,O,O,O,O,O,O,O] rfl rfl (any_of HT_.out (by kernel_rfl)) (fun _ _ _ h => h) (Or.inr ⟨by rfl, rfl⟩) ?_ ?_; rotate_left; · (simp only [Act.put, sT, sZ, sS, i64_w, i32_w]; rfl)
                refine pure_ (i := 51) (N := some 124) (v := undef) (a' := ?_) #[I,I,I,I,I,I,I,I,I,I,I,I,I,I,I,I,I,I,I,I,I,I,I,I,I,I,I,I,I,I,I,I,I,I,I,I,I,I,I,I,I,I,I,I,I,I,I,I,I,I,I,I,O,O,O,O,O,O,O,O,O,O] rfl rfl (any_of HT_.out (by kernel_rfl)) (fun _ _ _ h => h) (Or.inr ⟨by rfl, rfl⟩) ?_ ?_; rotate_left; · (simp only [Act.put, sT, sZ, sS, i64_w, i32_w]; rfl)
                refine pure_ (i := 52) (N := some 125) (v := undef) (a' := ?_) #[I,I,I,I,I,I,I,I,I,I,I,I,I,I,I,I,I,I,I,I,I,I,I,I,I,I,I,I,I,I,I,I,I,I,I,I,I,I,I,I,I,I,I,I,I,I,I,I,I,I,I,I,I,O,O,O,O,O,O,O,O,O] rfl rfl (any_of HT_.out (by kernel_rfl)) (fun _ _ _ h => h) (Or.inr ⟨by rfl, rfl⟩) ?_ ?_; rotate_left; · (simp only [Act.put, sT, sZ, sS, i64_w, i32_w]; rfl)
                refine pure_ (i := 53) (N := some 126) (v := ?_) (a' := ?_) #[I,I,I,I,I,I,I,I,I,I,I,I,I,I,I,I,I,I,I,I,I,I,I,I,I,I,I,I,I,I,I,I,I,I,I,I,I,I,I,I,I,I,I,I,I,I,I,I,I,I,I,I,I,I,O,O,O,O,O,O,O,O] rfl rfl (any_of HT_.out (by kernel_rfl)) (fun _ _ _ h => h) (Or.inl ⟨by rfl, ?_⟩) ?_ ?_; rotate_left; · (intro w'; go_simp; with_reducible rfl)
                rotate_left; · (simp only [Act.put, sT, sZ, sS, i64_w, i32_w]; rfl)
                refine pure_ (i := 54) (N := some 127) (v := ?_) (a' := ?_) #[I,I,I,I,I,I,I,I,I,I,I,I,I,I,I,I,I,I,I,I,I,I,I,I,I,I,I,I,I,I,I,I,I,I,I,I,I,I,I,I,I,I,I,I,I,I,I,I,I,I,I,I,I,I,I,O,O,O,O,O,O,O] rfl rfl (any_of HT_.out (by kernel_rfl)) (fun _ _ _ h => h) (Or.inl ⟨by rfl, ?_⟩) ?_ ?_; rotate_left; · (intro w'; go_simp; with_reducible rfl)
                rotate_left; · (simp only [Act.put, sT, sZ, sS, i64_w, i32_w]; rfl)
                refine pure_ (i := 55) (N := some 128) (v := ?_) (a' := ?_) #[I,I,I,I,I,I,I,I,I,I,I,I,I,I,I,I,I,I,I,I,I,I,I,I,I,I,I,I,I,I,I,I,I,I,I,I,I,I,I,I,I,I,I,I,I,I,I,I,I,I,I,I,I,I,I,I,O,O,O,O,O,O] rfl rfl (any_of HT_.out (by kernel_rfl)) (fun _ _ _ h => h) (Or.inl ⟨by rfl, ?_⟩) ?_ ?_; rotate_left; · (intro w'; go_simp; with_reducible rfl)
                rotate_left; · (simp only [Act.put, sT, sZ, sS, i64_w, i32_w]; rfl)
                refine take_ (i := 56) (N := some 129) (v := ?_) (a' := ?_) #[I,I,I,I,I,I,I,I,I,I,I,I,I,I,I,I,I,I,I,I,I,I,I,I,I,I,I,I,I,I,I,I,I,I,I,I,I,I,I,I,I,I,I,I,I,I,I,I,I,I,I,I,I,I,I,I,I,O,O,O,O,O] rfl rfl (take_ofW HT_.out HW_.out (by kernel_rfl)) (fun _ _ _ h => h) (Or.inl ⟨by rfl, ?_⟩) hHeld ?_ ?_; rotate_left
                ·rintro w' ⟨s0, s1, s2, s3, s4, s5, s6, s7, s8, s9, s10, s11, s12⟩
                 go_simp
                 with_reducible rfl
                rotate_left; · (simp only [Act.put, sT, sZ, sS, i64_w, i32_w]; rfl)
                refine take_ (i := 57) (N := some 130) (v := ?_) (a' := ?_) #[I,I,I,I,I,I,I,I,I,I,I,I,I,I,I,I,I,I,I,I,I,I,I,I,I,I,I,I,I,I,I,I,I,I,I,I,I,I,I,I,I,I,I,I,I,I,I,I,I,I,I,I,I,I,I,I,I,I,O,O,O,O] rfl rfl (take_ofW HT_.out HW_.out (by kernel_rfl)) (fun _ _ _ h => h) (Or.inl ⟨by rfl, ?_⟩) hHeld ?_ ?_; rotate_left
                ·rintro w' ⟨s0, s1, s2, s3, s4, s5, s6, s7, s8, s9, s10, s11, s12⟩
                 go_simp
                 with_reducible rfl
                rotate_left; · (simp only [Act.put, sT, sZ, sS, i64_w, i32_w]; rfl)
                refine take_ (i := 58) (N := some 131) (v := ?_) (a' := ?_) #[I,I,I,I,I,I,I,I,I,I,I,I,I,I,I,I,I,I,I,I,I,I,I,I,I,I,I,I,I,I,I,I,I,I,I,I,I,I,I,I,I,I,I,I,I,I,I,I,I,I,I,I,I,I,I,I,I,I,I,O,O,O] rfl rfl (take_ofW HT_.out HW_.out (by kernel_rfl)) (fun _ _ _ h => h) (Or.inl ⟨by rfl, ?_⟩) hHeld ?_ ?_; rotate_left
                ·rintro w' ⟨s0, s1, s2, s3, s4, s5, s6, s7, s8, s9, s10, s11, s12⟩
                 go_simp
                 with_reducible rfl
                rotate_left; · (simp only [Act.put, sT, sZ, sS, i64_w, i32_w]; rfl)
                refine one_ (i := 59) (N := some 132) #[I,I,I,I,I,I,I,I,I,I,I,I,I,I,I,I,I,I,I,I,I,I,I,I,I,I,I,I,I,I,I,I,I,I,I,I,I,I,I,I,I,I,I,I,I,I,I,I,I,I,I,I,I,I,I,I,I,I,I,I,O,O] rfl rfl (one_of HT_.out (by kernel_rfl)) (by decide) (fun K hK => ?_)
                refine goes_ Try.func14 (by kernel_rfl) rfl #[.agg #[.int .i64 a0_0, .int .i64 a0_1, .slice A0_2 l0_2.length c0_2], .agg #[.int .i64 a1_0, .int .i64 a1_1], .agg #[.int .i64 a1_0, .int .i64 a1_1]] (by rfl) rfl rfl (by (try simp only [List.map_toArray, List.map_cons, List.map_nil]); first | done | rfl | (simp; done)) ?_
                (with_reducible refine (sight_Sees.calls k _ _ _ _ _ _ _ _ _ _ _ (RO.at_ HR0_2.out HK.out) HC0_2.out Hc31.out).mono ?_)
                rintro e_ w49 ⟨rfl, hb_⟩
                refine ⟨_, rfl, ?_⟩
                replace HS := Aside0.mk (HS.out.below hb_)
                replace HK := Aside0.mk (HK.out.trans (Keep.below hb_))
                refine hK.out _ _ ⟨bc (SL.get3 HS.out) 0 rfl, bc (SL.get3 HS.out) 1 rfl, bc (SL.get3 HS.out) 2 rfl, bc (SL.get6 HS.out) 0 rfl, bc (SL.get6 HS.out) 1 rfl, bc (SL.get5 HS.out) 0 rfl, bc (SL.get5 HS.out) 1 rfl, bc (SL.get1 HS.out) 0 rfl, bc (SL.get1 HS.out) 1 rfl, bc (SL.get1 HS.out) 2 rfl, bc (SL.get7 HS.out) 0 rfl, bc (SL.get7 HS.out) 1 rfl, bc (SL.get7 HS.out) 2 rfl⟩ (fun hHeld => ?_)
                clear hK K
                refine norm_ (a' := ?_) ?_ ?_; rotate_left
                ·show Act.put _ (some 132) _ = _
                 simp only [Act.put, sT, sZ, sS, i64_w, i32_w]
                 rfl
                refine pure_ (i := 60) (N := some 133) (v := ?_) (a' := ?_) #[I,I,I,I,I,I,I,I,I,I,I,I,I,I,I,I,I,I,I,I,I,I,I,I,I,I,I,I,I,I,I,I,I,I,I,I,I,I,I,I,I,I,I,I,I,I,I,I,I,I,I,I,I,I,I,I,I,I,I,I,I,O] rfl rfl (any_of HT_.out (by kernel_rfl)) (fun _ _ _ h => h) (Or.inl ⟨by rfl, ?_⟩) ?_ ?_; rotate_left; · (intro w'; go_simp; with_reducible rfl)
                rotate_left; · (simp only [Act.put, sT, sZ, sS, i64_w, i32_w]; rfl)
                refine pure_ (i := 61) (N := some 8) (v := ?_) (a' := ?_) #[I,I,I,I,I,I,I,I,I,I,I,I,I,I,I,I,I,I,I,I,I,I,I,I,I,I,I,I,I,I,I,I,I,I,I,I,I,I,I,I,I,I,I,I,I,I,I,I,I,I,I,I,I,I,I,I,I,I,I,I,I,I] rfl rfl (any_of HT_.out (by kernel_rfl)) (fun _ _ _ h => h) (Or.inl ⟨by rfl, ?_⟩) ?_ ?_; rotate_left; · (intro w'; go_simp; with_reducible rfl)
                rotate_left; · (simp only [Act.put, sT, sZ, sS, i64_w, i32_w]; rfl)
                refine done_ (done_of HT_.out (by kernel_rfl)) ?_
                try go_wp2
                go_ret
                replace HS := Aside0.mk (SL.tail (SL.tail (SL.tail (SL.tail (SL.tail (SL.tail (SL.tail (SL.tail HS.out))))))))
                unfold barrowlaw07_SightWalls.Post
                exact ⟨by first | rfl | (simp; done) | (simp [*]; done) | (simp at c21b0 ⊢; first | exact c21b0 | (simp [c21b0]; done)), HS.out, HK.out⟩
              ·replace c29 := Bool.eq_false_iff.mpr c29
               subst c29
               rw [if_neg (show ¬ (false = true) by decide)] at H
               exact absurd H (by simp)
             ·replace c27 := Bool.eq_false_iff.mpr c27
              subst c27
              rw [if_neg (show ¬ (false = true) by decide)] at H
              replace H := Option.bind_eq_some_iff.1 H
              obtain ⟨t503, Hc640, H⟩ := H
              try dsimp only at H
              have Hc64 := Aside0.mk Hc640
              clear Hc640
              by_cases c65 : (t497 != t503) = true
              ·rw [if_pos c65] at H
               have c65b0 : (t497 != t503) = true := c65
               (try (have c65b1 : decide (t497 = t503) = false := by simpa using c65))
               (try (have c65b2 : (t497 == t503) = false := by simpa using c65))
               (try (have c65b3 : ¬ (t497 = t503) := by simpa using c65))
               clear c65
               by_cases c66 : t497 = true
               ·subst c66
                rw [if_pos rfl] at H
                replace H := Option.bind_eq_some_iff.1 H
                obtain ⟨t504, Hc670, H⟩ := H
                try dsimp only at H
                have Hc67 := Aside0.mk Hc670
                clear Hc670
                by_cases c68 : t504 = true
                ·subst c68
                 rw [if_pos rfl] at H
                 replace H := Option.bind_eq_some_iff.1 H
                 obtain ⟨t505, Hc690, H⟩ := H
                 try dsimp only at H
                 have Hc69 := Aside0.mk Hc690
                 clear Hc690
                 replace H := Option.bind_eq_some_iff.1 H
                 obtain ⟨t506, Hc700, H⟩ := H
                 try dsimp only at H
                 have Hc70 := Aside0.mk Hc700
                 clear Hc700
                 by_cases c71 : t506 = true
                 ·subst c71
                  rw [if_pos rfl] at H
                  by_cases c72 : (!(t495 == a1_0) || (!(t496 == a1_1))) = true
                  ·rw [if_pos c72] at H
                   have c72b0 : (!(t495 == a1_0) || (!(t496 == a1_1))) = true := c72
                   clear c72
                   by_cases c73 : (!(t495 == a2_0) || (!(t496 == a2_1))) = true
                   ·rw [if_pos c73] at H
                    have c73b0 : (!(t495 == a2_0) || (!(t496 == a2_1))) = true := c73
                    clear c73
                    replace H := Option.bind_eq_some_iff.1 H
                    obtain ⟨t507, Hc740, H⟩ := H
                    try dsimp only at H
                    have Hc74 := Aside0.mk Hc740
                    clear Hc740
                    obtain rfl := Option.some.inj H
                    have hb_ := SL.at_ (SL.get1 HS.out)
                    have hz3000054_0_0 := ((blk_cell hb_ 0).trans rfl : _ = some (.int .i64 a1_0))
                    have hz3000054_1_0 := ((blk_cell hb_ 1).trans rfl : _ = some (.int .i64 a1_1))
                    clear hb_
                    have hb_ := SL.at_ (SL.get2 HS.out)
                    have hz3000053_0_0 := ((blk_cell hb_ 0).trans rfl : _ = some (.int .i64 a0_0))
                    have hz3000053_1_0 := ((blk_cell hb_ 1).trans rfl : _ = some (.int .i64 a0_1))
                    have hz3000053_2_0 := ((blk_cell hb_ 2).trans rfl : _ = some (.slice A0_2 l0_2.length c0_2))
                    clear hb_
                    refine hG_.out ?_
                    try simp only [c13b0, c13b1, c16b0, c16b1, c19b0, c19b1, c20b0, c21b0, c65b0, c72b0, c73b0]
                    try go_wp2_with (first | ((with_reducible refine gate_dst (N := 23) rfl ?_); (try (refine gate_guard (by rfl) ?_; dsimp only)); refine goesL_ (some 23) rfl rfl Try.func16 (by kernel_rfl) rfl #[.agg #[.int .i64 a0_0, .int .i64 a0_1, .slice A0_2 l0_2.length c0_2], .agg #[.int .i64 a1_0, .int .i64 a1_1]] rfl (by (try simp only [List.map_toArray, List.map_cons, List.map_nil]); first | done | rfl | (simp; done)) ?_; (with_reducible refine (grid_In.calls _ _ _ _ _ _ _ _ _ (RO.at_ HR0_2.out HK.out) HC0_2.out Hc9.out).mono ?_); rintro e_ w75 ⟨rfl, hb_⟩; refine ⟨_, rfl, ?_⟩; replace HS := Aside0.mk (HS.out.below hb_); replace HK := Aside0.mk (HK.out.trans (Keep.below hb_)); (try clear hz3000053_0_0 hz3000053_1_0 hz3000053_2_0); (try clear hz3000054_0_0 hz3000054_1_0); have hb_ := SL.at_ HS.out; have hz3000055_0_1 := ((blk_cell hb_ 0).trans rfl : _ = some (.int .i64 a2_0)); have hz3000055_1_1 := ((blk_cell hb_ 1).trans rfl : _ = some (.int .i64 a2_1)); clear hb_; have hb_ := SL.at_ (SL.get2 HS.out); have hz3000053_0_1 := ((blk_cell hb_ 0).trans rfl : _ = some (.int .i64 a0_0)); have hz3000053_1_1 := ((blk_cell hb_ 1).trans rfl : _ = some (.int .i64 a0_1)); have hz3000053_2_1 := ((blk_cell hb_ 2).trans rfl : _ = some (.slice A0_2 l0_2.length c0_2)); clear hb_) | ((with_reducible refine gate_dst (N := 29) rfl ?_); (try (refine gate_guard (by rfl) ?_; dsimp only)); refine goesL_ (some 29) rfl rfl Try.func16 (by kernel_rfl) rfl #[.agg #[.int .i64 a0_0, .int .i64 a0_1, .slice A0_2 l0_2.length c0_2], .agg #[.int .i64 a2_0, .int .i64 a2_1]] rfl (by (try simp only [List.map_toArray, List.map_cons, List.map_nil]); first | done | rfl | (simp; done)) ?_; (with_reducible refine (grid_In.calls _ _ _ _ _ _ _ _ _ (RO.at_ HR0_2.out HK.out) HC0_2.out Hc11.out).mono ?_); rintro e_ w76 ⟨rfl, hb_⟩; refine ⟨_, rfl, ?_⟩; replace HS := Aside0.mk (HS.out.below hb_); replace HK := Aside0.mk (HK.out.trans (Keep.below hb_)); (try clear hz3000053_0_1 hz3000053_1_1 hz3000053_2_1); (try clear hz3000055_0_1 hz3000055_1_1); have hb_ := SL.at_ (SL.get2 HS.out); have hz3000053_0_2 := ((blk_cell hb_ 0).trans rfl : _ = some (.int .i64 a0_0)); have hz3000053_1_2 := ((blk_cell hb_ 1).trans rfl : _ = some (.int .i64 a0_1)); have hz3000053_2_2 := ((blk_cell hb_ 2).trans rfl : _ = some (.slice A0_2 l0_2.length c0_2)); clear hb_))
                    refine start_ (n := 11) (S := fun w' => w'.cell? ⟨g3000053, 0, none⟩ = some (.int .i64 a0_0) ∧ w'.cell? ⟨g3000053, 1, none⟩ = some (.int .i64 a0_1) ∧ w'.cell? ⟨g3000053, 2, none⟩ = some (.slice A0_2 l0_2.length c0_2)) (ds := []) #[O,O,O,O,O,O,O,O,O,O,O] (by kernel_rfl) rfl rfl ⟨bc (SL.get2 HS.out) 0 rfl, bc (SL.get2 HS.out) 1 rfl, bc (SL.get2 HS.out) 2 rfl⟩ (fun hHeld => ?_); refine with_tabW barrowlaw07_SightWalls.tab5 barrowlaw07_SightWalls.bits5 (fun HT_ HW_ => ?_)
                    replace HK := Aside0.mk (Keep.drew HK.out)
                    replace HS := Aside0.mk (SL.drew HS.out)
                    refine pure_ (i := 0) (N := some 39) (v := ?_) (a' := ?_) #[I,O,O,O,O,O,O,O,O,O,O] rfl rfl (any_of HT_.out (by kernel_rfl)) (fun _ _ _ h => h) (Or.inl ⟨by rfl, ?_⟩) ?_ ?_; rotate_left; · (intro w'; go_simp; with_reducible rfl)
                    rotate_left; · (simp only [Act.put, sT, sZ, sS, i64_w, i32_w]; rfl)
                    refine pure_ (i := 2) (N := some 41) (v := ?_) (a' := ?_) #[I,O,I,O,O,O,O,O,O,O,O] rfl rfl (any_of HT_.out (by kernel_rfl)) (fun _ _ _ h => h) (Or.inl ⟨by rfl, ?_⟩) ?_ ?_; rotate_left; · (intro w'; go_simp; with_reducible rfl)
                    rotate_left; · (simp only [Act.put, sT, sZ, sS, i64_w, i32_w]; rfl)
                    refine pure_ (i := 4) (N := some 43) (v := ?_) (a' := ?_) #[I,O,I,O,I,O,O,O,O,O,O] rfl rfl (any_of HT_.out (by kernel_rfl)) (fun _ _ _ h => h) (Or.inl ⟨by rfl, ?_⟩) ?_ ?_; rotate_left; · (intro w'; go_simp; with_reducible rfl)
                    rotate_left; · (simp only [Act.put, sT, sZ, sS, i64_w, i32_w]; rfl)
                    refine take_ (i := 1) (N := some 40) (v := ?_) (a' := ?_) #[I,I,I,O,I,O,O,O,O,O,O] rfl rfl (take_ofW HT_.out HW_.out (by kernel_rfl)) (fun _ _ _ h => h) (Or.inl ⟨by rfl, ?_⟩) hHeld ?_ ?_; rotate_left
                    ·rintro w' ⟨s0, s1, s2⟩
                     go_simp
                     with_reducible rfl
                    rotate_left; · (simp only [Act.put, sT, sZ, sS, i64_w, i32_w]; rfl)
                    refine take_ (i := 3) (N := some 42) (v := ?_) (a' := ?_) #[I,I,I,I,I,O,O,O,O,O,O] rfl rfl (take_ofW HT_.out HW_.out (by kernel_rfl)) (fun _ _ _ h => h) (Or.inl ⟨by rfl, ?_⟩) hHeld ?_ ?_; rotate_left
                    ·rintro w' ⟨s0, s1, s2⟩
                     go_simp
                     with_reducible rfl
                    rotate_left; · (simp only [Act.put, sT, sZ, sS, i64_w, i32_w]; rfl)
                    refine take_ (i := 5) (N := some 44) (v := ?_) (a' := ?_) #[I,I,I,I,I,I,O,O,O,O,O] rfl rfl (take_ofW HT_.out HW_.out (by kernel_rfl)) (fun _ _ _ h => h) (Or.inl ⟨by rfl, ?_⟩) hHeld ?_ ?_; rotate_left
                    ·rintro w' ⟨s0, s1, s2⟩
                     go_simp
                     with_reducible rfl
                    rotate_left; · (simp only [Act.put, sT, sZ, sS, i64_w, i32_w]; rfl)
                    refine pure_ (i := 6) (N := some 45) (v := ?_) (a' := ?_) #[I,I,I,I,I,I,I,O,O,O,O] rfl rfl (any_of HT_.out (by kernel_rfl)) (fun _ _ _ h => h) (Or.inl ⟨by rfl, ?_⟩) ?_ ?_; rotate_left; · (intro w'; go_simp; with_reducible rfl)
                    rotate_left; · (simp only [Act.put, sT, sZ, sS, i64_w, i32_w]; rfl)
                    refine join_ (σ := Option Addr × Nat × Nat) 1 #[I,I,I,I,I,I,I,I,I,I,O] (fun s_ => [(46, .slice s_.1 y487.length s_.2.1), (47, .agg #[.int .i64 a0_0, .int .i64 a0_1, .slice s_.1 y487.length s_.2.1]), (11, .pointer (some ⟨s_.2.2, 0, none⟩))]) (fun s_ w_ => Keep S w w_ ∧ SL (row Kd.bool 4 (.slice s_.1 y487.length s_.2.1) y487 :: cells s_.2.2 24 [.int .i64 0, .int .i64 0, .slice none 0 0].toArray :: cells g3000055 26 [.int .i64 a2_0, .int .i64 a2_1].toArray :: cells g3000054 26 [.int .i64 a1_0, .int .i64 a1_1].toArray :: cells g3000053 24 [.int .i64 a0_0, .int .i64 a0_1, .slice A0_2 l0_2.length c0_2].toArray :: L) w_ S) ?_ ?_; rotate_left
                    ·intro hCont
                     refine two_ (i := 7) (j := 9) (Ni := some 46) (Nj := some 11) #[I,I,I,I,I,I,I,I,O,O,O] #[I,I,I,I,I,I,I,O,O,I,O] rfl rfl rfl rfl (two_of HT_.out (by kernel_rfl)) (by decide) (by decide) (fun K hK => ?_) (fun K hK => ?_)
                     ·skip
                      refine st_of (by rfl) ?_
                      refine op_make (S := S) (enc := Value.bool) (h1 := fun _ => rfl) false 22 4 1 (.tmp 45) (.tmp 45) rfl Try.underlying22 (by kernel_rfl) rfl (by decide) (j486) rfl rfl (of_decide_eq_true (by first | (with_reducible assumption) | assumption)) (by have := LMc17.out; omega) y487 Ny487.out (HF.out.keep HK.out) HS.out ?_
                      intro Az3000056 cz3000056 w96 hs_ hk_
                      replace HS := Aside0.mk ((show SL (row Kd.bool 4 (.slice Az3000056 y487.length cz3000056) y487 :: _) _ _ from hs_))
                      replace HK := Aside0.mk (HK.out.trans hk_)
                      refine hK.out _ _ ⟨bc (SL.get3 HS.out) 0 rfl, bc (SL.get3 HS.out) 1 rfl, bc (SL.get3 HS.out) 2 rfl⟩ (fun hHeld => ?_)
                      clear hK K
                      refine norm_ (a' := ?_) ?_ ?_; rotate_left
                      ·show Act.put _ (some 46) _ = _
                       simp only [Act.put, sT, sZ, sS, i64_w, i32_w]
                       rfl
                      refine pure_ (i := 8) (N := some 47) (v := ?_) (a' := ?_) #[I,I,I,I,I,I,I,I,I,O,O] rfl rfl (any_of HT_.out (by kernel_rfl)) (fun _ _ _ h => h) (Or.inl ⟨by rfl, ?_⟩) ?_ ?_; rotate_left; · (intro w'; go_simp; with_reducible rfl)
                      rotate_left; · (simp only [Act.put, sT, sZ, sS, i64_w, i32_w]; rfl)
                      refine one_ (i := 9) (N := some 11) #[I,I,I,I,I,I,I,I,I,I,O] rfl rfl (one_of HT_.out (by kernel_rfl)) (by decide) (fun K hK => ?_)
                      replace HS := Aside0.mk (SL.get3 (SL.get3 (SL.get3 HS.out)))
                      refine st_of (by rfl) ?_
                      refine op_box (S := S) (cs := #[.int .i64 0, .int .i64 0, .slice none 0 0]) (t := 24) (HF.out.keep HK.out) HS.out (by first | (go_simp; done) | (go_simp; rfl)) ?_
                      intro g3000057 w97 hs_ hk_
                      replace HS := Aside0.mk (hs_)
                      replace HK := Aside0.mk (HK.out.trans hk_)
                      refine hK.out _ _ ⟨bc (SL.get3 HS.out) 0 rfl, bc (SL.get3 HS.out) 1 rfl, bc (SL.get3 HS.out) 2 rfl⟩ (fun hHeld => ?_)
                      clear hK K
                      refine norm_ (a' := ?_) ?_ ?_; rotate_left
                      ·show Act.put _ (some 11) _ = _
                       simp only [Act.put, sT, sZ, sS, i64_w, i32_w]
                       rfl
                      exact norm_ (by simp only [putAll, Act.put, sT, sZ, sS]) (hCont (Az3000056, cz3000056, g3000057) _ ⟨HK.out, (SL.get4 (SL.get3 (SL.get3 (SL.get3 (SL.get3 HS.out)))))⟩)
                     ·skip
                      refine st_of (by rfl) ?_
                      refine op_box (S := S) (cs := #[.int .i64 0, .int .i64 0, .slice none 0 0]) (t := 24) (HF.out.keep HK.out) HS.out (by first | (go_simp; done) | (go_simp; rfl)) ?_
                      intro g3000057 w98 hs_ hk_
                      replace HS := Aside0.mk (hs_)
                      replace HK := Aside0.mk (HK.out.trans hk_)
                      refine hK.out _ _ ⟨bc (SL.get3 HS.out) 0 rfl, bc (SL.get3 HS.out) 1 rfl, bc (SL.get3 HS.out) 2 rfl⟩ (fun hHeld => ?_)
                      clear hK K
                      refine norm_ (a' := ?_) ?_ ?_; rotate_left
                      ·show Act.put _ (some 11) _ = _
                       simp only [Act.put, sT, sZ, sS, i64_w, i32_w]
                       rfl
                      refine one_ (i := 7) (N := some 46) #[I,I,I,I,I,I,I,I,O,I,O] rfl rfl (one_of HT_.out (by kernel_rfl)) (by decide) (fun K hK => ?_)
                      replace HS := Aside0.mk (SL.get3 (SL.get3 (SL.get3 HS.out)))
                      refine st_of (by rfl) ?_
                      refine op_make (S := S) (enc := Value.bool) (h1 := fun _ => rfl) false 22 4 1 (.tmp 45) (.tmp 45) rfl Try.underlying22 (by kernel_rfl) rfl (by decide) (j486) rfl rfl (of_decide_eq_true (by first | (with_reducible assumption) | assumption)) (by have := LMc17.out; omega) y487 Ny487.out (HF.out.keep HK.out) HS.out ?_
                      intro Az3000056 cz3000056 w99 hs_ hk_
                      replace HS := Aside0.mk ((show SL (row Kd.bool 4 (.slice Az3000056 y487.length cz3000056) y487 :: _) _ _ from hs_))
                      replace HK := Aside0.mk (HK.out.trans hk_)
                      refine hK.out _ _ ⟨bc (SL.get3 HS.out) 0 rfl, bc (SL.get3 HS.out) 1 rfl, bc (SL.get3 HS.out) 2 rfl⟩ (fun hHeld => ?_)
                      clear hK K
                      refine norm_ (a' := ?_) ?_ ?_; rotate_left
                      ·show Act.put _ (some 46) _ = _
                       simp only [Act.put, sT, sZ, sS, i64_w, i32_w]
                       rfl
                      refine pure_ (i := 8) (N := some 47) (v := ?_) (a' := ?_) #[I,I,I,I,I,I,I,I,I,I,O] rfl rfl (any_of HT_.out (by kernel_rfl)) (fun _ _ _ h => h) (Or.inl ⟨by rfl, ?_⟩) ?_ ?_; rotate_left; · (intro w'; go_simp; with_reducible rfl)
                      rotate_left; · (simp only [Act.put, sT, sZ, sS, i64_w, i32_w]; rfl)
                      exact norm_ (by simp only [putAll, Act.put, sT, sZ, sS]) (hCont (Az3000056, cz3000056, g3000057) _ ⟨HK.out, (SL.get4 (SL.get4 (SL.get3 (SL.get3 (SL.get3 HS.out)))))⟩)
                    rintro ⟨Az3000056, cz3000056, g3000057⟩ w95 ⟨hk_, hs_⟩
                    clear HK HS
                    have HK := Aside0.mk hk_
                    have HS := Aside0.mk hs_
                    clear hk_ hs_
                    have hHeld := (⟨bc (SL.get4 HS.out) 0 rfl, bc (SL.get4 HS.out) 1 rfl, bc (SL.get4 HS.out) 2 rfl⟩ : w95.cell? ⟨g3000053, 0, none⟩ = some (.int .i64 a0_0) ∧ w95.cell? ⟨g3000053, 1, none⟩ = some (.int .i64 a0_1) ∧ w95.cell? ⟨g3000053, 2, none⟩ = some (.slice A0_2 l0_2.length c0_2))
                    replace HS := Aside0.mk (SL.get4 (SL.get3 (SL.get4 (SL.get4 (SL.get4 HS.out)))))
                    refine norm_ (a' := ?_) ?_ ?_; rotate_left; · (simp only [putAll, Act.put, sT, sZ, sS]; rfl)
                    refine one_ (i := 10) (N := none) #[I,I,I,I,I,I,I,I,I,I,I] rfl rfl (one_of HT_.out (by kernel_rfl)) (by decide) (fun K hK => ?_)
                    refine st_of (by rfl) ?_
                    refine op_store (S := S) 24 (.tmp 11) (.tmp 47) rfl g3000057 0 (.agg #[.int .i64 a0_0, .int .i64 a0_1, .slice Az3000056 y487.length cz3000056]) [.int .i64 a0_0, .int .i64 a0_1, .slice Az3000056 y487.length cz3000056] rfl rfl rfl (by kernel_rfl) (by simp [Value.oneCell']) HS.out (by simp) ?_
                    intro w79 hs_ hk_
                    replace HS := Aside0.mk ((show SL (cells g3000057 24 [.int .i64 a0_0, .int .i64 a0_1, .slice Az3000056 y487.length cz3000056].toArray :: _) _ _ from hs_))
                    replace HK := Aside0.mk (HK.out.trans hk_)
                    refine hK.out _ _ ⟨bc (SL.get4 HS.out) 0 rfl, bc (SL.get4 HS.out) 1 rfl, bc (SL.get4 HS.out) 2 rfl⟩ (fun hHeld => ?_)
                    clear hK K
                    refine done_ (done_of HT_.out (by kernel_rfl)) ?_
                    try go_wp2
                    refine start_ (n := 11) (S := fun w' => w'.cell? ⟨g3000053, 0, none⟩ = some (.int .i64 a0_0) ∧ w'.cell? ⟨g3000053, 1, none⟩ = some (.int .i64 a0_1) ∧ w'.cell? ⟨g3000053, 2, none⟩ = some (.slice A0_2 l0_2.length c0_2)) (ds := []) #[O,O,O,O,O,O,O,O,O,O,O] (by kernel_rfl) rfl rfl ⟨bc (SL.get4 HS.out) 0 rfl, bc (SL.get4 HS.out) 1 rfl, bc (SL.get4 HS.out) 2 rfl⟩ (fun hHeld => ?_); refine with_tabW barrowlaw07_SightWalls.tab6 barrowlaw07_SightWalls.bits6 (fun HT_ HW_ => ?_)
                    replace HK := Aside0.mk (Keep.drew HK.out)
                    replace HS := Aside0.mk (SL.drew HS.out)
                    refine pure_ (i := 0) (N := some 48) (v := ?_) (a' := ?_) #[I,O,O,O,O,O,O,O,O,O,O] rfl rfl (any_of HT_.out (by kernel_rfl)) (fun _ _ _ h => h) (Or.inl ⟨by rfl, ?_⟩) ?_ ?_; rotate_left; · (intro w'; go_simp; with_reducible rfl)
                    rotate_left; · (simp only [Act.put, sT, sZ, sS, i64_w, i32_w]; rfl)
                    refine pure_ (i := 2) (N := some 50) (v := ?_) (a' := ?_) #[I,O,I,O,O,O,O,O,O,O,O] rfl rfl (any_of HT_.out (by kernel_rfl)) (fun _ _ _ h => h) (Or.inl ⟨by rfl, ?_⟩) ?_ ?_; rotate_left; · (intro w'; go_simp; with_reducible rfl)
                    rotate_left; · (simp only [Act.put, sT, sZ, sS, i64_w, i32_w]; rfl)
                    refine pure_ (i := 5) (N := some 53) (v := ?_) (a' := ?_) #[I,O,I,O,O,I,O,O,O,O,O] rfl rfl (any_of HT_.out (by kernel_rfl)) (fun _ _ _ h => h) (Or.inl ⟨by rfl, ?_⟩) ?_ ?_; rotate_left; · (intro w'; go_simp; with_reducible rfl)
                    rotate_left; · (simp only [Act.put, sT, sZ, sS, i64_w, i32_w]; rfl)
                    refine take_ (i := 1) (N := some 49) (v := ?_) (a' := ?_) #[I,I,I,O,O,I,O,O,O,O,O] rfl rfl (take_ofW HT_.out HW_.out (by kernel_rfl)) (fun _ _ _ h => h) (Or.inl ⟨by rfl, ?_⟩) hHeld ?_ ?_; rotate_left
                    ·rintro w' ⟨s0, s1, s2⟩
                     go_simp
                     with_reducible rfl
                    rotate_left; · (simp only [Act.put, sT, sZ, sS, i64_w, i32_w]; rfl)
                    refine take_ (i := 3) (N := some 51) (v := ?_) (a' := ?_) #[I,I,I,I,O,I,O,O,O,O,O] rfl rfl (take_ofW HT_.out HW_.out (by kernel_rfl)) (fun _ _ _ h => h) (Or.inl ⟨by rfl, ?_⟩) hHeld ?_ ?_; rotate_left
                    ·rintro w' ⟨s0, s1, s2⟩
                     go_simp
                     with_reducible rfl
                    rotate_left; · (simp only [Act.put, sT, sZ, sS, i64_w, i32_w]; rfl)
                    refine take_ (i := 6) (N := some 54) (v := ?_) (a' := ?_) #[I,I,I,I,O,I,I,O,O,O,O] rfl rfl (take_ofW HT_.out HW_.out (by kernel_rfl)) (fun _ _ _ h => h) (Or.inl ⟨by rfl, ?_⟩) hHeld ?_ ?_; rotate_left
                    ·rintro w' ⟨s0, s1, s2⟩
                     go_simp
                     with_reducible rfl
                    rotate_left; · (simp only [Act.put, sT, sZ, sS, i64_w, i32_w]; rfl)
                    refine join_ (σ := Option Addr × Nat × Option Addr × Nat × Nat) 1 #[I,I,I,I,I,I,I,I,I,I,O] (fun s_ => [(52, .slice s_.2.2.1 0 s_.2.2.2.1), (55, .slice s_.1 y489.length s_.2.1), (56, .agg #[.int .i64 a0_0, .int .i64 a0_1, .slice s_.1 y489.length s_.2.1]), (12, .pointer (some ⟨s_.2.2.2.2, 0, none⟩))]) (fun s_ w_ => Keep S w w_ ∧ SL (row Kd.bool 4 (.slice s_.1 y489.length s_.2.1) y489 :: cells s_.2.2.2.2 24 [.int .i64 0, .int .i64 0, .slice none 0 0].toArray :: cells g3000057 24 [.int .i64 a0_0, .int .i64 a0_1, .slice Az3000056 y487.length cz3000056].toArray :: row Kd.bool 4 (.slice Az3000056 y487.length cz3000056) y487 :: cells g3000055 26 [.int .i64 a2_0, .int .i64 a2_1].toArray :: cells g3000054 26 [.int .i64 a1_0, .int .i64 a1_1].toArray :: cells g3000053 24 [.int .i64 a0_0, .int .i64 a0_1, .slice A0_2 l0_2.length c0_2].toArray :: L) w_ S) ?_ ?_; rotate_left
                    ·intro hCont
                     refine two_ (i := 4) (j := 9) (Ni := some 52) (Nj := some 12) #[I,I,I,I,I,I,I,O,O,O,O] #[I,I,I,I,O,I,I,O,O,I,O] rfl rfl rfl rfl (two_of HT_.out (by kernel_rfl)) (by decide) (by decide) (fun K hK => ?_) (fun K hK => ?_)
                     ·skip
                      refine st_of (by rfl) ?_
                      refine op_row (S := S) (enc := Value.bool) (h1 := fun _ => rfl) 4 y488 #[] 0 (by rw [← Ny488.out]; rfl) (by rw [← Ny488.out]; rfl) (by decide) (HF.out.keep HK.out) HS.out (by first | (go_simp; done) | (go_simp; rfl)) ?_
                      intro Az3000058 cz3000058 w101 hs_ hk_
                      replace HS := Aside0.mk ((show SL (row Kd.bool 4 (.slice Az3000058 0 cz3000058) y488 :: _) _ _ from hs_))
                      replace HK := Aside0.mk (HK.out.trans hk_)
                      refine hK.out _ _ ⟨bc (SL.get5 HS.out) 0 rfl, bc (SL.get5 HS.out) 1 rfl, bc (SL.get5 HS.out) 2 rfl⟩ (fun hHeld => ?_)
                      clear hK K
                      refine norm_ (a' := ?_) ?_ ?_; rotate_left
                      ·show Act.put _ (some 52) _ = _
                       simp only [Act.put, sT, sZ, sS, i64_w, i32_w]
                       rfl
                      refine two_ (i := 7) (j := 9) (Ni := some 55) (Nj := some 12) #[I,I,I,I,I,I,I,I,O,O,O] #[I,I,I,I,I,I,I,O,O,I,O] rfl rfl rfl rfl (two_of HT_.out (by kernel_rfl)) (by decide) (by decide) (fun K hK => ?_) (fun K hK => ?_)
                      ·skip
                       replace HS := Aside0.mk (SL.get5 (SL.get5 (SL.get5 (SL.get5 (SL.get5 HS.out)))))
                       refine st_of (by rfl) ?_
                       refine op_append (S := S) (enc := Value.bool) (h1 := fun _ => rfl) false (.tmp 52) (.tmp 54) 22 4 (.bool false) 1 rfl Try.underlying22 info4 rfl (by decide) (.slice Az3000058 0 cz3000058) rfl rfl (HF.out.keep HK.out) (SL.get5 HS.out) (RO.at_ HR0_2.out HK.out) (by have := LMc18.out; omega) y489 Ny489.out ?_
                       intro A490 c491 w102 hs_ hk_
                       replace HS := Aside0.mk ((SL.back5 (show SL (row Kd.bool 4 (.slice A490 y489.length c491) y489 :: _) _ _ from hs_)))
                       replace HK := Aside0.mk (HK.out.trans hk_)
                       refine hK.out _ _ ⟨bc (SL.get4 HS.out) 0 rfl, bc (SL.get4 HS.out) 1 rfl, bc (SL.get4 HS.out) 2 rfl⟩ (fun hHeld => ?_)
                       clear hK K
                       refine norm_ (a' := ?_) ?_ ?_; rotate_left
                       ·show Act.put _ (some 55) _ = _
                        simp only [Act.put, sT, sZ, sS, i64_w, i32_w]
                        rfl
                       refine pure_ (i := 8) (N := some 56) (v := ?_) (a' := ?_) #[I,I,I,I,I,I,I,I,I,O,O] rfl rfl (any_of HT_.out (by kernel_rfl)) (fun _ _ _ h => h) (Or.inl ⟨by rfl, ?_⟩) ?_ ?_; rotate_left; · (intro w'; go_simp; with_reducible rfl)
                       rotate_left; · (simp only [Act.put, sT, sZ, sS, i64_w, i32_w]; rfl)
                       refine one_ (i := 9) (N := some 12) #[I,I,I,I,I,I,I,I,I,I,O] rfl rfl (one_of HT_.out (by kernel_rfl)) (by decide) (fun K hK => ?_)
                       refine st_of (by rfl) ?_
                       refine op_box (S := S) (cs := #[.int .i64 0, .int .i64 0, .slice none 0 0]) (t := 24) (HF.out.keep HK.out) HS.out (by first | (go_simp; done) | (go_simp; rfl)) ?_
                       intro g3000059 w103 hs_ hk_
                       replace HS := Aside0.mk (hs_)
                       replace HK := Aside0.mk (HK.out.trans hk_)
                       refine hK.out _ _ ⟨bc (SL.get5 HS.out) 0 rfl, bc (SL.get5 HS.out) 1 rfl, bc (SL.get5 HS.out) 2 rfl⟩ (fun hHeld => ?_)
                       clear hK K
                       refine norm_ (a' := ?_) ?_ ?_; rotate_left
                       ·show Act.put _ (some 12) _ = _
                        simp only [Act.put, sT, sZ, sS, i64_w, i32_w]
                        rfl
                       exact norm_ (by simp only [putAll, Act.put, sT, sZ, sS]) (hCont (A490, c491, Az3000058, cz3000058, g3000059) _ ⟨HK.out, (SL.get6 (SL.get5 (SL.get5 (SL.get5 (SL.get5 (SL.get5 (SL.get5 HS.out)))))))⟩)
                      ·skip
                       replace HS := Aside0.mk (SL.get5 (SL.get5 (SL.get5 (SL.get5 (SL.get5 HS.out)))))
                       refine st_of (by rfl) ?_
                       refine op_box (S := S) (cs := #[.int .i64 0, .int .i64 0, .slice none 0 0]) (t := 24) (HF.out.keep HK.out) HS.out (by first | (go_simp; done) | (go_simp; rfl)) ?_
                       intro g3000059 w104 hs_ hk_
                       replace HS := Aside0.mk (hs_)
                       replace HK := Aside0.mk (HK.out.trans hk_)
                       refine hK.out _ _ ⟨bc (SL.get5 HS.out) 0 rfl, bc (SL.get5 HS.out) 1 rfl, bc (SL.get5 HS.out) 2 rfl⟩ (fun hHeld => ?_)
                       clear hK K
                       refine norm_ (a' := ?_) ?_ ?_; rotate_left
                       ·show Act.put _ (some 12) _ = _
                        simp only [Act.put, sT, sZ, sS, i64_w, i32_w]
                        rfl
                       refine one_ (i := 7) (N := some 55) #[I,I,I,I,I,I,I,I,O,I,O] rfl rfl (one_of HT_.out (by kernel_rfl)) (by decide) (fun K hK => ?_)
                       replace HS := Aside0.mk (SL.get6 (SL.get6 (SL.get6 (SL.get6 (SL.get6 (SL.get6 HS.out))))))
                       refine st_of (by rfl) ?_
                       refine op_append (S := S) (enc := Value.bool) (h1 := fun _ => rfl) false (.tmp 52) (.tmp 54) 22 4 (.bool false) 1 rfl Try.underlying22 info4 rfl (by decide) (.slice Az3000058 0 cz3000058) rfl rfl (HF.out.keep HK.out) (SL.get5 HS.out) (RO.at_ HR0_2.out HK.out) (by have := LMc18.out; omega) y489 Ny489.out ?_
                       intro A490 c491 w105 hs_ hk_
                       replace HS := Aside0.mk ((SL.back5 (show SL (row Kd.bool 4 (.slice A490 y489.length c491) y489 :: _) _ _ from hs_)))
                       replace HK := Aside0.mk (HK.out.trans hk_)
                       refine hK.out _ _ ⟨bc (SL.get4 HS.out) 0 rfl, bc (SL.get4 HS.out) 1 rfl, bc (SL.get4 HS.out) 2 rfl⟩ (fun hHeld => ?_)
                       clear hK K
                       refine norm_ (a' := ?_) ?_ ?_; rotate_left
                       ·show Act.put _ (some 55) _ = _
                        simp only [Act.put, sT, sZ, sS, i64_w, i32_w]
                        rfl
                       refine pure_ (i := 8) (N := some 56) (v := ?_) (a' := ?_) #[I,I,I,I,I,I,I,I,I,I,O] rfl rfl (any_of HT_.out (by kernel_rfl)) (fun _ _ _ h => h) (Or.inl ⟨by rfl, ?_⟩) ?_ ?_; rotate_left; · (intro w'; go_simp; with_reducible rfl)
                       rotate_left; · (simp only [Act.put, sT, sZ, sS, i64_w, i32_w]; rfl)
                       exact norm_ (by simp only [putAll, Act.put, sT, sZ, sS]) (hCont (A490, c491, Az3000058, cz3000058, g3000059) _ ⟨HK.out, (SL.get6 (SL.get6 (SL.get4 (SL.get4 (SL.get4 (SL.get4 (SL.get4 HS.out)))))))⟩)
                     ·skip
                      refine st_of (by rfl) ?_
                      refine op_box (S := S) (cs := #[.int .i64 0, .int .i64 0, .slice none 0 0]) (t := 24) (HF.out.keep HK.out) HS.out (by first | (go_simp; done) | (go_simp; rfl)) ?_
                      intro g3000059 w106 hs_ hk_
                      replace HS := Aside0.mk (hs_)
                      replace HK := Aside0.mk (HK.out.trans hk_)
                      refine hK.out _ _ ⟨bc (SL.get5 HS.out) 0 rfl, bc (SL.get5 HS.out) 1 rfl, bc (SL.get5 HS.out) 2 rfl⟩ (fun hHeld => ?_)
                      clear hK K
                      refine norm_ (a' := ?_) ?_ ?_; rotate_left
                      ·show Act.put _ (some 12) _ = _
                       simp only [Act.put, sT, sZ, sS, i64_w, i32_w]
                       rfl
                      refine one_ (i := 4) (N := some 52) #[I,I,I,I,I,I,I,O,O,I,O] rfl rfl (one_of HT_.out (by kernel_rfl)) (by decide) (fun K hK => ?_)
                      replace HS := Aside0.mk (SL.get5 (SL.get5 (SL.get5 (SL.get5 (SL.get5 HS.out)))))
                      refine st_of (by rfl) ?_
                      refine op_row (S := S) (enc := Value.bool) (h1 := fun _ => rfl) 4 y488 #[] 0 (by rw [← Ny488.out]; rfl) (by rw [← Ny488.out]; rfl) (by decide) (HF.out.keep HK.out) HS.out (by first | (go_simp; done) | (go_simp; rfl)) ?_
                      intro Az3000058 cz3000058 w107 hs_ hk_
                      replace HS := Aside0.mk ((show SL (row Kd.bool 4 (.slice Az3000058 0 cz3000058) y488 :: _) _ _ from hs_))
                      replace HK := Aside0.mk (HK.out.trans hk_)
                      refine hK.out _ _ ⟨bc (SL.get5 HS.out) 0 rfl, bc (SL.get5 HS.out) 1 rfl, bc (SL.get5 HS.out) 2 rfl⟩ (fun hHeld => ?_)
                      clear hK K
                      refine norm_ (a' := ?_) ?_ ?_; rotate_left
                      ·show Act.put _ (some 52) _ = _
                       simp only [Act.put, sT, sZ, sS, i64_w, i32_w]
                       rfl
                      refine one_ (i := 7) (N := some 55) #[I,I,I,I,I,I,I,I,O,I,O] rfl rfl (one_of HT_.out (by kernel_rfl)) (by decide) (fun K hK => ?_)
                      replace HS := Aside0.mk (SL.get6 (SL.get6 (SL.get6 (SL.get6 (SL.get6 (SL.get6 HS.out))))))
                      refine st_of (by rfl) ?_
                      refine op_append (S := S) (enc := Value.bool) (h1 := fun _ => rfl) false (.tmp 52) (.tmp 54) 22 4 (.bool false) 1 rfl Try.underlying22 info4 rfl (by decide) (.slice Az3000058 0 cz3000058) rfl rfl (HF.out.keep HK.out) (SL.get6 HS.out) (RO.at_ HR0_2.out HK.out) (by have := LMc18.out; omega) y489 Ny489.out ?_
                      intro A490 c491 w108 hs_ hk_
                      replace HS := Aside0.mk ((SL.back6 (show SL (row Kd.bool 4 (.slice A490 y489.length c491) y489 :: _) _ _ from hs_)))
                      replace HK := Aside0.mk (HK.out.trans hk_)
                      refine hK.out _ _ ⟨bc (SL.get4 HS.out) 0 rfl, bc (SL.get4 HS.out) 1 rfl, bc (SL.get4 HS.out) 2 rfl⟩ (fun hHeld => ?_)
                      clear hK K
                      refine norm_ (a' := ?_) ?_ ?_; rotate_left
                      ·show Act.put _ (some 55) _ = _
                       simp only [Act.put, sT, sZ, sS, i64_w, i32_w]
                       rfl
                      refine pure_ (i := 8) (N := some 56) (v := ?_) (a' := ?_) #[I,I,I,I,I,I,I,I,I,I,O] rfl rfl (any_of HT_.out (by kernel_rfl)) (fun _ _ _ h => h) (Or.inl ⟨by rfl, ?_⟩) ?_ ?_; rotate_left; · (intro w'; go_simp; with_reducible rfl)
                      rotate_left; · (simp only [Act.put, sT, sZ, sS, i64_w, i32_w]; rfl)
                      exact norm_ (by simp only [putAll, Act.put, sT, sZ, sS]) (hCont (A490, c491, Az3000058, cz3000058, g3000059) _ ⟨HK.out, (SL.get6 (SL.get5 (SL.get4 (SL.get4 (SL.get4 (SL.get4 (SL.get4 HS.out)))))))⟩)
                    rintro ⟨A490, c491, Az3000058, cz3000058, g3000059⟩ w100 ⟨hk_, hs_⟩
                    clear HK HS
                    have HK := Aside0.mk hk_
                    have HS := Aside0.mk hs_
                    clear hk_ hs_
                    have hHeld := (⟨bc (SL.get6 HS.out) 0 rfl, bc (SL.get6 HS.out) 1 rfl, bc (SL.get6 HS.out) 2 rfl⟩ : w100.cell? ⟨g3000053, 0, none⟩ = some (.int .i64 a0_0) ∧ w100.cell? ⟨g3000053, 1, none⟩ = some (.int .i64 a0_1) ∧ w100.cell? ⟨g3000053, 2, none⟩ = some (.slice A0_2 l0_2.length c0_2))
                    replace HS := Aside0.mk (SL.get6 (SL.get5 (SL.get6 (SL.get6 (SL.get6 (SL.get6 (SL.get6 HS.out)))))))
                    refine norm_ (a' := ?_) ?_ ?_; rotate_left; · (simp only [putAll, Act.put, sT, sZ, sS]; rfl)
                    refine one_ (i := 10) (N := none) #[I,I,I,I,I,I,I,I,I,I,I] rfl rfl (one_of HT_.out (by kernel_rfl)) (by decide) (fun K hK => ?_)
                    refine st_of (by rfl) ?_
                    refine op_store (S := S) 24 (.tmp 12) (.tmp 56) rfl g3000059 0 (.agg #[.int .i64 a0_0, .int .i64 a0_1, .slice A490 y489.length c491]) [.int .i64 a0_0, .int .i64 a0_1, .slice A490 y489.length c491] rfl rfl rfl (by kernel_rfl) (by simp [Value.oneCell']) HS.out (by simp) ?_
                    intro w83 hs_ hk_
                    replace HS := Aside0.mk ((show SL (cells g3000059 24 [.int .i64 a0_0, .int .i64 a0_1, .slice A490 y489.length c491].toArray :: _) _ _ from hs_))
                    replace HK := Aside0.mk (HK.out.trans hk_)
                    refine hK.out _ _ ⟨bc (SL.get6 HS.out) 0 rfl, bc (SL.get6 HS.out) 1 rfl, bc (SL.get6 HS.out) 2 rfl⟩ (fun hHeld => ?_)
                    clear hK K
                    refine done_ (done_of HT_.out (by kernel_rfl)) ?_
                    try go_wp2
                    have pq493 : 0 ≤ (j492 : Int) := of_decide_eq_true (by first | (with_reducible assumption) | assumption)
                    have qq493 : j492 < ((y489.length : Int) : Int) := of_decide_eq_true (by first | (with_reducible assumption) | assumption)
                    obtain ⟨adq493, eq493, hxq493_0⟩ := Kd.at_bool (SL.row_c (SL.get1 HS.out)).2.2 j492 pq493 qq493
                    cases eq493
                    replace pq493 := eq_true pq493
                    replace qq493 := eq_true qq493
                    refine start_ (n := 10) (S := fun w' => w'.cell? ⟨g3000059, 2, none⟩ = some (.slice (some adq493) y489.length c491) ∧ w'.cell? (adq493.add j492.toNat) = some (.bool (rdOf false y489 j492))) (ds := [9]) #[O,O,O,O,O,O,O,O,O,O] (by kernel_rfl) rfl rfl ⟨bc HS.out 2 rfl, (SL.cell_sc (enc := Value.bool) (h1 := fun _ => rfl) false (SL.get1 HS.out) j492 (of_eq_true pq493) (of_eq_true qq493))⟩ (fun hHeld => ?_); refine with_tabW barrowlaw07_SightWalls.tab7 barrowlaw07_SightWalls.bits7 (fun HT_ HW_ => ?_)
                    replace HK := Aside0.mk (Keep.drew HK.out)
                    replace HS := Aside0.mk (SL.drew HS.out)
                    refine pure_ (i := 0) (N := some 57) (v := ?_) (a' := ?_) #[I,O,O,O,O,O,O,O,O,O] rfl rfl (any_of HT_.out (by kernel_rfl)) (fun _ _ _ h => h) (Or.inl ⟨by rfl, ?_⟩) ?_ ?_; rotate_left; · (intro w'; go_simp; with_reducible rfl)
                    rotate_left; · (simp only [Act.put, sT, sZ, sS, i64_w, i32_w]; rfl)
                    refine pure_ (i := 2) (N := some 59) (v := ?_) (a' := ?_) #[I,O,I,O,O,O,O,O,O,O] rfl rfl (any_of HT_.out (by kernel_rfl)) (fun _ _ _ h => h) (Or.inl ⟨by rfl, ?_⟩) ?_ ?_; rotate_left; · (intro w'; go_simp; with_reducible rfl)
                    rotate_left; · (simp only [Act.put, sT, sZ, sS, i64_w, i32_w]; rfl)
                    refine pure_ (i := 3) (N := some 60) (v := ?_) (a' := ?_) #[I,O,I,I,O,O,O,O,O,O] rfl rfl (any_of HT_.out (by kernel_rfl)) (fun _ _ _ h => h) (Or.inl ⟨by rfl, ?_⟩) ?_ ?_; rotate_left; · (intro w'; go_simp; with_reducible rfl)
                    rotate_left; · (simp only [Act.put, sT, sZ, sS, i64_w, i32_w]; rfl)
                    refine pure_ (i := 4) (N := some 61) (v := ?_) (a' := ?_) #[I,O,I,I,I,O,O,O,O,O] rfl rfl (any_of HT_.out (by kernel_rfl)) (fun _ _ _ h => h) (Or.inl ⟨by rfl, ?_⟩) ?_ ?_; rotate_left; · (intro w'; go_simp; with_reducible rfl)
                    rotate_left; · (simp only [Act.put, sT, sZ, sS, i64_w, i32_w]; rfl)
                    refine take_ (i := 1) (N := some 58) (v := ?_) (a' := ?_) #[I,I,I,I,I,O,O,O,O,O] rfl rfl (take_ofW HT_.out HW_.out (by kernel_rfl)) (fun _ _ _ h => h) (Or.inl ⟨by rfl, ?_⟩) hHeld ?_ ?_; rotate_left
                    ·rintro w' ⟨s0, s1⟩
                     go_simp
                     with_reducible rfl
                    rotate_left; · (simp only [Act.put, sT, sZ, sS, i64_w, i32_w]; rfl)
                    refine take_ (i := 5) (N := some 62) (v := ?_) (a' := ?_) #[I,I,I,I,I,I,O,O,O,O] rfl rfl (take_ofW HT_.out HW_.out (by kernel_rfl)) (fun _ _ _ h => h) (Or.inl ⟨by rfl, ?_⟩) hHeld ?_ ?_; rotate_left
                    ·rintro w' ⟨s0, s1⟩
                     go_simp
                     with_reducible rfl
                    rotate_left; · (simp only [Act.put, sT, sZ, sS, i64_w, i32_w]; rfl)
                    refine pure_ (i := 6) (N := some 63) (v := ?_) (a' := ?_) #[I,I,I,I,I,I,I,O,O,O] rfl rfl (any_of HT_.out (by kernel_rfl)) (fun _ _ _ h => h) (Or.inl ⟨by rfl, ?_⟩) ?_ ?_; rotate_left; · (intro w'; go_simp; with_reducible rfl)
                    rotate_left; · (simp only [Act.put, sT, sZ, sS, i64_w, i32_w]; rfl)
                    refine pure_ (i := 7) (N := some 64) (v := ?_) (a' := ?_) #[I,I,I,I,I,I,I,I,O,O] rfl rfl (any_of HT_.out (by kernel_rfl)) (fun _ _ _ h => h) (Or.inl ⟨by rfl, ?_⟩) ?_ ?_; rotate_left; · (intro w'; go_simp; with_reducible rfl)
                    rotate_left; · (simp only [Act.put, sT, sZ, sS, i64_w, i32_w]; rfl)
                    refine pure_ (i := 8) (N := some 65) (v := ?_) (a' := ?_) #[I,I,I,I,I,I,I,I,I,O] rfl rfl (any_of HT_.out (by kernel_rfl)) (fun _ _ _ h => h) (Or.inl ⟨by rfl, ?_⟩) ?_ ?_; rotate_left; · (intro w'; go_simp; with_reducible rfl)
                    rotate_left; · (simp only [Act.put, sT, sZ, sS, i64_w, i32_w]; rfl)
                    refine last_ (i := 9) (N := none) #[I,I,I,I,I,I,I,I,I,I] rfl rfl (one_of HT_.out (by kernel_rfl)) (by decide) (fun K hK => ?_)
                    refine st_of (by rfl) ?_
                    refine op_set (S := S) (enc := Value.bool) (h1 := fun _ => rfl) 4 (.tmp 65) (.const (.bool true)) rfl adq493 (j492) true (SL.get1 HS.out) (by rfl) rfl (by kernel_rfl) (of_decide_eq_true (by first | (with_reducible assumption) | assumption)) (of_decide_eq_true (by first | (with_reducible assumption) | assumption)) y494 Ny494.out ?_
                    intro w84 hs_ hk_
                    replace HS := Aside0.mk ((SL.back1 (show SL (row Kd.bool 4 (.slice (some adq493) y489.length c491) y494 :: _) _ _ from hs_)))
                    replace HK := Aside0.mk (HK.out.trans hk_)
                    refine hK.out _ _ ?_
                    clear hK K
                    refine done_ (done_of HT_.out (by kernel_rfl)) ?_
                    have hb_ := SL.at_ (SL.get4 HS.out)
                    have hz3000055_0_13 := ((blk_cell hb_ 0).trans rfl : _ = some (.int .i64 a2_0))
                    have hz3000055_1_13 := ((blk_cell hb_ 1).trans rfl : _ = some (.int .i64 a2_1))
                    clear hb_
                    have hb_ := SL.at_ (SL.get5 HS.out)
                    have hz3000054_0_13 := ((blk_cell hb_ 0).trans rfl : _ = some (.int .i64 a1_0))
                    have hz3000054_1_13 := ((blk_cell hb_ 1).trans rfl : _ = some (.int .i64 a1_1))
                    clear hb_
                    have hb_ := SL.at_ (SL.get6 HS.out)
                    have hz3000053_0_13 := ((blk_cell hb_ 0).trans rfl : _ = some (.int .i64 a0_0))
                    have hz3000053_1_13 := ((blk_cell hb_ 1).trans rfl : _ = some (.int .i64 a0_1))
                    have hz3000053_2_13 := ((blk_cell hb_ 2).trans rfl : _ = some (.slice A0_2 l0_2.length c0_2))
                    clear hb_
                    try go_wp2_with (first | ((with_reducible refine gate_dst (N := 70) rfl ?_); refine goesL_ (some 70) rfl rfl Try.func9 (by kernel_rfl) rfl #[.agg #[.int .i64 a0_0, .int .i64 a0_1, .slice A0_2 l0_2.length c0_2], .agg #[.int .i64 a1_0, .int .i64 a1_1], .agg #[.int .i64 a2_0, .int .i64 a2_1]] rfl (by (try simp only [List.map_toArray, List.map_cons, List.map_nil]); first | done | rfl | (simp; done)) ?_; (with_reducible refine (sight_First.calls k _ _ _ _ _ _ _ _ _ _ _ _ _ (RO.at_ HR0_2.out HK.out) HC0_2.out Hc22.out).mono ?_); rintro e_ w85 ⟨rfl, hb_⟩; refine ⟨_, rfl, ?_⟩; replace HS := Aside0.mk (HS.out.below hb_); replace HK := Aside0.mk (HK.out.trans (Keep.below hb_)); (try clear hz3000053_0_13 hz3000053_1_13 hz3000053_2_13); (try clear hz3000054_0_13 hz3000054_1_13); (try clear hz3000055_0_13 hz3000055_1_13)) | ((with_reducible refine gate_dst (N := 13) rfl ?_); refine wpList_plain rfl (fun K_ hK_ => ?_); refine op_box (S := S) (cs := #[.int .i64 0, .int .i64 0]) (t := 26) (HF.out.keep HK.out) HS.out (by first | (go_simp; done) | (go_simp; rfl)) ?_; intro g3000060 w86 hs_ hk_; refine hK_ _ _ ?_; clear hK_ K_; replace HS := Aside0.mk (hs_); replace HK := Aside0.mk (HK.out.trans hk_)) | ((with_reducible refine gate_store (t := 26) (p := 13) (v := (.tmp 71)) rfl ?_); refine wpList_plain rfl (fun K_ hK_ => ?_); refine op_store (S := S) 26 (.tmp 13) (.tmp 71) rfl g3000060 0 (.agg #[.int .i64 t495, .int .i64 t496]) [.int .i64 t495, .int .i64 t496] rfl rfl rfl (by kernel_rfl) (by simp [Value.oneCell']) HS.out (by simp) ?_; intro w87 hs_ hk_; refine hK_ _ _ ?_; clear hK_ K_; replace HS := Aside0.mk ((show SL (cells g3000060 26 [.int .i64 t495, .int .i64 t496].toArray :: _) _ _ from hs_)); replace HK := Aside0.mk (HK.out.trans hk_)))
                    refine start_ (n := 62) (S := fun w' => w'.cell? ⟨g3000057, 0, none⟩ = some (.int .i64 a0_0) ∧ w'.cell? ⟨g3000057, 1, none⟩ = some (.int .i64 a0_1) ∧ w'.cell? ⟨g3000057, 2, none⟩ = some (.slice Az3000056 y487.length cz3000056) ∧ w'.cell? ⟨g3000054, 0, none⟩ = some (.int .i64 a1_0) ∧ w'.cell? ⟨g3000054, 1, none⟩ = some (.int .i64 a1_1) ∧ w'.cell? ⟨g3000055, 0, none⟩ = some (.int .i64 a2_0) ∧ w'.cell? ⟨g3000055, 1, none⟩ = some (.int .i64 a2_1) ∧ w'.cell? ⟨g3000059, 0, none⟩ = some (.int .i64 a0_0) ∧ w'.cell? ⟨g3000059, 1, none⟩ = some (.int .i64 a0_1) ∧ w'.cell? ⟨g3000059, 2, none⟩ = some (.slice (some adq493) y489.length c491) ∧ w'.cell? ⟨g3000053, 0, none⟩ = some (.int .i64 a0_0) ∧ w'.cell? ⟨g3000053, 1, none⟩ = some (.int .i64 a0_1) ∧ w'.cell? ⟨g3000053, 2, none⟩ = some (.slice A0_2 l0_2.length c0_2) ∧ w'.cell? ⟨g3000060, 0, none⟩ = some (.int .i64 t495) ∧ w'.cell? ⟨g3000060, 1, none⟩ = some (.int .i64 t496)) (ds := []) #[O,O,O,O,O,O,O,O,O,O,O,O,O,O,O,O,O,O,O,O,O,O,O,O,O,O,O,O,O,O,O,O,O,O,O,O,O,O,O,O,O,O,O,O,O,O,O,O,O,O,O,O,O,O,O,O,O,O,O,O,O,O] (by kernel_rfl) rfl rfl ⟨bc (SL.get3 HS.out) 0 rfl, bc (SL.get3 HS.out) 1 rfl, bc (SL.get3 HS.out) 2 rfl, bc (SL.get6 HS.out) 0 rfl, bc (SL.get6 HS.out) 1 rfl, bc (SL.get5 HS.out) 0 rfl, bc (SL.get5 HS.out) 1 rfl, bc (SL.get1 HS.out) 0 rfl, bc (SL.get1 HS.out) 1 rfl, bc (SL.get1 HS.out) 2 rfl, bc (SL.get7 HS.out) 0 rfl, bc (SL.get7 HS.out) 1 rfl, bc (SL.get7 HS.out) 2 rfl, bc HS.out 0 rfl, bc HS.out 1 rfl⟩ (fun hHeld => ?_); refine with_tabW barrowlaw07_SightWalls.tab9 barrowlaw07_SightWalls.bits9 (fun HT_ HW_ => ?_)
                    replace HK := Aside0.mk (Keep.drew HK.out)
                    replace HS := Aside0.mk (SL.drew HS.out)
                    refine pure_ (i := 0) (N := some 73) (v := ?_) (a' := ?_) #[I,O,O,O,O,O,O,O,O,O,O,O,O,O,O,O,O,O,O,O,O,O,O,O,O,O,O,O,O,O,O,O,O,O,O,O,O,O,O,O,O,O,O,O,O,O,O,O,O,O,O,O,O,O,O,O,O,O,O,O,O,O] rfl rfl (any_of HT_.out (by kernel_rfl)) (fun _ _ _ h => h) (Or.inl ⟨by rfl, ?_⟩) ?_ ?_; rotate_left; · (intro w'; go_simp; with_reducible rfl)
                    rotate_left; · (simp only [Act.put, sT, sZ, sS, i64_w, i32_w]; rfl)
                    refine pure_ (i := 1) (N := some 74) (v := ?_) (a' := ?_) #[I,I,O,O,O,O,O,O,O,O,O,O,O,O,O,O,O,O,O,O,O,O,O,O,O,O,O,O,O,O,O,O,O,O,O,O,O,O,O,O,O,O,O,O,O,O,O,O,O,O,O,O,O,O,O,O,O,O,O,O,O,O] rfl rfl (any_of HT_.out (by kernel_rfl)) (fun _ _ _ h => h) (Or.inl ⟨by rfl, ?_⟩) ?_ ?_; rotate_left; · (intro w'; go_simp; with_reducible rfl)
                    rotate_left; · (simp only [Act.put, sT, sZ, sS, i64_w, i32_w]; rfl)
                    refine take_ (i := 2) (N := some 75) (v := ?_) (a' := ?_) #[I,I,I,O,O,O,O,O,O,O,O,O,O,O,O,O,O,O,O,O,O,O,O,O,O,O,O,O,O,O,O,O,O,O,O,O,O,O,O,O,O,O,O,O,O,O,O,O,O,O,O,O,O,O,O,O,O,O,O,O,O,O] rfl rfl (take_ofW HT_.out HW_.out (by kernel_rfl)) (fun _ _ _ h => h) (Or.inl ⟨by rfl, ?_⟩) hHeld ?_ ?_; rotate_left
                    ·rintro w' ⟨s0, s1, s2, s3, s4, s5, s6, s7, s8, s9, s10, s11, s12, s13, s14⟩
                     go_simp
                     with_reducible rfl
                    rotate_left; · (simp only [Act.put, sT, sZ, sS, i64_w, i32_w]; rfl)
                    refine take_ (i := 3) (N := some 76) (v := ?_) (a' := ?_) #[I,I,I,I,O,O,O,O,O,O,O,O,O,O,O,O,O,O,O,O,O,O,O,O,O,O,O,O,O,O,O,O,O,O,O,O,O,O,O,O,O,O,O,O,O,O,O,O,O,O,O,O,O,O,O,O,O,O,O,O,O,O] rfl rfl (take_ofW HT_.out HW_.out (by kernel_rfl)) (fun _ _ _ h => h) (Or.inl ⟨by rfl, ?_⟩) hHeld ?_ ?_; rotate_left
                    ·rintro w' ⟨s0, s1, s2, s3, s4, s5, s6, s7, s8, s9, s10, s11, s12, s13, s14⟩
                     go_simp
                     with_reducible rfl
                    rotate_left; · (simp only [Act.put, sT, sZ, sS, i64_w, i32_w]; rfl)
                    refine take_ (i := 4) (N := some 77) (v := ?_) (a' := ?_) #[I,I,I,I,I,O,O,O,O,O,O,O,O,O,O,O,O,O,O,O,O,O,O,O,O,O,O,O,O,O,O,O,O,O,O,O,O,O,O,O,O,O,O,O,O,O,O,O,O,O,O,O,O,O,O,O,O,O,O,O,O,O] rfl rfl (take_ofW HT_.out HW_.out (by kernel_rfl)) (fun _ _ _ h => h) (Or.inl ⟨by rfl, ?_⟩) hHeld ?_ ?_; rotate_left
                    ·rintro w' ⟨s0, s1, s2, s3, s4, s5, s6, s7, s8, s9, s10, s11, s12, s13, s14⟩
                     go_simp
                     with_reducible rfl
                    rotate_left; · (simp only [Act.put, sT, sZ, sS, i64_w, i32_w]; rfl)
                    refine one_ (i := 5) (N := some 78) #[I,I,I,I,I,I,O,O,O,O,O,O,O,O,O,O,O,O,O,O,O,O,O,O,O,O,O,O,O,O,O,O,O,O,O,O,O,O,O,O,O,O,O,O,O,O,O,O,O,O,O,O,O,O,O,O,O,O,O,O,O,O] rfl rfl (one_of HT_.out (by kernel_rfl)) (by decide) (fun K hK => ?_)
                    refine goes_ Try.func14 (by kernel_rfl) rfl #[.agg #[.int .i64 a0_0, .int .i64 a0_1, .slice Az3000056 y487.length cz3000056], .agg #[.int .i64 a1_0, .int .i64 a1_1], .agg #[.int .i64 a2_0, .int .i64 a2_1]] (by rfl) rfl rfl (by (try simp only [List.map_toArray, List.map_cons, List.map_nil]); first | done | rfl | (simp; done)) ?_
                    (with_reducible refine (sight_Sees.calls k _ _ _ _ _ _ _ _ _ _ _ (SL.row_c (SL.get4 HS.out)).2.2 (SL.row_c (SL.get4 HS.out)).2.1 Hc24.out).mono ?_)
                    rintro e_ w88 ⟨rfl, hb_⟩
                    refine ⟨_, rfl, ?_⟩
                    replace HS := Aside0.mk (HS.out.below hb_)
                    replace HK := Aside0.mk (HK.out.trans (Keep.below hb_))
                    refine hK.out _ _ ⟨bc (SL.get3 HS.out) 0 rfl, bc (SL.get3 HS.out) 1 rfl, bc (SL.get3 HS.out) 2 rfl, bc (SL.get6 HS.out) 0 rfl, bc (SL.get6 HS.out) 1 rfl, bc (SL.get5 HS.out) 0 rfl, bc (SL.get5 HS.out) 1 rfl, bc (SL.get1 HS.out) 0 rfl, bc (SL.get1 HS.out) 1 rfl, bc (SL.get1 HS.out) 2 rfl, bc (SL.get7 HS.out) 0 rfl, bc (SL.get7 HS.out) 1 rfl, bc (SL.get7 HS.out) 2 rfl, bc HS.out 0 rfl, bc HS.out 1 rfl⟩ (fun hHeld => ?_)
                    clear hK K
                    refine norm_ (a' := ?_) ?_ ?_; rotate_left
                    ·show Act.put _ (some 78) _ = _
                     simp only [Act.put, sT, sZ, sS, i64_w, i32_w]
                     rfl
                    refine pure_ (i := 6) (N := some 79) (v := ?_) (a' := ?_) #[I,I,I,I,I,I,I,O,O,O,O,O,O,O,O,O,O,O,O,O,O,O,O,O,O,O,O,O,O,O,O,O,O,O,O,O,O,O,O,O,O,O,O,O,O,O,O,O,O,O,O,O,O,O,O,O,O,O,O,O,O,O] rfl rfl (any_of HT_.out (by kernel_rfl)) (fun _ _ _ h => h) (Or.inl ⟨by rfl, ?_⟩) ?_ ?_; rotate_left; · (intro w'; go_simp; with_reducible rfl)
                    rotate_left; · (simp only [Act.put, sT, sZ, sS, i64_w, i32_w]; rfl)
                    refine pure_ (i := 7) (N := some 80) (v := ?_) (a' := ?_) #[I,I,I,I,I,I,I,I,O,O,O,O,O,O,O,O,O,O,O,O,O,O,O,O,O,O,O,O,O,O,O,O,O,O,O,O,O,O,O,O,O,O,O,O,O,O,O,O,O,O,O,O,O,O,O,O,O,O,O,O,O,O] rfl rfl (any_of HT_.out (by kernel_rfl)) (fun _ _ _ h => h) (Or.inl ⟨by rfl, ?_⟩) ?_ ?_; rotate_left; · (intro w'; go_simp; with_reducible rfl)
                    rotate_left; · (simp only [Act.put, sT, sZ, sS, i64_w, i32_w]; rfl)
                    refine take_ (i := 8) (N := some 81) (v := ?_) (a' := ?_) #[I,I,I,I,I,I,I,I,I,O,O,O,O,O,O,O,O,O,O,O,O,O,O,O,O,O,O,O,O,O,O,O,O,O,O,O,O,O,O,O,O,O,O,O,O,O,O,O,O,O,O,O,O,O,O,O,O,O,O,O,O,O] rfl rfl (take_ofW HT_.out HW_.out (by kernel_rfl)) (fun _ _ _ h => h) (Or.inl ⟨by rfl, ?_⟩) hHeld ?_ ?_; rotate_left
                    ·rintro w' ⟨s0, s1, s2, s3, s4, s5, s6, s7, s8, s9, s10, s11, s12, s13, s14⟩
                     go_simp
                     with_reducible rfl
                    rotate_left; · (simp only [Act.put, sT, sZ, sS, i64_w, i32_w]; rfl)
                    refine take_ (i := 9) (N := some 82) (v := ?_) (a' := ?_) #[I,I,I,I,I,I,I,I,I,I,O,O,O,O,O,O,O,O,O,O,O,O,O,O,O,O,O,O,O,O,O,O,O,O,O,O,O,O,O,O,O,O,O,O,O,O,O,O,O,O,O,O,O,O,O,O,O,O,O,O,O,O] rfl rfl (take_ofW HT_.out HW_.out (by kernel_rfl)) (fun _ _ _ h => h) (Or.inl ⟨by rfl, ?_⟩) hHeld ?_ ?_; rotate_left
                    ·rintro w' ⟨s0, s1, s2, s3, s4, s5, s6, s7, s8, s9, s10, s11, s12, s13, s14⟩
                     go_simp
                     with_reducible rfl
                    rotate_left; · (simp only [Act.put, sT, sZ, sS, i64_w, i32_w]; rfl)
                    refine take_ (i := 10) (N := some 83) (v := ?_) (a' := ?_) #[I,I,I,I,I,I,I,I,I,I,I,O,O,O,O,O,O,O,O,O,O,O,O,O,O,O,O,O,O,O,O,O,O,O,O,O,O,O,O,O,O,O,O,O,O,O,O,O,O,O,O,O,O,O,O,O,O,O,O,O,O,O] rfl rfl (take_ofW HT_.out HW_.out (by kernel_rfl)) (fun _ _ _ h => h) (Or.inl ⟨by rfl, ?_⟩) hHeld ?_ ?_; rotate_left
                    ·rintro w' ⟨s0, s1, s2, s3, s4, s5, s6, s7, s8, s9, s10, s11, s12, s13, s14⟩
                     go_simp
                     with_reducible rfl
                    rotate_left; · (simp only [Act.put, sT, sZ, sS, i64_w, i32_w]; rfl)
                    refine one_ (i := 11) (N := some 84) #[I,I,I,I,I,I,I,I,I,I,I,I,O,O,O,O,O,O,O,O,O,O,O,O,O,O,O,O,O,O,O,O,O,O,O,O,O,O,O,O,O,O,O,O,O,O,O,O,O,O,O,O,O,O,O,O,O,O,O,O,O,O] rfl rfl (one_of HT_.out (by kernel_rfl)) (by decide) (fun K hK => ?_)
                    refine goes_ Try.func14 (by kernel_rfl) rfl #[.agg #[.int .i64 a0_0, .int .i64 a0_1, .slice (some adq493) y489.length c491], .agg #[.int .i64 a1_0, .int .i64 a1_1], .agg #[.int .i64 a2_0, .int .i64 a2_1]] (by rfl) rfl rfl (by (try simp only [List.map_toArray, List.map_cons, List.map_nil]); first | done | rfl | (simp; done)) ?_
                    have el3000058_ := Aside0.mk (SL.row_c (SL.get2 HS.out)).1
                    refine calls_of_args (args' := #[.agg #[.int .i64 a0_0, .int .i64 a0_1, .slice (some adq493) y494.length c491], .agg #[.int .i64 a1_0, .int .i64 a1_1], .agg #[.int .i64 a2_0, .int .i64 a2_1]]) (by rw [← el3000058_.out]) ?_
                    (with_reducible refine (sight_Sees.calls k _ _ _ _ _ _ _ _ _ _ _ (by have e_ := (SL.row_c (SL.get2 HS.out)).1; have h_ := (SL.row_c (SL.get2 HS.out)).2.2; rw [e_] at h_; exact h_) (by have e_ := (SL.row_c (SL.get2 HS.out)).1; have h_ := (SL.row_c (SL.get2 HS.out)).2.1; (try dsimp only at e_ h_); (try dsimp only); omega) Hc26.out).mono ?_)
                    rintro e_ w89 ⟨rfl, hb_⟩
                    refine ⟨_, rfl, ?_⟩
                    replace HS := Aside0.mk (HS.out.below hb_)
                    replace HK := Aside0.mk (HK.out.trans (Keep.below hb_))
                    refine hK.out _ _ ⟨bc (SL.get3 HS.out) 0 rfl, bc (SL.get3 HS.out) 1 rfl, bc (SL.get3 HS.out) 2 rfl, bc (SL.get6 HS.out) 0 rfl, bc (SL.get6 HS.out) 1 rfl, bc (SL.get5 HS.out) 0 rfl, bc (SL.get5 HS.out) 1 rfl, bc (SL.get1 HS.out) 0 rfl, bc (SL.get1 HS.out) 1 rfl, bc (SL.get1 HS.out) 2 rfl, bc (SL.get7 HS.out) 0 rfl, bc (SL.get7 HS.out) 1 rfl, bc (SL.get7 HS.out) 2 rfl, bc HS.out 0 rfl, bc HS.out 1 rfl⟩ (fun hHeld => ?_)
                    clear hK K
                    refine norm_ (a' := ?_) ?_ ?_; rotate_left
                    ·show Act.put _ (some 84) _ = _
                     simp only [Act.put, sT, sZ, sS, i64_w, i32_w]
                     rfl
                    refine pure_ (i := 12) (N := some 85) (v := ?_) (a' := ?_) #[I,I,I,I,I,I,I,I,I,I,I,I,I,O,O,O,O,O,O,O,O,O,O,O,O,O,O,O,O,O,O,O,O,O,O,O,O,O,O,O,O,O,O,O,O,O,O,O,O,O,O,O,O,O,O,O,O,O,O,O,O,O] rfl rfl (any_of HT_.out (by kernel_rfl)) (fun _ _ _ h => h) (Or.inl ⟨by rfl, ?_⟩) ?_ ?_; rotate_left; · (intro w'; go_simp; with_reducible rfl)
                    rotate_left; · (simp only [Act.put, sT, sZ, sS, i64_w, i32_w]; rfl)
                    refine pure_ (i := 13) (N := some 86) (v := ?_) (a' := ?_) #[I,I,I,I,I,I,I,I,I,I,I,I,I,I,O,O,O,O,O,O,O,O,O,O,O,O,O,O,O,O,O,O,O,O,O,O,O,O,O,O,O,O,O,O,O,O,O,O,O,O,O,O,O,O,O,O,O,O,O,O,O,O] rfl rfl (any_of HT_.out (by kernel_rfl)) (fun _ _ _ h => h) (Or.inl ⟨by rfl, ?_⟩) ?_ ?_; rotate_left; · (intro w'; go_simp; with_reducible rfl)
                    rotate_left; · (simp only [Act.put, sT, sZ, sS, i64_w, i32_w]; rfl)
                    refine pure_ (i := 14) (N := some 87) (v := undef) (a' := ?_) #[I,I,I,I,I,I,I,I,I,I,I,I,I,I,I,O,O,O,O,O,O,O,O,O,O,O,O,O,O,O,O,O,O,O,O,O,O,O,O,O,O,O,O,O,O,O,O,O,O,O,O,O,O,O,O,O,O,O,O,O,O,O] rfl rfl (any_of HT_.out (by kernel_rfl)) (fun _ _ _ h => h) (Or.inr ⟨by rfl, rfl⟩) ?_ ?_; rotate_left; · (simp only [Act.put, sT, sZ, sS, i64_w, i32_w]; rfl)
                    refine pure_ (i := 15) (N := some 88) (v := undef) (a' := ?_) #[I,I,I,I,I,I,I,I,I,I,I,I,I,I,I,I,O,O,O,O,O,O,O,O,O,O,O,O,O,O,O,O,O,O,O,O,O,O,O,O,O,O,O,O,O,O,O,O,O,O,O,O,O,O,O,O,O,O,O,O,O,O] rfl rfl (any_of HT_.out (by kernel_rfl)) (fun _ _ _ h => h) (Or.inr ⟨by rfl, rfl⟩) ?_ ?_; rotate_left; · (simp only [Act.put, sT, sZ, sS, i64_w, i32_w]; rfl)
                    refine pure_ (i := 16) (N := some 89) (v := undef) (a' := ?_) #[I,I,I,I,I,I,I,I,I,I,I,I,I,I,I,I,I,O,O,O,O,O,O,O,O,O,O,O,O,O,O,O,O,O,O,O,O,O,O,O,O,O,O,O,O,O,O,O,O,O,O,O,O,O,O,O,O,O,O,O,O,O] rfl rfl (any_of HT_.out (by kernel_rfl)) (fun _ _ _ h => h) (Or.inr ⟨by rfl, rfl⟩) ?_ ?_; rotate_left; · (simp only [Act.put, sT, sZ, sS, i64_w, i32_w]; rfl)
                    refine pure_ (i := 17) (N := some 90) (v := undef) (a' := ?_) #[I,I,I,I,I,I,I,I,I,I,I,I,I,I,I,I,I,I,O,O,O,O,O,O,O,O,O,O,O,O,O,O,O,O,O,O,O,O,O,O,O,O,O,O,O,O,O,O,O,O,O,O,O,O,O,O,O,O,O,O,O,O] rfl rfl (any_of HT_.out (by kernel_rfl)) (fun _ _ _ h => h) (Or.inr ⟨by rfl, rfl⟩) ?_ ?_; rotate_left; · (simp only [Act.put, sT, sZ, sS, i64_w, i32_w]; rfl)
                    refine pure_ (i := 18) (N := some 91) (v := ?_) (a' := ?_) #[I,I,I,I,I,I,I,I,I,I,I,I,I,I,I,I,I,I,I,O,O,O,O,O,O,O,O,O,O,O,O,O,O,O,O,O,O,O,O,O,O,O,O,O,O,O,O,O,O,O,O,O,O,O,O,O,O,O,O,O,O,O] rfl rfl (any_of HT_.out (by kernel_rfl)) (fun _ _ _ h => h) (Or.inl ⟨by rfl, ?_⟩) ?_ ?_; rotate_left; · (intro w'; go_simp; with_reducible rfl)
                    rotate_left; · (simp only [Act.put, sT, sZ, sS, i64_w, i32_w]; rfl)
                    refine pure_ (i := 19) (N := some 92) (v := ?_) (a' := ?_) #[I,I,I,I,I,I,I,I,I,I,I,I,I,I,I,I,I,I,I,I,O,O,O,O,O,O,O,O,O,O,O,O,O,O,O,O,O,O,O,O,O,O,O,O,O,O,O,O,O,O,O,O,O,O,O,O,O,O,O,O,O,O] rfl rfl (any_of HT_.out (by kernel_rfl)) (fun _ _ _ h => h) (Or.inl ⟨by rfl, ?_⟩) ?_ ?_; rotate_left; · (intro w'; go_simp; with_reducible rfl)
                    rotate_left; · (simp only [Act.put, sT, sZ, sS, i64_w, i32_w]; rfl)
                    refine pure_ (i := 20) (N := some 93) (v := ?_) (a' := ?_) #[I,I,I,I,I,I,I,I,I,I,I,I,I,I,I,I,I,I,I,I,I,O,O,O,O,O,O,O,O,O,O,O,O,O,O,O,O,O,O,O,O,O,O,O,O,O,O,O,O,O,O,O,O,O,O,O,O,O,O,O,O,O] rfl rfl (any_of HT_.out (by kernel_rfl)) (fun _ _ _ h => h) (Or.inl ⟨by rfl, ?_⟩) ?_ ?_; rotate_left; · (intro w'; go_simp; with_reducible rfl)
                    rotate_left; · (simp only [Act.put, sT, sZ, sS, i64_w, i32_w]; rfl)
                    refine pure_ (i := 21) (N := some 94) (v := ?_) (a' := ?_) #[I,I,I,I,I,I,I,I,I,I,I,I,I,I,I,I,I,I,I,I,I,I,O,O,O,O,O,O,O,O,O,O,O,O,O,O,O,O,O,O,O,O,O,O,O,O,O,O,O,O,O,O,O,O,O,O,O,O,O,O,O,O] rfl rfl (any_of HT_.out (by kernel_rfl)) (fun _ _ _ h => h) (Or.inl ⟨by rfl, ?_⟩) ?_ ?_; rotate_left; · (intro w'; go_simp; with_reducible rfl)
                    rotate_left; · (simp only [Act.put, sT, sZ, sS, i64_w, i32_w]; rfl)
                    refine take_ (i := 22) (N := some 95) (v := ?_) (a' := ?_) #[I,I,I,I,I,I,I,I,I,I,I,I,I,I,I,I,I,I,I,I,I,I,I,O,O,O,O,O,O,O,O,O,O,O,O,O,O,O,O,O,O,O,O,O,O,O,O,O,O,O,O,O,O,O,O,O,O,O,O,O,O,O] rfl rfl (take_ofW HT_.out HW_.out (by kernel_rfl)) (fun _ _ _ h => h) (Or.inl ⟨by rfl, ?_⟩) hHeld ?_ ?_; rotate_left
                    ·rintro w' ⟨s0, s1, s2, s3, s4, s5, s6, s7, s8, s9, s10, s11, s12, s13, s14⟩
                     go_simp
                     with_reducible rfl
                    rotate_left; · (simp only [Act.put, sT, sZ, sS, i64_w, i32_w]; rfl)
                    refine take_ (i := 23) (N := some 96) (v := ?_) (a' := ?_) #[I,I,I,I,I,I,I,I,I,I,I,I,I,I,I,I,I,I,I,I,I,I,I,I,O,O,O,O,O,O,O,O,O,O,O,O,O,O,O,O,O,O,O,O,O,O,O,O,O,O,O,O,O,O,O,O,O,O,O,O,O,O] rfl rfl (take_ofW HT_.out HW_.out (by kernel_rfl)) (fun _ _ _ h => h) (Or.inl ⟨by rfl, ?_⟩) hHeld ?_ ?_; rotate_left
                    ·rintro w' ⟨s0, s1, s2, s3, s4, s5, s6, s7, s8, s9, s10, s11, s12, s13, s14⟩
                     go_simp
                     with_reducible rfl
                    rotate_left; · (simp only [Act.put, sT, sZ, sS, i64_w, i32_w]; rfl)
                    refine take_ (i := 24) (N := some 97) (v := ?_) (a' := ?_) #[I,I,I,I,I,I,I,I,I,I,I,I,I,I,I,I,I,I,I,I,I,I,I,I,I,O,O,O,O,O,O,O,O,O,O,O,O,O,O,O,O,O,O,O,O,O,O,O,O,O,O,O,O,O,O,O,O,O,O,O,O,O] rfl rfl (take_ofW HT_.out HW_.out (by kernel_rfl)) (fun _ _ _ h => h) (Or.inl ⟨by rfl, ?_⟩) hHeld ?_ ?_; rotate_left
                    ·rintro w' ⟨s0, s1, s2, s3, s4, s5, s6, s7, s8, s9, s10, s11, s12, s13, s14⟩
                     go_simp
                     with_reducible rfl
                    rotate_left; · (simp only [Act.put, sT, sZ, sS, i64_w, i32_w]; rfl)
                    refine one_ (i := 25) (N := some 98) #[I,I,I,I,I,I,I,I,I,I,I,I,I,I,I,I,I,I,I,I,I,I,I,I,I,I,O,O,O,O,O,O,O,O,O,O,O,O,O,O,O,O,O,O,O,O,O,O,O,O,O,O,O,O,O,O,O,O,O,O,O,O] rfl rfl (one_of HT_.out (by kernel_rfl)) (by decide) (fun K hK => ?_)
                    refine goes_ Try.func14 (by kernel_rfl) rfl #[.agg #[.int .i64 a0_0, .int .i64 a0_1, .slice A0_2 l0_2.length c0_2], .agg #[.int .i64 a1_0, .int .i64 a1_1], .agg #[.int .i64 a2_0, .int .i64 a2_1]] (by rfl) rfl rfl (by (try simp only [List.map_toArray, List.map_cons, List.map_nil]); first | done | rfl | (simp; done)) ?_
                    (with_reducible refine (sight_Sees.calls k _ _ _ _ _ _ _ _ _ _ _ (RO.at_ HR0_2.out HK.out) HC0_2.out Hc64.out).mono ?_)
                    rintro e_ w90 ⟨rfl, hb_⟩
                    refine ⟨_, rfl, ?_⟩
                    replace HS := Aside0.mk (HS.out.below hb_)
                    replace HK := Aside0.mk (HK.out.trans (Keep.below hb_))
                    refine hK.out _ _ ⟨bc (SL.get3 HS.out) 0 rfl, bc (SL.get3 HS.out) 1 rfl, bc (SL.get3 HS.out) 2 rfl, bc (SL.get6 HS.out) 0 rfl, bc (SL.get6 HS.out) 1 rfl, bc (SL.get5 HS.out) 0 rfl, bc (SL.get5 HS.out) 1 rfl, bc (SL.get1 HS.out) 0 rfl, bc (SL.get1 HS.out) 1 rfl, bc (SL.get1 HS.out) 2 rfl, bc (SL.get7 HS.out) 0 rfl, bc (SL.get7 HS.out) 1 rfl, bc (SL.get7 HS.out) 2 rfl, bc HS.out 0 rfl, bc HS.out 1 rfl⟩ (fun hHeld => ?_)
                    clear hK K
                    refine norm_ (a' := ?_) ?_ ?_; rotate_left
                    ·show Act.put _ (some 98) _ = _
                     simp only [Act.put, sT, sZ, sS, i64_w, i32_w]
                     rfl
                    refine pure_ (i := 26) (N := some 99) (v := ?_) (a' := ?_) #[I,I,I,I,I,I,I,I,I,I,I,I,I,I,I,I,I,I,I,I,I,I,I,I,I,I,I,O,O,O,O,O,O,O,O,O,O,O,O,O,O,O,O,O,O,O,O,O,O,O,O,O,O,O,O,O,O,O,O,O,O,O] rfl rfl (any_of HT_.out (by kernel_rfl)) (fun _ _ _ h => h) (Or.inl ⟨by rfl, ?_⟩) ?_ ?_; rotate_left; · (intro w'; go_simp; with_reducible rfl)
                    rotate_left; · (simp only [Act.put, sT, sZ, sS, i64_w, i32_w]; rfl)
                    refine pure_ (i := 27) (N := some 100) (v := ?_) (a' := ?_) #[I,I,I,I,I,I,I,I,I,I,I,I,I,I,I,I,I,I,I,I,I,I,I,I,I,I,I,I,O,O,O,O,O,O,O,O,O,O,O,O,O,O,O,O,O,O,O,O,O,O,O,O,O,O,O,O,O,O,O,O,O,O] rfl rfl (any_of HT_.out (by kernel_rfl)) (fun _ _ _ h => h) (Or.inl ⟨by rfl, ?_⟩) ?_ ?_; rotate_left; · (intro w'; go_simp; with_reducible rfl)
                    rotate_left; · (simp only [Act.put, sT, sZ, sS, i64_w, i32_w]; rfl)
                    refine pure_ (i := 28) (N := some 101) (v := ?_) (a' := ?_) #[I,I,I,I,I,I,I,I,I,I,I,I,I,I,I,I,I,I,I,I,I,I,I,I,I,I,I,I,I,O,O,O,O,O,O,O,O,O,O,O,O,O,O,O,O,O,O,O,O,O,O,O,O,O,O,O,O,O,O,O,O,O] rfl rfl (any_of HT_.out (by kernel_rfl)) (fun _ _ _ h => h) (Or.inl ⟨by rfl, ?_⟩) ?_ ?_; rotate_left; · (intro w'; go_simp; with_reducible rfl)
                    rotate_left; · (simp only [Act.put, sT, sZ, sS, i64_w, i32_w]; rfl)
                    refine pure_ (i := 29) (N := some 102) (v := ?_) (a' := ?_) #[I,I,I,I,I,I,I,I,I,I,I,I,I,I,I,I,I,I,I,I,I,I,I,I,I,I,I,I,I,I,O,O,O,O,O,O,O,O,O,O,O,O,O,O,O,O,O,O,O,O,O,O,O,O,O,O,O,O,O,O,O,O] rfl rfl (any_of HT_.out (by kernel_rfl)) (fun _ _ _ h => h) (Or.inl ⟨by rfl, ?_⟩) ?_ ?_; rotate_left; · (intro w'; go_simp; with_reducible rfl)
                    rotate_left; · (simp only [Act.put, sT, sZ, sS, i64_w, i32_w]; rfl)
                    refine pure_ (i := 30) (N := some 103) (v := ?_) (a' := ?_) #[I,I,I,I,I,I,I,I,I,I,I,I,I,I,I,I,I,I,I,I,I,I,I,I,I,I,I,I,I,I,I,O,O,O,O,O,O,O,O,O,O,O,O,O,O,O,O,O,O,O,O,O,O,O,O,O,O,O,O,O,O,O] rfl rfl (any_of HT_.out (by kernel_rfl)) (fun _ _ _ h => h) (Or.inl ⟨by rfl, ?_⟩) ?_ ?_; rotate_left; · (intro w'; go_simp; with_reducible rfl)
                    rotate_left; · (simp only [Act.put, sT, sZ, sS, i64_w, i32_w]; rfl)
                    refine pure_ (i := 31) (N := some 104) (v := ?_) (a' := ?_) #[I,I,I,I,I,I,I,I,I,I,I,I,I,I,I,I,I,I,I,I,I,I,I,I,I,I,I,I,I,I,I,I,O,O,O,O,O,O,O,O,O,O,O,O,O,O,O,O,O,O,O,O,O,O,O,O,O,O,O,O,O,O] rfl rfl (any_of HT_.out (by kernel_rfl)) (fun _ _ _ h => h) (Or.inl ⟨by rfl, ?_⟩) ?_ ?_; rotate_left; · (intro w'; go_simp; with_reducible rfl)
                    rotate_left; · (simp only [Act.put, sT, sZ, sS, i64_w, i32_w]; rfl)
                    refine take_ (i := 32) (N := some 105) (v := ?_) (a' := ?_) #[I,I,I,I,I,I,I,I,I,I,I,I,I,I,I,I,I,I,I,I,I,I,I,I,I,I,I,I,I,I,I,I,I,O,O,O,O,O,O,O,O,O,O,O,O,O,O,O,O,O,O,O,O,O,O,O,O,O,O,O,O,O] rfl rfl (take_ofW HT_.out HW_.out (by kernel_rfl)) (fun _ _ _ h => h) (Or.inl ⟨by rfl, ?_⟩) hHeld ?_ ?_; rotate_left
                    ·rintro w' ⟨s0, s1, s2, s3, s4, s5, s6, s7, s8, s9, s10, s11, s12, s13, s14⟩
                     go_simp
                     with_reducible rfl
                    rotate_left; · (simp only [Act.put, sT, sZ, sS, i64_w, i32_w]; rfl)
                    refine take_ (i := 33) (N := some 106) (v := ?_) (a' := ?_) #[I,I,I,I,I,I,I,I,I,I,I,I,I,I,I,I,I,I,I,I,I,I,I,I,I,I,I,I,I,I,I,I,I,I,O,O,O,O,O,O,O,O,O,O,O,O,O,O,O,O,O,O,O,O,O,O,O,O,O,O,O,O] rfl rfl (take_ofW HT_.out HW_.out (by kernel_rfl)) (fun _ _ _ h => h) (Or.inl ⟨by rfl, ?_⟩) hHeld ?_ ?_; rotate_left
                    ·rintro w' ⟨s0, s1, s2, s3, s4, s5, s6, s7, s8, s9, s10, s11, s12, s13, s14⟩
                     go_simp
                     with_reducible rfl
                    rotate_left; · (simp only [Act.put, sT, sZ, sS, i64_w, i32_w]; rfl)
                    refine one_ (i := 34) (N := some 107) #[I,I,I,I,I,I,I,I,I,I,I,I,I,I,I,I,I,I,I,I,I,I,I,I,I,I,I,I,I,I,I,I,I,I,I,O,O,O,O,O,O,O,O,O,O,O,O,O,O,O,O,O,O,O,O,O,O,O,O,O,O,O] rfl rfl (one_of HT_.out (by kernel_rfl)) (by decide) (fun K hK => ?_)
                    refine goes_ Try.func19 (by kernel_rfl) rfl #[.agg #[.int .i64 a0_0, .int .i64 a0_1, .slice A0_2 l0_2.length c0_2], .agg #[.int .i64 t495, .int .i64 t496]] (by rfl) rfl rfl (by (try simp only [List.map_toArray, List.map_cons, List.map_nil]); first | done | rfl | (simp; done)) ?_
                    (with_reducible refine (grid_Wall.calls _ _ _ _ _ _ _ _ _ (RO.at_ HR0_2.out HK.out) HC0_2.out Hc67.out).mono ?_)
                    rintro e_ w91 ⟨rfl, hb_⟩
                    refine ⟨_, rfl, ?_⟩
                    replace HS := Aside0.mk (HS.out.below hb_)
                    replace HK := Aside0.mk (HK.out.trans (Keep.below hb_))
                    refine hK.out _ _ ⟨bc (SL.get3 HS.out) 0 rfl, bc (SL.get3 HS.out) 1 rfl, bc (SL.get3 HS.out) 2 rfl, bc (SL.get6 HS.out) 0 rfl, bc (SL.get6 HS.out) 1 rfl, bc (SL.get5 HS.out) 0 rfl, bc (SL.get5 HS.out) 1 rfl, bc (SL.get1 HS.out) 0 rfl, bc (SL.get1 HS.out) 1 rfl, bc (SL.get1 HS.out) 2 rfl, bc (SL.get7 HS.out) 0 rfl, bc (SL.get7 HS.out) 1 rfl, bc (SL.get7 HS.out) 2 rfl, bc HS.out 0 rfl, bc HS.out 1 rfl⟩ (fun hHeld => ?_)
                    clear hK K
                    refine norm_ (a' := ?_) ?_ ?_; rotate_left
                    ·show Act.put _ (some 107) _ = _
                     simp only [Act.put, sT, sZ, sS, i64_w, i32_w]
                     rfl
                    refine pure_ (i := 35) (N := some 108) (v := ?_) (a' := ?_) #[I,I,I,I,I,I,I,I,I,I,I,I,I,I,I,I,I,I,I,I,I,I,I,I,I,I,I,I,I,I,I,I,I,I,I,I,O,O,O,O,O,O,O,O,O,O,O,O,O,O,O,O,O,O,O,O,O,O,O,O,O,O] rfl rfl (any_of HT_.out (by kernel_rfl)) (fun _ _ _ h => h) (Or.inl ⟨by rfl, ?_⟩) ?_ ?_; rotate_left; · (intro w'; go_simp; with_reducible rfl)
                    rotate_left; · (simp only [Act.put, sT, sZ, sS, i64_w, i32_w]; rfl)
                    refine take_ (i := 36) (N := some 109) (v := ?_) (a' := ?_) #[I,I,I,I,I,I,I,I,I,I,I,I,I,I,I,I,I,I,I,I,I,I,I,I,I,I,I,I,I,I,I,I,I,I,I,I,I,O,O,O,O,O,O,O,O,O,O,O,O,O,O,O,O,O,O,O,O,O,O,O,O,O] rfl rfl (take_ofW HT_.out HW_.out (by kernel_rfl)) (fun _ _ _ h => h) (Or.inl ⟨by rfl, ?_⟩) hHeld ?_ ?_; rotate_left
                    ·rintro w' ⟨s0, s1, s2, s3, s4, s5, s6, s7, s8, s9, s10, s11, s12, s13, s14⟩
                     go_simp
                     with_reducible rfl
                    rotate_left; · (simp only [Act.put, sT, sZ, sS, i64_w, i32_w]; rfl)
                    refine take_ (i := 37) (N := some 110) (v := ?_) (a' := ?_) #[I,I,I,I,I,I,I,I,I,I,I,I,I,I,I,I,I,I,I,I,I,I,I,I,I,I,I,I,I,I,I,I,I,I,I,I,I,I,O,O,O,O,O,O,O,O,O,O,O,O,O,O,O,O,O,O,O,O,O,O,O,O] rfl rfl (take_ofW HT_.out HW_.out (by kernel_rfl)) (fun _ _ _ h => h) (Or.inl ⟨by rfl, ?_⟩) hHeld ?_ ?_; rotate_left
                    ·rintro w' ⟨s0, s1, s2, s3, s4, s5, s6, s7, s8, s9, s10, s11, s12, s13, s14⟩
                     go_simp
                     with_reducible rfl
                    rotate_left; · (simp only [Act.put, sT, sZ, sS, i64_w, i32_w]; rfl)
                    refine take_ (i := 38) (N := some 111) (v := ?_) (a' := ?_) #[I,I,I,I,I,I,I,I,I,I,I,I,I,I,I,I,I,I,I,I,I,I,I,I,I,I,I,I,I,I,I,I,I,I,I,I,I,I,I,O,O,O,O,O,O,O,O,O,O,O,O,O,O,O,O,O,O,O,O,O,O,O] rfl rfl (take_ofW HT_.out HW_.out (by kernel_rfl)) (fun _ _ _ h => h) (Or.inl ⟨by rfl, ?_⟩) hHeld ?_ ?_; rotate_left
                    ·rintro w' ⟨s0, s1, s2, s3, s4, s5, s6, s7, s8, s9, s10, s11, s12, s13, s14⟩
                     go_simp
                     with_reducible rfl
                    rotate_left; · (simp only [Act.put, sT, sZ, sS, i64_w, i32_w]; rfl)
                    refine take_ (i := 40) (N := some 113) (v := ?_) (a' := ?_) #[I,I,I,I,I,I,I,I,I,I,I,I,I,I,I,I,I,I,I,I,I,I,I,I,I,I,I,I,I,I,I,I,I,I,I,I,I,I,I,O,I,O,O,O,O,O,O,O,O,O,O,O,O,O,O,O,O,O,O,O,O,O] rfl rfl (take_ofW HT_.out HW_.out (by kernel_rfl)) (fun _ _ _ h => h) (Or.inl ⟨by rfl, ?_⟩) hHeld ?_ ?_; rotate_left
                    ·rintro w' ⟨s0, s1, s2, s3, s4, s5, s6, s7, s8, s9, s10, s11, s12, s13, s14⟩
                     go_simp
                     with_reducible rfl
                    rotate_left; · (simp only [Act.put, sT, sZ, sS, i64_w, i32_w]; rfl)
                    refine one_ (i := 39) (N := some 112) #[I,I,I,I,I,I,I,I,I,I,I,I,I,I,I,I,I,I,I,I,I,I,I,I,I,I,I,I,I,I,I,I,I,I,I,I,I,I,I,I,I,O,O,O,O,O,O,O,O,O,O,O,O,O,O,O,O,O,O,O,O,O] rfl rfl (one_of HT_.out (by kernel_rfl)) (by decide) (fun K hK => ?_)
                    refine goes_ Try.func12 (by kernel_rfl) rfl #[.agg #[.int .i64 a0_0, .int .i64 a0_1, .slice A0_2 l0_2.length c0_2], .agg #[.int .i64 a1_0, .int .i64 a1_1], .agg #[.int .i64 a2_0, .int .i64 a2_1]] (by rfl) rfl rfl (by (try simp only [List.map_toArray, List.map_cons, List.map_nil]); first | done | rfl | (simp; done)) ?_
                    have hs0_ := HS.out
                    (with_reducible refine (sight_Line.slcalls k _ _ _ _ _ _ _ _ _ _ _ _ _ (HF.out.keep HK.out) hs0_ (HR0_2.out.keep HK.out) HC0_2.out Hc69.out).mono ?_)
                    rintro e_ w92 ⟨Az3000061, cz3000061, rfl, hsr_, hkr_⟩
                    refine ⟨_, rfl, ?_⟩
                    replace HS := Aside0.mk (hsr_)
                    replace HK := Aside0.mk (HK.out.trans hkr_)
                    refine hK.out _ _ ⟨bc (SL.get4 HS.out) 0 rfl, bc (SL.get4 HS.out) 1 rfl, bc (SL.get4 HS.out) 2 rfl, bc (SL.get7 HS.out) 0 rfl, bc (SL.get7 HS.out) 1 rfl, bc (SL.get6 HS.out) 0 rfl, bc (SL.get6 HS.out) 1 rfl, bc (SL.get2 HS.out) 0 rfl, bc (SL.get2 HS.out) 1 rfl, bc (SL.get2 HS.out) 2 rfl, bc (SL.get8 HS.out) 0 rfl, bc (SL.get8 HS.out) 1 rfl, bc (SL.get8 HS.out) 2 rfl, bc (SL.get1 HS.out) 0 rfl, bc (SL.get1 HS.out) 1 rfl⟩ (fun hHeld => ?_)
                    clear hK K
                    refine norm_ (a' := ?_) ?_ ?_; rotate_left
                    ·show Act.put _ (some 112) _ = _
                     simp only [Act.put, sT, sZ, sS, i64_w, i32_w]
                     rfl
                    refine one_ (i := 41) (N := some 114) #[I,I,I,I,I,I,I,I,I,I,I,I,I,I,I,I,I,I,I,I,I,I,I,I,I,I,I,I,I,I,I,I,I,I,I,I,I,I,I,I,I,I,O,O,O,O,O,O,O,O,O,O,O,O,O,O,O,O,O,O,O,O] rfl rfl (one_of HT_.out (by kernel_rfl)) (by decide) (fun K hK => ?_)
                    refine goes_ Try.func17 (by kernel_rfl) rfl #[.slice Az3000061 t505.length cz3000061, .agg #[.int .i64 t495, .int .i64 t496]] (by rfl) rfl rfl (by (try simp only [List.map_toArray, List.map_cons, List.map_nil]); first | done | rfl | (simp; done)) ?_
                    (with_reducible refine (barrowlaw07_has.calls k _ _ _ _ _ _ _ (SL.row_c HS.out).2.2 (SL.row_c HS.out).2.1 Hc70.out).mono ?_)
                    rintro e_ w93 ⟨rfl, hb_⟩
                    refine ⟨_, rfl, ?_⟩
                    replace HS := Aside0.mk (HS.out.below hb_)
                    replace HK := Aside0.mk (HK.out.trans (Keep.below hb_))
                    refine hK.out _ _ ⟨bc (SL.get4 HS.out) 0 rfl, bc (SL.get4 HS.out) 1 rfl, bc (SL.get4 HS.out) 2 rfl, bc (SL.get7 HS.out) 0 rfl, bc (SL.get7 HS.out) 1 rfl, bc (SL.get6 HS.out) 0 rfl, bc (SL.get6 HS.out) 1 rfl, bc (SL.get2 HS.out) 0 rfl, bc (SL.get2 HS.out) 1 rfl, bc (SL.get2 HS.out) 2 rfl, bc (SL.get8 HS.out) 0 rfl, bc (SL.get8 HS.out) 1 rfl, bc (SL.get8 HS.out) 2 rfl, bc (SL.get1 HS.out) 0 rfl, bc (SL.get1 HS.out) 1 rfl⟩ (fun hHeld => ?_)
                    clear hK K
                    refine norm_ (a' := ?_) ?_ ?_; rotate_left
                    ·show Act.put _ (some 114) _ = _
                     simp only [Act.put, sT, sZ, sS, i64_w, i32_w]
                     rfl
                    refine pure_ (i := 42) (N := some 115) (v := ?_) (a' := ?_) #[I,I,I,I,I,I,I,I,I,I,I,I,I,I,I,I,I,I,I,I,I,I,I,I,I,I,I,I,I,I,I,I,I,I,I,I,I,I,I,I,I,I,I,O,O,O,O,O,O,O,O,O,O,O,O,O,O,O,O,O,O,O] rfl rfl (any_of HT_.out (by kernel_rfl)) (fun _ _ _ h => h) (Or.inl ⟨by rfl, ?_⟩) ?_ ?_; rotate_left; · (intro w'; go_simp; with_reducible rfl)
                    rotate_left; · (simp only [Act.put, sT, sZ, sS, i64_w, i32_w]; rfl)
                    refine pure_ (i := 43) (N := some 116) (v := ?_) (a' := ?_) #[I,I,I,I,I,I,I,I,I,I,I,I,I,I,I,I,I,I,I,I,I,I,I,I,I,I,I,I,I,I,I,I,I,I,I,I,I,I,I,I,I,I,I,I,O,O,O,O,O,O,O,O,O,O,O,O,O,O,O,O,O,O] rfl rfl (any_of HT_.out (by kernel_rfl)) (fun _ _ _ h => h) (Or.inl ⟨by rfl, ?_⟩) ?_ ?_; rotate_left; · (intro w'; go_simp; with_reducible rfl)
                    rotate_left; · (simp only [Act.put, sT, sZ, sS, i64_w, i32_w]; rfl)
                    refine take_ (i := 44) (N := some 117) (v := ?_) (a' := ?_) #[I,I,I,I,I,I,I,I,I,I,I,I,I,I,I,I,I,I,I,I,I,I,I,I,I,I,I,I,I,I,I,I,I,I,I,I,I,I,I,I,I,I,I,I,I,O,O,O,O,O,O,O,O,O,O,O,O,O,O,O,O,O] rfl rfl (take_ofW HT_.out HW_.out (by kernel_rfl)) (fun _ _ _ h => h) (Or.inl ⟨by rfl, ?_⟩) hHeld ?_ ?_; rotate_left
                    ·rintro w' ⟨s0, s1, s2, s3, s4, s5, s6, s7, s8, s9, s10, s11, s12, s13, s14⟩
                     go_simp
                     with_reducible rfl
                    rotate_left; · (simp only [Act.put, sT, sZ, sS, i64_w, i32_w]; rfl)
                    refine take_ (i := 45) (N := some 118) (v := ?_) (a' := ?_) #[I,I,I,I,I,I,I,I,I,I,I,I,I,I,I,I,I,I,I,I,I,I,I,I,I,I,I,I,I,I,I,I,I,I,I,I,I,I,I,I,I,I,I,I,I,I,O,O,O,O,O,O,O,O,O,O,O,O,O,O,O,O] rfl rfl (take_ofW HT_.out HW_.out (by kernel_rfl)) (fun _ _ _ h => h) (Or.inl ⟨by rfl, ?_⟩) hHeld ?_ ?_; rotate_left
                    ·rintro w' ⟨s0, s1, s2, s3, s4, s5, s6, s7, s8, s9, s10, s11, s12, s13, s14⟩
                     go_simp
                     with_reducible rfl
                    rotate_left; · (simp only [Act.put, sT, sZ, sS, i64_w, i32_w]; rfl)
                    refine pure_ (i := 46) (N := some 119) (v := ?_) (a' := ?_) #[I,I,I,I,I,I,I,I,I,I,I,I,I,I,I,I,I,I,I,I,I,I,I,I,I,I,I,I,I,I,I,I,I,I,I,I,I,I,I,I,I,I,I,I,I,I,I,O,O,O,O,O,O,O,O,O,O,O,O,O,O,O] rfl rfl (any_of HT_.out (by kernel_rfl)) (fun _ _ _ h => h) (Or.inl ⟨by rfl, ?_⟩) ?_ ?_; rotate_left; · (intro w'; go_simp; with_reducible rfl)
                    rotate_left; · (simp only [Act.put, sT, sZ, sS, i64_w, i32_w]; rfl)
                    refine pure_ (i := 47) (N := some 120) (v := ?_) (a' := ?_) #[I,I,I,I,I,I,I,I,I,I,I,I,I,I,I,I,I,I,I,I,I,I,I,I,I,I,I,I,I,I,I,I,I,I,I,I,I,I,I,I,I,I,I,I,I,I,I,I,O,O,O,O,O,O,O,O,O,O,O,O,O,O] rfl rfl (any_of HT_.out (by kernel_rfl)) (fun _ _ _ h => h) (Or.inl ⟨by rfl, ?_⟩) ?_ ?_; rotate_left; · (intro w'; go_simp; with_reducible rfl)
                    rotate_left; · (simp only [Act.put, sT, sZ, sS, i64_w, i32_w]; rfl)
                    refine pure_ (i := 48) (N := some 121) (v := ?_) (a' := ?_) #[I,I,I,I,I,I,I,I,I,I,I,I,I,I,I,I,I,I,I,I,I,I,I,I,I,I,I,I,I,I,I,I,I,I,I,I,I,I,I,I,I,I,I,I,I,I,I,I,I,O,O,O,O,O,O,O,O,O,O,O,O,O] rfl rfl (any_of HT_.out (by kernel_rfl)) (fun _ _ _ h => h) (Or.inl ⟨by rfl, ?_⟩) ?_ ?_; rotate_left; · (intro w'; go_simp; with_reducible rfl)
                    rotate_left; · (simp only [Act.put, sT, sZ, sS, i64_w, i32_w]; rfl)
                    refine take_ (i := 49) (N := some 122) (v := ?_) (a' := ?_) #[I,I,I,I,I,I,I,I,I,I,I,I,I,I,I,I,I,I,I,I,I,I,I,I,I,I,I,I,I,I,I,I,I,I,I,I,I,I,I,I,I,I,I,I,I,I,I,I,I,I,O,O,O,O,O,O,O,O,O,O,O,O] rfl rfl (take_ofW HT_.out HW_.out (by kernel_rfl)) (fun _ _ _ h => h) (Or.inl ⟨by rfl, ?_⟩) hHeld ?_ ?_; rotate_left
                    ·rintro w' ⟨s0, s1, s2, s3, s4, s5, s6, s7, s8, s9, s10, s11, s12, s13, s14⟩
                     go_simp
                     with_reducible rfl
                    rotate_left; · (simp only [Act.put, sT, sZ, sS, i64_w, i32_w]; rfl)
                    refine take_ (i := 50) (N := some 123) (v := ?_) (a' := ?_) #[I,I,I,I,I,I,I,I,I,I,I,I,I,I,I,I,I,I,I,I,I,I,I,I,I,I,I,I,I,I,I,I,I,I,I,I,I,I,I,I,I,I,I,I,I,I,I,I,I,I,I,O,O,O,O,O,O,O,O,O,O,O] rfl rfl (take_ofW HT_.out HW_.out (by kernel_rfl)) (fun _ _ _ h => h) (Or.inl ⟨by rfl, ?_⟩) hHeld ?_ ?_; rotate_left
                    ·rintro w' ⟨s0, s1, s2, s3, s4, s5, s6, s7, s8, s9, s10, s11, s12, s13, s14⟩
                     go_simp
                     with_reducible rfl
                    rotate_left; · (simp only [Act.put, sT, sZ, sS, i64_w, i32_w]; rfl)
                    refine pure_ (i := 51) (N := some 124) (v := ?_) (a' := ?_) #[I,I,I,I,I,I,I,I,I,I,I,I,I,I,I,I,I,I,I,I,I,I,I,I,I,I,I,I,I,I,I,I,I,I,I,I,I,I,I,I,I,I,I,I,I,I,I,I,I,I,I,I,O,O,O,O,O,O,O,O,O,O] rfl rfl (any_of HT_.out (by kernel_rfl)) (fun _ _ _ h => h) (Or.inl ⟨by rfl, ?_⟩) ?_ ?_; rotate_left; · (intro w'; go_simp; with_reducible rfl)
                    rotate_left; · (simp only [Act.put, sT, sZ, sS, i64_w, i32_w]; rfl)
                    refine pure_ (i := 52) (N := some 125) (v := ?_) (a' := ?_) #[I,I,I,I,I,I,I,I,I,I,I,I,I,I,I,I,I,I,I,I,I,I,I,I,I,I,I,I,I,I,I,I,I,I,I,I,I,I,I,I,I,I,I,I,I,I,I,I,I,I,I,I,I,O,O,O,O,O,O,O,O,O] rfl rfl (any_of HT_.out (by kernel_rfl)) (fun _ _ _ h => h) (Or.inl ⟨by rfl, ?_⟩) ?_ ?_; rotate_left; · (intro w'; go_simp; with_reducible rfl)
                    rotate_left; · (simp only [Act.put, sT, sZ, sS, i64_w, i32_w]; rfl)
                    refine pure_ (i := 53) (N := some 126) (v := ?_) (a' := ?_) #[I,I,I,I,I,I,I,I,I,I,I,I,I,I,I,I,I,I,I,I,I,I,I,I,I,I,I,I,I,I,I,I,I,I,I,I,I,I,I,I,I,I,I,I,I,I,I,I,I,I,I,I,I,I,O,O,O,O,O,O,O,O] rfl rfl (any_of HT_.out (by kernel_rfl)) (fun _ _ _ h => h) (Or.inl ⟨by rfl, ?_⟩) ?_ ?_; rotate_left; · (intro w'; go_simp; with_reducible rfl)
                    rotate_left; · (simp only [Act.put, sT, sZ, sS, i64_w, i32_w]; rfl)
                    refine pure_ (i := 54) (N := some 127) (v := ?_) (a' := ?_) #[I,I,I,I,I,I,I,I,I,I,I,I,I,I,I,I,I,I,I,I,I,I,I,I,I,I,I,I,I,I,I,I,I,I,I,I,I,I,I,I,I,I,I,I,I,I,I,I,I,I,I,I,I,I,I,O,O,O,O,O,O,O] rfl rfl (any_of HT_.out (by kernel_rfl)) (fun _ _ _ h => h) (Or.inl ⟨by rfl, ?_⟩) ?_ ?_; rotate_left; · (intro w'; go_simp; with_reducible rfl)
                    rotate_left; · (simp only [Act.put, sT, sZ, sS, i64_w, i32_w]; rfl)
                    refine pure_ (i := 55) (N := some 128) (v := ?_) (a' := ?_) #[I,I,I,I,I,I,I,I,I,I,I,I,I,I,I,I,I,I,I,I,I,I,I,I,I,I,I,I,I,I,I,I,I,I,I,I,I,I,I,I,I,I,I,I,I,I,I,I,I,I,I,I,I,I,I,I,O,O,O,O,O,O] rfl rfl (any_of HT_.out (by kernel_rfl)) (fun _ _ _ h => h) (Or.inl ⟨by rfl, ?_⟩) ?_ ?_; rotate_left; · (intro w'; go_simp; with_reducible rfl)
                    rotate_left; · (simp only [Act.put, sT, sZ, sS, i64_w, i32_w]; rfl)
                    refine take_ (i := 56) (N := some 129) (v := ?_) (a' := ?_) #[I,I,I,I,I,I,I,I,I,I,I,I,I,I,I,I,I,I,I,I,I,I,I,I,I,I,I,I,I,I,I,I,I,I,I,I,I,I,I,I,I,I,I,I,I,I,I,I,I,I,I,I,I,I,I,I,I,O,O,O,O,O] rfl rfl (take_ofW HT_.out HW_.out (by kernel_rfl)) (fun _ _ _ h => h) (Or.inl ⟨by rfl, ?_⟩) hHeld ?_ ?_; rotate_left
                    ·rintro w' ⟨s0, s1, s2, s3, s4, s5, s6, s7, s8, s9, s10, s11, s12, s13, s14⟩
                     go_simp
                     with_reducible rfl
                    rotate_left; · (simp only [Act.put, sT, sZ, sS, i64_w, i32_w]; rfl)
                    refine take_ (i := 57) (N := some 130) (v := ?_) (a' := ?_) #[I,I,I,I,I,I,I,I,I,I,I,I,I,I,I,I,I,I,I,I,I,I,I,I,I,I,I,I,I,I,I,I,I,I,I,I,I,I,I,I,I,I,I,I,I,I,I,I,I,I,I,I,I,I,I,I,I,I,O,O,O,O] rfl rfl (take_ofW HT_.out HW_.out (by kernel_rfl)) (fun _ _ _ h => h) (Or.inl ⟨by rfl, ?_⟩) hHeld ?_ ?_; rotate_left
                    ·rintro w' ⟨s0, s1, s2, s3, s4, s5, s6, s7, s8, s9, s10, s11, s12, s13, s14⟩
                     go_simp
                     with_reducible rfl
                    rotate_left; · (simp only [Act.put, sT, sZ, sS, i64_w, i32_w]; rfl)
                    refine take_ (i := 58) (N := some 131) (v := ?_) (a' := ?_) #[I,I,I,I,I,I,I,I,I,I,I,I,I,I,I,I,I,I,I,I,I,I,I,I,I,I,I,I,I,I,I,I,I,I,I,I,I,I,I,I,I,I,I,I,I,I,I,I,I,I,I,I,I,I,I,I,I,I,I,O,O,O] rfl rfl (take_ofW HT_.out HW_.out (by kernel_rfl)) (fun _ _ _ h => h) (Or.inl ⟨by rfl, ?_⟩) hHeld ?_ ?_; rotate_left
                    ·rintro w' ⟨s0, s1, s2, s3, s4, s5, s6, s7, s8, s9, s10, s11, s12, s13, s14⟩
                     go_simp
                     with_reducible rfl
                    rotate_left; · (simp only [Act.put, sT, sZ, sS, i64_w, i32_w]; rfl)
                    refine one_ (i := 59) (N := some 132) #[I,I,I,I,I,I,I,I,I,I,I,I,I,I,I,I,I,I,I,I,I,I,I,I,I,I,I,I,I,I,I,I,I,I,I,I,I,I,I,I,I,I,I,I,I,I,I,I,I,I,I,I,I,I,I,I,I,I,I,I,O,O] rfl rfl (one_of HT_.out (by kernel_rfl)) (by decide) (fun K hK => ?_)
                    refine goes_ Try.func14 (by kernel_rfl) rfl #[.agg #[.int .i64 a0_0, .int .i64 a0_1, .slice A0_2 l0_2.length c0_2], .agg #[.int .i64 a1_0, .int .i64 a1_1], .agg #[.int .i64 a1_0, .int .i64 a1_1]] (by rfl) rfl rfl (by (try simp only [List.map_toArray, List.map_cons, List.map_nil]); first | done | rfl | (simp; done)) ?_
                    (with_reducible refine (sight_Sees.calls k _ _ _ _ _ _ _ _ _ _ _ (RO.at_ HR0_2.out HK.out) HC0_2.out Hc74.out).mono ?_)
                    rintro e_ w94 ⟨rfl, hb_⟩
                    refine ⟨_, rfl, ?_⟩
                    replace HS := Aside0.mk (HS.out.below hb_)
                    replace HK := Aside0.mk (HK.out.trans (Keep.below hb_))
                    refine hK.out _ _ ⟨bc (SL.get4 HS.out) 0 rfl, bc (SL.get4 HS.out) 1 rfl, bc (SL.get4 HS.out) 2 rfl, bc (SL.get7 HS.out) 0 rfl, bc (SL.get7 HS.out) 1 rfl, bc (SL.get6 HS.out) 0 rfl, bc (SL.get6 HS.out) 1 rfl, bc (SL.get2 HS.out) 0 rfl, bc (SL.get2 HS.out) 1 rfl, bc (SL.get2 HS.out) 2 rfl, bc (SL.get8 HS.out) 0 rfl, bc (SL.get8 HS.out) 1 rfl, bc (SL.get8 HS.out) 2 rfl, bc (SL.get1 HS.out) 0 rfl, bc (SL.get1 HS.out) 1 rfl⟩ (fun hHeld => ?_)
                    clear hK K
                    refine norm_ (a' := ?_) ?_ ?_; rotate_left
                    ·show Act.put _ (some 132) _ = _
                     simp only [Act.put, sT, sZ, sS, i64_w, i32_w]
                     rfl
                    refine pure_ (i := 60) (N := some 133) (v := ?_) (a' := ?_) #[I,I,I,I,I,I,I,I,I,I,I,I,I,I,I,I,I,I,I,I,I,I,I,I,I,I,I,I,I,I,I,I,I,I,I,I,I,I,I,I,I,I,I,I,I,I,I,I,I,I,I,I,I,I,I,I,I,I,I,I,I,O] rfl rfl (any_of HT_.out (by kernel_rfl)) (fun _ _ _ h => h) (Or.inl ⟨by rfl, ?_⟩) ?_ ?_; rotate_left; · (intro w'; go_simp; with_reducible rfl)
                    rotate_left; · (simp only [Act.put, sT, sZ, sS, i64_w, i32_w]; rfl)
                    refine pure_ (i := 61) (N := some 8) (v := ?_) (a' := ?_) #[I,I,I,I,I,I,I,I,I,I,I,I,I,I,I,I,I,I,I,I,I,I,I,I,I,I,I,I,I,I,I,I,I,I,I,I,I,I,I,I,I,I,I,I,I,I,I,I,I,I,I,I,I,I,I,I,I,I,I,I,I,I] rfl rfl (any_of HT_.out (by kernel_rfl)) (fun _ _ _ h => h) (Or.inl ⟨by rfl, ?_⟩) ?_ ?_; rotate_left; · (intro w'; go_simp; with_reducible rfl)
                    rotate_left; · (simp only [Act.put, sT, sZ, sS, i64_w, i32_w]; rfl)
                    refine done_ (done_of HT_.out (by kernel_rfl)) ?_
                    try go_wp2
                    go_ret
                    replace HS := Aside0.mk (SL.tail (SL.tail (SL.tail (SL.tail (SL.tail (SL.tail (SL.tail (SL.tail (SL.tail HS.out)))))))))
                    unfold barrowlaw07_SightWalls.Post
                    exact ⟨by first | rfl | (simp; done) | (simp [*]; done) | (simp at c73b0 ⊢; first | exact c73b0 | (simp [c73b0]; done)), HS.out, HK.out⟩
                   ·rw [if_neg c73] at H
                    have c73b0 : (!(t495 == a2_0) || (!(t496 == a2_1))) = false := by simpa using c73
                    clear c73
                    exact absurd H (by simp)
                  ·rw [if_neg c72] at H
                   have c72b0 : (!(t495 == a1_0) || (!(t496 == a1_1))) = false := by simpa using c72
                   clear c72
                   exact absurd H (by simp)
                 ·replace c71 := Bool.eq_false_iff.mpr c71
                  subst c71
                  rw [if_neg (show ¬ (false = true) by decide)] at H
                  exact absurd H (by simp)
                ·replace c68 := Bool.eq_false_iff.mpr c68
                 subst c68
                 rw [if_neg (show ¬ (false = true) by decide)] at H
                 exact absurd H (by simp)
               ·replace c66 := Bool.eq_false_iff.mpr c66
                subst c66
                rw [if_neg (show ¬ (false = true) by decide)] at H
                replace H := Option.bind_eq_some_iff.1 H
                obtain ⟨t508, Hc1090, H⟩ := H
                try dsimp only at H
                have Hc109 := Aside0.mk Hc1090
                clear Hc1090
                obtain rfl := Option.some.inj H
                have hb_ := SL.at_ (SL.get1 HS.out)
                have hz3000054_0_0 := ((blk_cell hb_ 0).trans rfl : _ = some (.int .i64 a1_0))
                have hz3000054_1_0 := ((blk_cell hb_ 1).trans rfl : _ = some (.int .i64 a1_1))
                clear hb_
                have hb_ := SL.at_ (SL.get2 HS.out)
                have hz3000053_0_0 := ((blk_cell hb_ 0).trans rfl : _ = some (.int .i64 a0_0))
                have hz3000053_1_0 := ((blk_cell hb_ 1).trans rfl : _ = some (.int .i64 a0_1))
                have hz3000053_2_0 := ((blk_cell hb_ 2).trans rfl : _ = some (.slice A0_2 l0_2.length c0_2))
                clear hb_
                refine hG_.out ?_
                try simp only [c13b0, c13b1, c16b0, c16b1, c19b0, c19b1, c20b0, c21b0, c65b0]
                try go_wp2_with (first | ((with_reducible refine gate_dst (N := 23) rfl ?_); (try (refine gate_guard (by rfl) ?_; dsimp only)); refine goesL_ (some 23) rfl rfl Try.func16 (by kernel_rfl) rfl #[.agg #[.int .i64 a0_0, .int .i64 a0_1, .slice A0_2 l0_2.length c0_2], .agg #[.int .i64 a1_0, .int .i64 a1_1]] rfl (by (try simp only [List.map_toArray, List.map_cons, List.map_nil]); first | done | rfl | (simp; done)) ?_; (with_reducible refine (grid_In.calls _ _ _ _ _ _ _ _ _ (RO.at_ HR0_2.out HK.out) HC0_2.out Hc9.out).mono ?_); rintro e_ w110 ⟨rfl, hb_⟩; refine ⟨_, rfl, ?_⟩; replace HS := Aside0.mk (HS.out.below hb_); replace HK := Aside0.mk (HK.out.trans (Keep.below hb_)); (try clear hz3000053_0_0 hz3000053_1_0 hz3000053_2_0); (try clear hz3000054_0_0 hz3000054_1_0); have hb_ := SL.at_ HS.out; have hz3000055_0_1 := ((blk_cell hb_ 0).trans rfl : _ = some (.int .i64 a2_0)); have hz3000055_1_1 := ((blk_cell hb_ 1).trans rfl : _ = some (.int .i64 a2_1)); clear hb_; have hb_ := SL.at_ (SL.get2 HS.out); have hz3000053_0_1 := ((blk_cell hb_ 0).trans rfl : _ = some (.int .i64 a0_0)); have hz3000053_1_1 := ((blk_cell hb_ 1).trans rfl : _ = some (.int .i64 a0_1)); have hz3000053_2_1 := ((blk_cell hb_ 2).trans rfl : _ = some (.slice A0_2 l0_2.length c0_2)); clear hb_) | ((with_reducible refine gate_dst (N := 29) rfl ?_); (try (refine gate_guard (by rfl) ?_; dsimp only)); refine goesL_ (some 29) rfl rfl Try.func16 (by kernel_rfl) rfl #[.agg #[.int .i64 a0_0, .int .i64 a0_1, .slice A0_2 l0_2.length c0_2], .agg #[.int .i64 a2_0, .int .i64 a2_1]] rfl (by (try simp only [List.map_toArray, List.map_cons, List.map_nil]); first | done | rfl | (simp; done)) ?_; (with_reducible refine (grid_In.calls _ _ _ _ _ _ _ _ _ (RO.at_ HR0_2.out HK.out) HC0_2.out Hc11.out).mono ?_); rintro e_ w111 ⟨rfl, hb_⟩; refine ⟨_, rfl, ?_⟩; replace HS := Aside0.mk (HS.out.below hb_); replace HK := Aside0.mk (HK.out.trans (Keep.below hb_)); (try clear hz3000053_0_1 hz3000053_1_1 hz3000053_2_1); (try clear hz3000055_0_1 hz3000055_1_1); have hb_ := SL.at_ (SL.get2 HS.out); have hz3000053_0_2 := ((blk_cell hb_ 0).trans rfl : _ = some (.int .i64 a0_0)); have hz3000053_1_2 := ((blk_cell hb_ 1).trans rfl : _ = some (.int .i64 a0_1)); have hz3000053_2_2 := ((blk_cell hb_ 2).trans rfl : _ = some (.slice A0_2 l0_2.length c0_2)); clear hb_))
                refine start_ (n := 11) (S := fun w' => w'.cell? ⟨g3000053, 0, none⟩ = some (.int .i64 a0_0) ∧ w'.cell? ⟨g3000053, 1, none⟩ = some (.int .i64 a0_1) ∧ w'.cell? ⟨g3000053, 2, none⟩ = some (.slice A0_2 l0_2.length c0_2)) (ds := []) #[O,O,O,O,O,O,O,O,O,O,O] (by kernel_rfl) rfl rfl ⟨bc (SL.get2 HS.out) 0 rfl, bc (SL.get2 HS.out) 1 rfl, bc (SL.get2 HS.out) 2 rfl⟩ (fun hHeld => ?_); refine with_tabW barrowlaw07_SightWalls.tab5 barrowlaw07_SightWalls.bits5 (fun HT_ HW_ => ?_)
                replace HK := Aside0.mk (Keep.drew HK.out)
                replace HS := Aside0.mk (SL.drew HS.out)
                refine pure_ (i := 0) (N := some 39) (v := ?_) (a' := ?_) #[I,O,O,O,O,O,O,O,O,O,O] rfl rfl (any_of HT_.out (by kernel_rfl)) (fun _ _ _ h => h) (Or.inl ⟨by rfl, ?_⟩) ?_ ?_; rotate_left; · (intro w'; go_simp; with_reducible rfl)
                rotate_left; · (simp only [Act.put, sT, sZ, sS, i64_w, i32_w]; rfl)
                refine pure_ (i := 2) (N := some 41) (v := ?_) (a' := ?_) #[I,O,I,O,O,O,O,O,O,O,O] rfl rfl (any_of HT_.out (by kernel_rfl)) (fun _ _ _ h => h) (Or.inl ⟨by rfl, ?_⟩) ?_ ?_; rotate_left; · (intro w'; go_simp; with_reducible rfl)
                rotate_left; · (simp only [Act.put, sT, sZ, sS, i64_w, i32_w]; rfl)
                refine pure_ (i := 4) (N := some 43) (v := ?_) (a' := ?_) #[I,O,I,O,I,O,O,O,O,O,O] rfl rfl (any_of HT_.out (by kernel_rfl)) (fun _ _ _ h => h) (Or.inl ⟨by rfl, ?_⟩) ?_ ?_; rotate_left; · (intro w'; go_simp; with_reducible rfl)
                rotate_left; · (simp only [Act.put, sT, sZ, sS, i64_w, i32_w]; rfl)
                refine take_ (i := 1) (N := some 40) (v := ?_) (a' := ?_) #[I,I,I,O,I,O,O,O,O,O,O] rfl rfl (take_ofW HT_.out HW_.out (by kernel_rfl)) (fun _ _ _ h => h) (Or.inl ⟨by rfl, ?_⟩) hHeld ?_ ?_; rotate_left
                ·rintro w' ⟨s0, s1, s2⟩
                 go_simp
                 with_reducible rfl
                rotate_left; · (simp only [Act.put, sT, sZ, sS, i64_w, i32_w]; rfl)
                refine take_ (i := 3) (N := some 42) (v := ?_) (a' := ?_) #[I,I,I,I,I,O,O,O,O,O,O] rfl rfl (take_ofW HT_.out HW_.out (by kernel_rfl)) (fun _ _ _ h => h) (Or.inl ⟨by rfl, ?_⟩) hHeld ?_ ?_; rotate_left
                ·rintro w' ⟨s0, s1, s2⟩
                 go_simp
                 with_reducible rfl
                rotate_left; · (simp only [Act.put, sT, sZ, sS, i64_w, i32_w]; rfl)
                refine take_ (i := 5) (N := some 44) (v := ?_) (a' := ?_) #[I,I,I,I,I,I,O,O,O,O,O] rfl rfl (take_ofW HT_.out HW_.out (by kernel_rfl)) (fun _ _ _ h => h) (Or.inl ⟨by rfl, ?_⟩) hHeld ?_ ?_; rotate_left
                ·rintro w' ⟨s0, s1, s2⟩
                 go_simp
                 with_reducible rfl
                rotate_left; · (simp only [Act.put, sT, sZ, sS, i64_w, i32_w]; rfl)
                refine pure_ (i := 6) (N := some 45) (v := ?_) (a' := ?_) #[I,I,I,I,I,I,I,O,O,O,O] rfl rfl (any_of HT_.out (by kernel_rfl)) (fun _ _ _ h => h) (Or.inl ⟨by rfl, ?_⟩) ?_ ?_; rotate_left; · (intro w'; go_simp; with_reducible rfl)
                rotate_left; · (simp only [Act.put, sT, sZ, sS, i64_w, i32_w]; rfl)
                refine join_ (σ := Option Addr × Nat × Nat) 1 #[I,I,I,I,I,I,I,I,I,I,O] (fun s_ => [(46, .slice s_.1 y487.length s_.2.1), (47, .agg #[.int .i64 a0_0, .int .i64 a0_1, .slice s_.1 y487.length s_.2.1]), (11, .pointer (some ⟨s_.2.2, 0, none⟩))]) (fun s_ w_ => Keep S w w_ ∧ SL (row Kd.bool 4 (.slice s_.1 y487.length s_.2.1) y487 :: cells s_.2.2 24 [.int .i64 0, .int .i64 0, .slice none 0 0].toArray :: cells g3000055 26 [.int .i64 a2_0, .int .i64 a2_1].toArray :: cells g3000054 26 [.int .i64 a1_0, .int .i64 a1_1].toArray :: cells g3000053 24 [.int .i64 a0_0, .int .i64 a0_1, .slice A0_2 l0_2.length c0_2].toArray :: L) w_ S) ?_ ?_; rotate_left
                ·intro hCont
                 refine two_ (i := 7) (j := 9) (Ni := some 46) (Nj := some 11) #[I,I,I,I,I,I,I,I,O,O,O] #[I,I,I,I,I,I,I,O,O,I,O] rfl rfl rfl rfl (two_of HT_.out (by kernel_rfl)) (by decide) (by decide) (fun K hK => ?_) (fun K hK => ?_)
                 ·skip
                  refine st_of (by rfl) ?_
                  refine op_make (S := S) (enc := Value.bool) (h1 := fun _ => rfl) false 22 4 1 (.tmp 45) (.tmp 45) rfl Try.underlying22 (by kernel_rfl) rfl (by decide) (j486) rfl rfl (of_decide_eq_true (by first | (with_reducible assumption) | assumption)) (by have := LMc17.out; omega) y487 Ny487.out (HF.out.keep HK.out) HS.out ?_
                  intro Az3000056 cz3000056 w128 hs_ hk_
                  replace HS := Aside0.mk ((show SL (row Kd.bool 4 (.slice Az3000056 y487.length cz3000056) y487 :: _) _ _ from hs_))
                  replace HK := Aside0.mk (HK.out.trans hk_)
                  refine hK.out _ _ ⟨bc (SL.get3 HS.out) 0 rfl, bc (SL.get3 HS.out) 1 rfl, bc (SL.get3 HS.out) 2 rfl⟩ (fun hHeld => ?_)
                  clear hK K
                  refine norm_ (a' := ?_) ?_ ?_; rotate_left
                  ·show Act.put _ (some 46) _ = _
                   simp only [Act.put, sT, sZ, sS, i64_w, i32_w]
                   rfl
                  refine pure_ (i := 8) (N := some 47) (v := ?_) (a' := ?_) #[I,I,I,I,I,I,I,I,I,O,O] rfl rfl (any_of HT_.out (by kernel_rfl)) (fun _ _ _ h => h) (Or.inl ⟨by rfl, ?_⟩) ?_ ?_; rotate_left; · (intro w'; go_simp; with_reducible rfl)
                  rotate_left; · (simp only [Act.put, sT, sZ, sS, i64_w, i32_w]; rfl)
                  refine one_ (i := 9) (N := some 11) #[I,I,I,I,I,I,I,I,I,I,O] rfl rfl (one_of HT_.out (by kernel_rfl)) (by decide) (fun K hK => ?_)
                  replace HS := Aside0.mk (SL.get3 (SL.get3 (SL.get3 HS.out)))
                  refine st_of (by rfl) ?_
                  refine op_box (S := S) (cs := #[.int .i64 0, .int .i64 0, .slice none 0 0]) (t := 24) (HF.out.keep HK.out) HS.out (by first | (go_simp; done) | (go_simp; rfl)) ?_
                  intro g3000057 w129 hs_ hk_
                  replace HS := Aside0.mk (hs_)
                  replace HK := Aside0.mk (HK.out.trans hk_)
                  refine hK.out _ _ ⟨bc (SL.get3 HS.out) 0 rfl, bc (SL.get3 HS.out) 1 rfl, bc (SL.get3 HS.out) 2 rfl⟩ (fun hHeld => ?_)
                  clear hK K
                  refine norm_ (a' := ?_) ?_ ?_; rotate_left
                  ·show Act.put _ (some 11) _ = _
                   simp only [Act.put, sT, sZ, sS, i64_w, i32_w]
                   rfl
                  exact norm_ (by simp only [putAll, Act.put, sT, sZ, sS]) (hCont (Az3000056, cz3000056, g3000057) _ ⟨HK.out, (SL.get4 (SL.get3 (SL.get3 (SL.get3 (SL.get3 HS.out)))))⟩)
                 ·skip
                  refine st_of (by rfl) ?_
                  refine op_box (S := S) (cs := #[.int .i64 0, .int .i64 0, .slice none 0 0]) (t := 24) (HF.out.keep HK.out) HS.out (by first | (go_simp; done) | (go_simp; rfl)) ?_
                  intro g3000057 w130 hs_ hk_
                  replace HS := Aside0.mk (hs_)
                  replace HK := Aside0.mk (HK.out.trans hk_)
                  refine hK.out _ _ ⟨bc (SL.get3 HS.out) 0 rfl, bc (SL.get3 HS.out) 1 rfl, bc (SL.get3 HS.out) 2 rfl⟩ (fun hHeld => ?_)
                  clear hK K
                  refine norm_ (a' := ?_) ?_ ?_; rotate_left
                  ·show Act.put _ (some 11) _ = _
                   simp only [Act.put, sT, sZ, sS, i64_w, i32_w]
                   rfl
                  refine one_ (i := 7) (N := some 46) #[I,I,I,I,I,I,I,I,O,I,O] rfl rfl (one_of HT_.out (by kernel_rfl)) (by decide) (fun K hK => ?_)
                  replace HS := Aside0.mk (SL.get3 (SL.get3 (SL.get3 HS.out)))
                  refine st_of (by rfl) ?_
                  refine op_make (S := S) (enc := Value.bool) (h1 := fun _ => rfl) false 22 4 1 (.tmp 45) (.tmp 45) rfl Try.underlying22 (by kernel_rfl) rfl (by decide) (j486) rfl rfl (of_decide_eq_true (by first | (with_reducible assumption) | assumption)) (by have := LMc17.out; omega) y487 Ny487.out (HF.out.keep HK.out) HS.out ?_
                  intro Az3000056 cz3000056 w131 hs_ hk_
                  replace HS := Aside0.mk ((show SL (row Kd.bool 4 (.slice Az3000056 y487.length cz3000056) y487 :: _) _ _ from hs_))
                  replace HK := Aside0.mk (HK.out.trans hk_)
                  refine hK.out _ _ ⟨bc (SL.get3 HS.out) 0 rfl, bc (SL.get3 HS.out) 1 rfl, bc (SL.get3 HS.out) 2 rfl⟩ (fun hHeld => ?_)
                  clear hK K
                  refine norm_ (a' := ?_) ?_ ?_; rotate_left
                  ·show Act.put _ (some 46) _ = _
                   simp only [Act.put, sT, sZ, sS, i64_w, i32_w]
                   rfl
                  refine pure_ (i := 8) (N := some 47) (v := ?_) (a' := ?_) #[I,I,I,I,I,I,I,I,I,I,O] rfl rfl (any_of HT_.out (by kernel_rfl)) (fun _ _ _ h => h) (Or.inl ⟨by rfl, ?_⟩) ?_ ?_; rotate_left; · (intro w'; go_simp; with_reducible rfl)
                  rotate_left; · (simp only [Act.put, sT, sZ, sS, i64_w, i32_w]; rfl)
                  exact norm_ (by simp only [putAll, Act.put, sT, sZ, sS]) (hCont (Az3000056, cz3000056, g3000057) _ ⟨HK.out, (SL.get4 (SL.get4 (SL.get3 (SL.get3 (SL.get3 HS.out)))))⟩)
                rintro ⟨Az3000056, cz3000056, g3000057⟩ w127 ⟨hk_, hs_⟩
                clear HK HS
                have HK := Aside0.mk hk_
                have HS := Aside0.mk hs_
                clear hk_ hs_
                have hHeld := (⟨bc (SL.get4 HS.out) 0 rfl, bc (SL.get4 HS.out) 1 rfl, bc (SL.get4 HS.out) 2 rfl⟩ : w127.cell? ⟨g3000053, 0, none⟩ = some (.int .i64 a0_0) ∧ w127.cell? ⟨g3000053, 1, none⟩ = some (.int .i64 a0_1) ∧ w127.cell? ⟨g3000053, 2, none⟩ = some (.slice A0_2 l0_2.length c0_2))
                replace HS := Aside0.mk (SL.get4 (SL.get3 (SL.get4 (SL.get4 (SL.get4 HS.out)))))
                refine norm_ (a' := ?_) ?_ ?_; rotate_left; · (simp only [putAll, Act.put, sT, sZ, sS]; rfl)
                refine one_ (i := 10) (N := none) #[I,I,I,I,I,I,I,I,I,I,I] rfl rfl (one_of HT_.out (by kernel_rfl)) (by decide) (fun K hK => ?_)
                refine st_of (by rfl) ?_
                refine op_store (S := S) 24 (.tmp 11) (.tmp 47) rfl g3000057 0 (.agg #[.int .i64 a0_0, .int .i64 a0_1, .slice Az3000056 y487.length cz3000056]) [.int .i64 a0_0, .int .i64 a0_1, .slice Az3000056 y487.length cz3000056] rfl rfl rfl (by kernel_rfl) (by simp [Value.oneCell']) HS.out (by simp) ?_
                intro w114 hs_ hk_
                replace HS := Aside0.mk ((show SL (cells g3000057 24 [.int .i64 a0_0, .int .i64 a0_1, .slice Az3000056 y487.length cz3000056].toArray :: _) _ _ from hs_))
                replace HK := Aside0.mk (HK.out.trans hk_)
                refine hK.out _ _ ⟨bc (SL.get4 HS.out) 0 rfl, bc (SL.get4 HS.out) 1 rfl, bc (SL.get4 HS.out) 2 rfl⟩ (fun hHeld => ?_)
                clear hK K
                refine done_ (done_of HT_.out (by kernel_rfl)) ?_
                try go_wp2
                refine start_ (n := 11) (S := fun w' => w'.cell? ⟨g3000053, 0, none⟩ = some (.int .i64 a0_0) ∧ w'.cell? ⟨g3000053, 1, none⟩ = some (.int .i64 a0_1) ∧ w'.cell? ⟨g3000053, 2, none⟩ = some (.slice A0_2 l0_2.length c0_2)) (ds := []) #[O,O,O,O,O,O,O,O,O,O,O] (by kernel_rfl) rfl rfl ⟨bc (SL.get4 HS.out) 0 rfl, bc (SL.get4 HS.out) 1 rfl, bc (SL.get4 HS.out) 2 rfl⟩ (fun hHeld => ?_); refine with_tabW barrowlaw07_SightWalls.tab6 barrowlaw07_SightWalls.bits6 (fun HT_ HW_ => ?_)
                replace HK := Aside0.mk (Keep.drew HK.out)
                replace HS := Aside0.mk (SL.drew HS.out)
                refine pure_ (i := 0) (N := some 48) (v := ?_) (a' := ?_) #[I,O,O,O,O,O,O,O,O,O,O] rfl rfl (any_of HT_.out (by kernel_rfl)) (fun _ _ _ h => h) (Or.inl ⟨by rfl, ?_⟩) ?_ ?_; rotate_left; · (intro w'; go_simp; with_reducible rfl)
                rotate_left; · (simp only [Act.put, sT, sZ, sS, i64_w, i32_w]; rfl)
                refine pure_ (i := 2) (N := some 50) (v := ?_) (a' := ?_) #[I,O,I,O,O,O,O,O,O,O,O] rfl rfl (any_of HT_.out (by kernel_rfl)) (fun _ _ _ h => h) (Or.inl ⟨by rfl, ?_⟩) ?_ ?_; rotate_left; · (intro w'; go_simp; with_reducible rfl)
                rotate_left; · (simp only [Act.put, sT, sZ, sS, i64_w, i32_w]; rfl)
                refine pure_ (i := 5) (N := some 53) (v := ?_) (a' := ?_) #[I,O,I,O,O,I,O,O,O,O,O] rfl rfl (any_of HT_.out (by kernel_rfl)) (fun _ _ _ h => h) (Or.inl ⟨by rfl, ?_⟩) ?_ ?_; rotate_left; · (intro w'; go_simp; with_reducible rfl)
                rotate_left; · (simp only [Act.put, sT, sZ, sS, i64_w, i32_w]; rfl)
                refine take_ (i := 1) (N := some 49) (v := ?_) (a' := ?_) #[I,I,I,O,O,I,O,O,O,O,O] rfl rfl (take_ofW HT_.out HW_.out (by kernel_rfl)) (fun _ _ _ h => h) (Or.inl ⟨by rfl, ?_⟩) hHeld ?_ ?_; rotate_left
                ·rintro w' ⟨s0, s1, s2⟩
                 go_simp
                 with_reducible rfl
                rotate_left; · (simp only [Act.put, sT, sZ, sS, i64_w, i32_w]; rfl)
                refine take_ (i := 3) (N := some 51) (v := ?_) (a' := ?_) #[I,I,I,I,O,I,O,O,O,O,O] rfl rfl (take_ofW HT_.out HW_.out (by kernel_rfl)) (fun _ _ _ h => h) (Or.inl ⟨by rfl, ?_⟩) hHeld ?_ ?_; rotate_left
                ·rintro w' ⟨s0, s1, s2⟩
                 go_simp
                 with_reducible rfl
                rotate_left; · (simp only [Act.put, sT, sZ, sS, i64_w, i32_w]; rfl)
                refine take_ (i := 6) (N := some 54) (v := ?_) (a' := ?_) #[I,I,I,I,O,I,I,O,O,O,O] rfl rfl (take_ofW HT_.out HW_.out (by kernel_rfl)) (fun _ _ _ h => h) (Or.inl ⟨by rfl, ?_⟩) hHeld ?_ ?_; rotate_left
                ·rintro w' ⟨s0, s1, s2⟩
                 go_simp
                 with_reducible rfl
                rotate_left; · (simp only [Act.put, sT, sZ, sS, i64_w, i32_w]; rfl)
                refine join_ (σ := Option Addr × Nat × Option Addr × Nat × Nat) 1 #[I,I,I,I,I,I,I,I,I,I,O] (fun s_ => [(52, .slice s_.2.2.1 0 s_.2.2.2.1), (55, .slice s_.1 y489.length s_.2.1), (56, .agg #[.int .i64 a0_0, .int .i64 a0_1, .slice s_.1 y489.length s_.2.1]), (12, .pointer (some ⟨s_.2.2.2.2, 0, none⟩))]) (fun s_ w_ => Keep S w w_ ∧ SL (row Kd.bool 4 (.slice s_.1 y489.length s_.2.1) y489 :: cells s_.2.2.2.2 24 [.int .i64 0, .int .i64 0, .slice none 0 0].toArray :: cells g3000057 24 [.int .i64 a0_0, .int .i64 a0_1, .slice Az3000056 y487.length cz3000056].toArray :: row Kd.bool 4 (.slice Az3000056 y487.length cz3000056) y487 :: cells g3000055 26 [.int .i64 a2_0, .int .i64 a2_1].toArray :: cells g3000054 26 [.int .i64 a1_0, .int .i64 a1_1].toArray :: cells g3000053 24 [.int .i64 a0_0, .int .i64 a0_1, .slice A0_2 l0_2.length c0_2].toArray :: L) w_ S) ?_ ?_; rotate_left
                ·intro hCont
                 refine two_ (i := 4) (j := 9) (Ni := some 52) (Nj := some 12) #[I,I,I,I,I,I,I,O,O,O,O] #[I,I,I,I,O,I,I,O,O,I,O] rfl rfl rfl rfl (two_of HT_.out (by kernel_rfl)) (by decide) (by decide) (fun K hK => ?_) (fun K hK => ?_)
                 ·skip
                  refine st_of (by rfl) ?_
                  refine op_row (S := S) (enc := Value.bool) (h1 := fun _ => rfl) 4 y488 #[] 0 (by rw [← Ny488.out]; rfl) (by rw [← Ny488.out]; rfl) (by decide) (HF.out.keep HK.out) HS.out (by first | (go_simp; done) | (go_simp; rfl)) ?_
                  intro Az3000058 cz3000058 w133 hs_ hk_
                  replace HS := Aside0.mk ((show SL (row Kd.bool 4 (.slice Az3000058 0 cz3000058) y488 :: _) _ _ from hs_))
                  replace HK := Aside0.mk (HK.out.trans hk_)
                  refine hK.out _ _ ⟨bc (SL.get5 HS.out) 0 rfl, bc (SL.get5 HS.out) 1 rfl, bc (SL.get5 HS.out) 2 rfl⟩ (fun hHeld => ?_)
                  clear hK K
                  refine norm_ (a' := ?_) ?_ ?_; rotate_left
                  ·show Act.put _ (some 52) _ = _
                   simp only [Act.put, sT, sZ, sS, i64_w, i32_w]
                   rfl
                  refine two_ (i := 7) (j := 9) (Ni := some 55) (Nj := some 12) #[I,I,I,I,I,I,I,I,O,O,O] #[I,I,I,I,I,I,I,O,O,I,O] rfl rfl rfl rfl (two_of HT_.out (by kernel_rfl)) (by decide) (by decide) (fun K hK => ?_) (fun K hK => ?_)
                  ·skip
                   replace HS := Aside0.mk (SL.get5 (SL.get5 (SL.get5 (SL.get5 (SL.get5 HS.out)))))
                   refine st_of (by rfl) ?_
                   refine op_append (S := S) (enc := Value.bool) (h1 := fun _ => rfl) false (.tmp 52) (.tmp 54) 22 4 (.bool false) 1 rfl Try.underlying22 info4 rfl (by decide) (.slice Az3000058 0 cz3000058) rfl rfl (HF.out.keep HK.out) (SL.get5 HS.out) (RO.at_ HR0_2.out HK.out) (by have := LMc18.out; omega) y489 Ny489.out ?_
                   intro A490 c491 w134 hs_ hk_
                   replace HS := Aside0.mk ((SL.back5 (show SL (row Kd.bool 4 (.slice A490 y489.length c491) y489 :: _) _ _ from hs_)))
                   replace HK := Aside0.mk (HK.out.trans hk_)
                   refine hK.out _ _ ⟨bc (SL.get4 HS.out) 0 rfl, bc (SL.get4 HS.out) 1 rfl, bc (SL.get4 HS.out) 2 rfl⟩ (fun hHeld => ?_)
                   clear hK K
                   refine norm_ (a' := ?_) ?_ ?_; rotate_left
                   ·show Act.put _ (some 55) _ = _
                    simp only [Act.put, sT, sZ, sS, i64_w, i32_w]
                    rfl
                   refine pure_ (i := 8) (N := some 56) (v := ?_) (a' := ?_) #[I,I,I,I,I,I,I,I,I,O,O] rfl rfl (any_of HT_.out (by kernel_rfl)) (fun _ _ _ h => h) (Or.inl ⟨by rfl, ?_⟩) ?_ ?_; rotate_left; · (intro w'; go_simp; with_reducible rfl)
                   rotate_left; · (simp only [Act.put, sT, sZ, sS, i64_w, i32_w]; rfl)
                   refine one_ (i := 9) (N := some 12) #[I,I,I,I,I,I,I,I,I,I,O] rfl rfl (one_of HT_.out (by kernel_rfl)) (by decide) (fun K hK => ?_)
                   refine st_of (by rfl) ?_
                   refine op_box (S := S) (cs := #[.int .i64 0, .int .i64 0, .slice none 0 0]) (t := 24) (HF.out.keep HK.out) HS.out (by first | (go_simp; done) | (go_simp; rfl)) ?_
                   intro g3000059 w135 hs_ hk_
                   replace HS := Aside0.mk (hs_)
                   replace HK := Aside0.mk (HK.out.trans hk_)
                   refine hK.out _ _ ⟨bc (SL.get5 HS.out) 0 rfl, bc (SL.get5 HS.out) 1 rfl, bc (SL.get5 HS.out) 2 rfl⟩ (fun hHeld => ?_)
                   clear hK K
                   refine norm_ (a' := ?_) ?_ ?_; rotate_left
                   ·show Act.put _ (some 12) _ = _
                    simp only [Act.put, sT, sZ, sS, i64_w, i32_w]
                    rfl
                   exact norm_ (by simp only [putAll, Act.put, sT, sZ, sS]) (hCont (A490, c491, Az3000058, cz3000058, g3000059) _ ⟨HK.out, (SL.get6 (SL.get5 (SL.get5 (SL.get5 (SL.get5 (SL.get5 (SL.get5 HS.out)))))))⟩)
                  ·skip
                   replace HS := Aside0.mk (SL.get5 (SL.get5 (SL.get5 (SL.get5 (SL.get5 HS.out)))))
                   refine st_of (by rfl) ?_
                   refine op_box (S := S) (cs := #[.int .i64 0, .int .i64 0, .slice none 0 0]) (t := 24) (HF.out.keep HK.out) HS.out (by first | (go_simp; done) | (go_simp; rfl)) ?_
                   intro g3000059 w136 hs_ hk_
                   replace HS := Aside0.mk (hs_)
                   replace HK := Aside0.mk (HK.out.trans hk_)
                   refine hK.out _ _ ⟨bc (SL.get5 HS.out) 0 rfl, bc (SL.get5 HS.out) 1 rfl, bc (SL.get5 HS.out) 2 rfl⟩ (fun hHeld => ?_)
                   clear hK K
                   refine norm_ (a' := ?_) ?_ ?_; rotate_left
                   ·show Act.put _ (some 12) _ = _
                    simp only [Act.put, sT, sZ, sS, i64_w, i32_w]
                    rfl
                   refine one_ (i := 7) (N := some 55) #[I,I,I,I,I,I,I,I,O,I,O] rfl rfl (one_of HT_.out (by kernel_rfl)) (by decide) (fun K hK => ?_)
                   replace HS := Aside0.mk (SL.get6 (SL.get6 (SL.get6 (SL.get6 (SL.get6 (SL.get6 HS.out))))))
                   refine st_of (by rfl) ?_
                   refine op_append (S := S) (enc := Value.bool) (h1 := fun _ => rfl) false (.tmp 52) (.tmp 54) 22 4 (.bool false) 1 rfl Try.underlying22 info4 rfl (by decide) (.slice Az3000058 0 cz3000058) rfl rfl (HF.out.keep HK.out) (SL.get5 HS.out) (RO.at_ HR0_2.out HK.out) (by have := LMc18.out; omega) y489 Ny489.out ?_
                   intro A490 c491 w137 hs_ hk_
                   replace HS := Aside0.mk ((SL.back5 (show SL (row Kd.bool 4 (.slice A490 y489.length c491) y489 :: _) _ _ from hs_)))
                   replace HK := Aside0.mk (HK.out.trans hk_)
                   refine hK.out _ _ ⟨bc (SL.get4 HS.out) 0 rfl, bc (SL.get4 HS.out) 1 rfl, bc (SL.get4 HS.out) 2 rfl⟩ (fun hHeld => ?_)
                   clear hK K
                   refine norm_ (a' := ?_) ?_ ?_; rotate_left
                   ·show Act.put _ (some 55) _ = _
                    simp only [Act.put, sT, sZ, sS, i64_w, i32_w]
                    rfl
                   refine pure_ (i := 8) (N := some 56) (v := ?_) (a' := ?_) #[I,I,I,I,I,I,I,I,I,I,O] rfl rfl (any_of HT_.out (by kernel_rfl)) (fun _ _ _ h => h) (Or.inl ⟨by rfl, ?_⟩) ?_ ?_; rotate_left; · (intro w'; go_simp; with_reducible rfl)
                   rotate_left; · (simp only [Act.put, sT, sZ, sS, i64_w, i32_w]; rfl)
                   exact norm_ (by simp only [putAll, Act.put, sT, sZ, sS]) (hCont (A490, c491, Az3000058, cz3000058, g3000059) _ ⟨HK.out, (SL.get6 (SL.get6 (SL.get4 (SL.get4 (SL.get4 (SL.get4 (SL.get4 HS.out)))))))⟩)
                 ·skip
                  refine st_of (by rfl) ?_
                  refine op_box (S := S) (cs := #[.int .i64 0, .int .i64 0, .slice none 0 0]) (t := 24) (HF.out.keep HK.out) HS.out (by first | (go_simp; done) | (go_simp; rfl)) ?_
                  intro g3000059 w138 hs_ hk_
                  replace HS := Aside0.mk (hs_)
                  replace HK := Aside0.mk (HK.out.trans hk_)
                  refine hK.out _ _ ⟨bc (SL.get5 HS.out) 0 rfl, bc (SL.get5 HS.out) 1 rfl, bc (SL.get5 HS.out) 2 rfl⟩ (fun hHeld => ?_)
                  clear hK K
                  refine norm_ (a' := ?_) ?_ ?_; rotate_left
                  ·show Act.put _ (some 12) _ = _
                   simp only [Act.put, sT, sZ, sS, i64_w, i32_w]
                   rfl
                  refine one_ (i := 4) (N := some 52) #[I,I,I,I,I,I,I,O,O,I,O] rfl rfl (one_of HT_.out (by kernel_rfl)) (by decide) (fun K hK => ?_)
                  replace HS := Aside0.mk (SL.get5 (SL.get5 (SL.get5 (SL.get5 (SL.get5 HS.out)))))
                  refine st_of (by rfl) ?_
                  refine op_row (S := S) (enc := Value.bool) (h1 := fun _ => rfl) 4 y488 #[] 0 (by rw [← Ny488.out]; rfl) (by rw [← Ny488.out]; rfl) (by decide) (HF.out.keep HK.out) HS.out (by first | (go_simp; done) | (go_simp; rfl)) ?_
                  intro Az3000058 cz3000058 w139 hs_ hk_
                  replace HS := Aside0.mk ((show SL (row Kd.bool 4 (.slice Az3000058 0 cz3000058) y488 :: _) _ _ from hs_))
                  replace HK := Aside0.mk (HK.out.trans hk_)
                  refine hK.out _ _ ⟨bc (SL.get5 HS.out) 0 rfl, bc (SL.get5 HS.out) 1 rfl, bc (SL.get5 HS.out) 2 rfl⟩ (fun hHeld => ?_)
                  clear hK K
                  refine norm_ (a' := ?_) ?_ ?_; rotate_left
                  ·show Act.put _ (some 52) _ = _
                   simp only [Act.put, sT, sZ, sS, i64_w, i32_w]
                   rfl
                  refine one_ (i := 7) (N := some 55) #[I,I,I,I,I,I,I,I,O,I,O] rfl rfl (one_of HT_.out (by kernel_rfl)) (by decide) (fun K hK => ?_)
                  replace HS := Aside0.mk (SL.get6 (SL.get6 (SL.get6 (SL.get6 (SL.get6 (SL.get6 HS.out))))))
                  refine st_of (by rfl) ?_
                  refine op_append (S := S) (enc := Value.bool) (h1 := fun _ => rfl) false (.tmp 52) (.tmp 54) 22 4 (.bool false) 1 rfl Try.underlying22 info4 rfl (by decide) (.slice Az3000058 0 cz3000058) rfl rfl (HF.out.keep HK.out) (SL.get6 HS.out) (RO.at_ HR0_2.out HK.out) (by have := LMc18.out; omega) y489 Ny489.out ?_
                  intro A490 c491 w140 hs_ hk_
                  replace HS := Aside0.mk ((SL.back6 (show SL (row Kd.bool 4 (.slice A490 y489.length c491) y489 :: _) _ _ from hs_)))
                  replace HK := Aside0.mk (HK.out.trans hk_)
                  refine hK.out _ _ ⟨bc (SL.get4 HS.out) 0 rfl, bc (SL.get4 HS.out) 1 rfl, bc (SL.get4 HS.out) 2 rfl⟩ (fun hHeld => ?_)
                  clear hK K
                  refine norm_ (a' := ?_) ?_ ?_; rotate_left
                  ·show Act.put _ (some 55) _ = _
                   simp only [Act.put, sT, sZ, sS, i64_w, i32_w]
                   rfl
                  refine pure_ (i := 8) (N := some 56) (v := ?_) (a' := ?_) #[I,I,I,I,I,I,I,I,I,I,O] rfl rfl (any_of HT_.out (by kernel_rfl)) (fun _ _ _ h => h) (Or.inl ⟨by rfl, ?_⟩) ?_ ?_; rotate_left; · (intro w'; go_simp; with_reducible rfl)
                  rotate_left; · (simp only [Act.put, sT, sZ, sS, i64_w, i32_w]; rfl)
                  exact norm_ (by simp only [putAll, Act.put, sT, sZ, sS]) (hCont (A490, c491, Az3000058, cz3000058, g3000059) _ ⟨HK.out, (SL.get6 (SL.get5 (SL.get4 (SL.get4 (SL.get4 (SL.get4 (SL.get4 HS.out)))))))⟩)
                rintro ⟨A490, c491, Az3000058, cz3000058, g3000059⟩ w132 ⟨hk_, hs_⟩
                clear HK HS
                have HK := Aside0.mk hk_
                have HS := Aside0.mk hs_
                clear hk_ hs_
                have hHeld := (⟨bc (SL.get6 HS.out) 0 rfl, bc (SL.get6 HS.out) 1 rfl, bc (SL.get6 HS.out) 2 rfl⟩ : w132.cell? ⟨g3000053, 0, none⟩ = some (.int .i64 a0_0) ∧ w132.cell? ⟨g3000053, 1, none⟩ = some (.int .i64 a0_1) ∧ w132.cell? ⟨g3000053, 2, none⟩ = some (.slice A0_2 l0_2.length c0_2))
                replace HS := Aside0.mk (SL.get6 (SL.get5 (SL.get6 (SL.get6 (SL.get6 (SL.get6 (SL.get6 HS.out)))))))
                refine norm_ (a' := ?_) ?_ ?_; rotate_left; · (simp only [putAll, Act.put, sT, sZ, sS]; rfl)
                refine one_ (i := 10) (N := none) #[I,I,I,I,I,I,I,I,I,I,I] rfl rfl (one_of HT_.out (by kernel_rfl)) (by decide) (fun K hK => ?_)
                refine st_of (by rfl) ?_
                refine op_store (S := S) 24 (.tmp 12) (.tmp 56) rfl g3000059 0 (.agg #[.int .i64 a0_0, .int .i64 a0_1, .slice A490 y489.length c491]) [.int .i64 a0_0, .int .i64 a0_1, .slice A490 y489.length c491] rfl rfl rfl (by kernel_rfl) (by simp [Value.oneCell']) HS.out (by simp) ?_
                intro w118 hs_ hk_
                replace HS := Aside0.mk ((show SL (cells g3000059 24 [.int .i64 a0_0, .int .i64 a0_1, .slice A490 y489.length c491].toArray :: _) _ _ from hs_))
                replace HK := Aside0.mk (HK.out.trans hk_)
                refine hK.out _ _ ⟨bc (SL.get6 HS.out) 0 rfl, bc (SL.get6 HS.out) 1 rfl, bc (SL.get6 HS.out) 2 rfl⟩ (fun hHeld => ?_)
                clear hK K
                refine done_ (done_of HT_.out (by kernel_rfl)) ?_
                try go_wp2
                have pq493 : 0 ≤ (j492 : Int) := of_decide_eq_true (by first | (with_reducible assumption) | assumption)
                have qq493 : j492 < ((y489.length : Int) : Int) := of_decide_eq_true (by first | (with_reducible assumption) | assumption)
                obtain ⟨adq493, eq493, hxq493_0⟩ := Kd.at_bool (SL.row_c (SL.get1 HS.out)).2.2 j492 pq493 qq493
                cases eq493
                replace pq493 := eq_true pq493
                replace qq493 := eq_true qq493
                refine start_ (n := 10) (S := fun w' => w'.cell? ⟨g3000059, 2, none⟩ = some (.slice (some adq493) y489.length c491) ∧ w'.cell? (adq493.add j492.toNat) = some (.bool (rdOf false y489 j492))) (ds := [9]) #[O,O,O,O,O,O,O,O,O,O] (by kernel_rfl) rfl rfl ⟨bc HS.out 2 rfl, (SL.cell_sc (enc := Value.bool) (h1 := fun _ => rfl) false (SL.get1 HS.out) j492 (of_eq_true pq493) (of_eq_true qq493))⟩ (fun hHeld => ?_); refine with_tabW barrowlaw07_SightWalls.tab7 barrowlaw07_SightWalls.bits7 (fun HT_ HW_ => ?_)
                replace HK := Aside0.mk (Keep.drew HK.out)
                replace HS := Aside0.mk (SL.drew HS.out)
                refine pure_ (i := 0) (N := some 57) (v := ?_) (a' := ?_) #[I,O,O,O,O,O,O,O,O,O] rfl rfl (any_of HT_.out (by kernel_rfl)) (fun _ _ _ h => h) (Or.inl ⟨by rfl, ?_⟩) ?_ ?_; rotate_left; · (intro w'; go_simp; with_reducible rfl)
                rotate_left; · (simp only [Act.put, sT, sZ, sS, i64_w, i32_w]; rfl)
                refine pure_ (i := 2) (N := some 59) (v := ?_) (a' := ?_) #[I,O,I,O,O,O,O,O,O,O] rfl rfl (any_of HT_.out (by kernel_rfl)) (fun _ _ _ h => h) (Or.inl ⟨by rfl, ?_⟩) ?_ ?_; rotate_left; · (intro w'; go_simp; with_reducible rfl)
                rotate_left; · (simp only [Act.put, sT, sZ, sS, i64_w, i32_w]; rfl)
                refine pure_ (i := 3) (N := some 60) (v := ?_) (a' := ?_) #[I,O,I,I,O,O,O,O,O,O] rfl rfl (any_of HT_.out (by kernel_rfl)) (fun _ _ _ h => h) (Or.inl ⟨by rfl, ?_⟩) ?_ ?_; rotate_left; · (intro w'; go_simp; with_reducible rfl)
                rotate_left; · (simp only [Act.put, sT, sZ, sS, i64_w, i32_w]; rfl)
                refine pure_ (i := 4) (N := some 61) (v := ?_) (a' := ?_) #[I,O,I,I,I,O,O,O,O,O] rfl rfl (any_of HT_.out (by kernel_rfl)) (fun _ _ _ h => h) (Or.inl ⟨by rfl, ?_⟩) ?_ ?_; rotate_left; · (intro w'; go_simp; with_reducible rfl)
                rotate_left; · (simp only [Act.put, sT, sZ, sS, i64_w, i32_w]; rfl)
                refine take_ (i := 1) (N := some 58) (v := ?_) (a' := ?_) #[I,I,I,I,I,O,O,O,O,O] rfl rfl (take_ofW HT_.out HW_.out (by kernel_rfl)) (fun _ _ _ h => h) (Or.inl ⟨by rfl, ?_⟩) hHeld ?_ ?_; rotate_left
                ·rintro w' ⟨s0, s1⟩
                 go_simp
                 with_reducible rfl
                rotate_left; · (simp only [Act.put, sT, sZ, sS, i64_w, i32_w]; rfl)
                refine take_ (i := 5) (N := some 62) (v := ?_) (a' := ?_) #[I,I,I,I,I,I,O,O,O,O] rfl rfl (take_ofW HT_.out HW_.out (by kernel_rfl)) (fun _ _ _ h => h) (Or.inl ⟨by rfl, ?_⟩) hHeld ?_ ?_; rotate_left
                ·rintro w' ⟨s0, s1⟩
                 go_simp
                 with_reducible rfl
                rotate_left; · (simp only [Act.put, sT, sZ, sS, i64_w, i32_w]; rfl)
                refine pure_ (i := 6) (N := some 63) (v := ?_) (a' := ?_) #[I,I,I,I,I,I,I,O,O,O] rfl rfl (any_of HT_.out (by kernel_rfl)) (fun _ _ _ h => h) (Or.inl ⟨by rfl, ?_⟩) ?_ ?_; rotate_left; · (intro w'; go_simp; with_reducible rfl)
                rotate_left; · (simp only [Act.put, sT, sZ, sS, i64_w, i32_w]; rfl)
                refine pure_ (i := 7) (N := some 64) (v := ?_) (a' := ?_) #[I,I,I,I,I,I,I,I,O,O] rfl rfl (any_of HT_.out (by kernel_rfl)) (fun _ _ _ h => h) (Or.inl ⟨by rfl, ?_⟩) ?_ ?_; rotate_left; · (intro w'; go_simp; with_reducible rfl)
                rotate_left; · (simp only [Act.put, sT, sZ, sS, i64_w, i32_w]; rfl)
                refine pure_ (i := 8) (N := some 65) (v := ?_) (a' := ?_) #[I,I,I,I,I,I,I,I,I,O] rfl rfl (any_of HT_.out (by kernel_rfl)) (fun _ _ _ h => h) (Or.inl ⟨by rfl, ?_⟩) ?_ ?_; rotate_left; · (intro w'; go_simp; with_reducible rfl)
                rotate_left; · (simp only [Act.put, sT, sZ, sS, i64_w, i32_w]; rfl)
                refine last_ (i := 9) (N := none) #[I,I,I,I,I,I,I,I,I,I] rfl rfl (one_of HT_.out (by kernel_rfl)) (by decide) (fun K hK => ?_)
                refine st_of (by rfl) ?_
                refine op_set (S := S) (enc := Value.bool) (h1 := fun _ => rfl) 4 (.tmp 65) (.const (.bool true)) rfl adq493 (j492) true (SL.get1 HS.out) (by rfl) rfl (by kernel_rfl) (of_decide_eq_true (by first | (with_reducible assumption) | assumption)) (of_decide_eq_true (by first | (with_reducible assumption) | assumption)) y494 Ny494.out ?_
                intro w119 hs_ hk_
                replace HS := Aside0.mk ((SL.back1 (show SL (row Kd.bool 4 (.slice (some adq493) y489.length c491) y494 :: _) _ _ from hs_)))
                replace HK := Aside0.mk (HK.out.trans hk_)
                refine hK.out _ _ ?_
                clear hK K
                refine done_ (done_of HT_.out (by kernel_rfl)) ?_
                have hb_ := SL.at_ (SL.get4 HS.out)
                have hz3000055_0_13 := ((blk_cell hb_ 0).trans rfl : _ = some (.int .i64 a2_0))
                have hz3000055_1_13 := ((blk_cell hb_ 1).trans rfl : _ = some (.int .i64 a2_1))
                clear hb_
                have hb_ := SL.at_ (SL.get5 HS.out)
                have hz3000054_0_13 := ((blk_cell hb_ 0).trans rfl : _ = some (.int .i64 a1_0))
                have hz3000054_1_13 := ((blk_cell hb_ 1).trans rfl : _ = some (.int .i64 a1_1))
                clear hb_
                have hb_ := SL.at_ (SL.get6 HS.out)
                have hz3000053_0_13 := ((blk_cell hb_ 0).trans rfl : _ = some (.int .i64 a0_0))
                have hz3000053_1_13 := ((blk_cell hb_ 1).trans rfl : _ = some (.int .i64 a0_1))
                have hz3000053_2_13 := ((blk_cell hb_ 2).trans rfl : _ = some (.slice A0_2 l0_2.length c0_2))
                clear hb_
                try go_wp2_with (first | ((with_reducible refine gate_dst (N := 70) rfl ?_); refine goesL_ (some 70) rfl rfl Try.func9 (by kernel_rfl) rfl #[.agg #[.int .i64 a0_0, .int .i64 a0_1, .slice A0_2 l0_2.length c0_2], .agg #[.int .i64 a1_0, .int .i64 a1_1], .agg #[.int .i64 a2_0, .int .i64 a2_1]] rfl (by (try simp only [List.map_toArray, List.map_cons, List.map_nil]); first | done | rfl | (simp; done)) ?_; (with_reducible refine (sight_First.calls k _ _ _ _ _ _ _ _ _ _ _ _ _ (RO.at_ HR0_2.out HK.out) HC0_2.out Hc22.out).mono ?_); rintro e_ w120 ⟨rfl, hb_⟩; refine ⟨_, rfl, ?_⟩; replace HS := Aside0.mk (HS.out.below hb_); replace HK := Aside0.mk (HK.out.trans (Keep.below hb_)); (try clear hz3000053_0_13 hz3000053_1_13 hz3000053_2_13); (try clear hz3000054_0_13 hz3000054_1_13); (try clear hz3000055_0_13 hz3000055_1_13)) | ((with_reducible refine gate_dst (N := 13) rfl ?_); refine wpList_plain rfl (fun K_ hK_ => ?_); refine op_box (S := S) (cs := #[.int .i64 0, .int .i64 0]) (t := 26) (HF.out.keep HK.out) HS.out (by first | (go_simp; done) | (go_simp; rfl)) ?_; intro g3000060 w121 hs_ hk_; refine hK_ _ _ ?_; clear hK_ K_; replace HS := Aside0.mk (hs_); replace HK := Aside0.mk (HK.out.trans hk_)) | ((with_reducible refine gate_store (t := 26) (p := 13) (v := (.tmp 71)) rfl ?_); refine wpList_plain rfl (fun K_ hK_ => ?_); refine op_store (S := S) 26 (.tmp 13) (.tmp 71) rfl g3000060 0 (.agg #[.int .i64 t495, .int .i64 t496]) [.int .i64 t495, .int .i64 t496] rfl rfl rfl (by kernel_rfl) (by simp [Value.oneCell']) HS.out (by simp) ?_; intro w122 hs_ hk_; refine hK_ _ _ ?_; clear hK_ K_; replace HS := Aside0.mk ((show SL (cells g3000060 26 [.int .i64 t495, .int .i64 t496].toArray :: _) _ _ from hs_)); replace HK := Aside0.mk (HK.out.trans hk_)))
                refine start_ (n := 62) (S := fun w' => w'.cell? ⟨g3000057, 0, none⟩ = some (.int .i64 a0_0) ∧ w'.cell? ⟨g3000057, 1, none⟩ = some (.int .i64 a0_1) ∧ w'.cell? ⟨g3000057, 2, none⟩ = some (.slice Az3000056 y487.length cz3000056) ∧ w'.cell? ⟨g3000054, 0, none⟩ = some (.int .i64 a1_0) ∧ w'.cell? ⟨g3000054, 1, none⟩ = some (.int .i64 a1_1) ∧ w'.cell? ⟨g3000055, 0, none⟩ = some (.int .i64 a2_0) ∧ w'.cell? ⟨g3000055, 1, none⟩ = some (.int .i64 a2_1) ∧ w'.cell? ⟨g3000059, 0, none⟩ = some (.int .i64 a0_0) ∧ w'.cell? ⟨g3000059, 1, none⟩ = some (.int .i64 a0_1) ∧ w'.cell? ⟨g3000059, 2, none⟩ = some (.slice (some adq493) y489.length c491) ∧ w'.cell? ⟨g3000053, 0, none⟩ = some (.int .i64 a0_0) ∧ w'.cell? ⟨g3000053, 1, none⟩ = some (.int .i64 a0_1) ∧ w'.cell? ⟨g3000053, 2, none⟩ = some (.slice A0_2 l0_2.length c0_2)) (ds := []) #[O,O,O,O,O,O,O,O,O,O,O,O,O,O,O,O,O,O,O,O,O,O,O,O,O,O,O,O,O,O,O,O,O,O,O,O,O,O,O,O,O,O,O,O,O,O,O,O,O,O,O,O,O,O,O,O,O,O,O,O,O,O] (by kernel_rfl) rfl rfl ⟨bc (SL.get3 HS.out) 0 rfl, bc (SL.get3 HS.out) 1 rfl, bc (SL.get3 HS.out) 2 rfl, bc (SL.get6 HS.out) 0 rfl, bc (SL.get6 HS.out) 1 rfl, bc (SL.get5 HS.out) 0 rfl, bc (SL.get5 HS.out) 1 rfl, bc (SL.get1 HS.out) 0 rfl, bc (SL.get1 HS.out) 1 rfl, bc (SL.get1 HS.out) 2 rfl, bc (SL.get7 HS.out) 0 rfl, bc (SL.get7 HS.out) 1 rfl, bc (SL.get7 HS.out) 2 rfl⟩ (fun hHeld => ?_); refine with_tabW barrowlaw07_SightWalls.tab9 barrowlaw07_SightWalls.bits9 (fun HT_ HW_ => ?_)
                replace HK := Aside0.mk (Keep.drew HK.out)
                replace HS := Aside0.mk (SL.drew HS.out)
                refine pure_ (i := 0) (N := some 73) (v := ?_) (a' := ?_) #[I,O,O,O,O,O,O,O,O,O,O,O,O,O,O,O,O,O,O,O,O,O,O,O,O,O,O,O,O,O,O,O,O,O,O,O,O,O,O,O,O,O,O,O,O,O,O,O,O,O,O,O,O,O,O,O,O,O,O,O,O,O] rfl rfl (any_of HT_.out (by kernel_rfl)) (fun _ _ _ h => h) (Or.inl ⟨by rfl, ?_⟩) ?_ ?_; rotate_left; · (intro w'; go_simp; with_reducible rfl)
                rotate_left; · (simp only [Act.put, sT, sZ, sS, i64_w, i32_w]; rfl)
                refine pure_ (i := 1) (N := some 74) (v := ?_) (a' := ?_) #[I,I,O,O,O,O,O,O,O,O,O,O,O,O,O,O,O,O,O,O,O,O,O,O,O,O,O,O,O,O,O,O,O,O,O,O,O,O,O,O,O,O,O,O,O,O,O,O,O,O,O,O,O,O,O,O,O,O,O,O,O,O] rfl rfl (any_of HT_.out (by kernel_rfl)) (fun _ _ _ h => h) (Or.inl ⟨by rfl, ?_⟩) ?_ ?_; rotate_left; · (intro w'; go_simp; with_reducible rfl)
                rotate_left; · (simp only [Act.put, sT, sZ, sS, i64_w, i32_w]; rfl)
                refine take_ (i := 2) (N := some 75) (v := ?_) (a' := ?_) #[I,I,I,O,O,O,O,O,O,O,O,O,O,O,O,O,O,O,O,O,O,O,O,O,O,O,O,O,O,O,O,O,O,O,O,O,O,O,O,O,O,O,O,O,O,O,O,O,O,O,O,O,O,O,O,O,O,O,O,O,O,O] rfl rfl (take_ofW HT_.out HW_.out (by kernel_rfl)) (fun _ _ _ h => h) (Or.inl ⟨by rfl, ?_⟩) hHeld ?_ ?_; rotate_left
                ·rintro w' ⟨s0, s1, s2, s3, s4, s5, s6, s7, s8, s9, s10, s11, s12⟩
                 go_simp
                 with_reducible rfl
                rotate_left; · (simp only [Act.put, sT, sZ, sS, i64_w, i32_w]; rfl)
                refine take_ (i := 3) (N := some 76) (v := ?_) (a' := ?_) #[I,I,I,I,O,O,O,O,O,O,O,O,O,O,O,O,O,O,O,O,O,O,O,O,O,O,O,O,O,O,O,O,O,O,O,O,O,O,O,O,O,O,O,O,O,O,O,O,O,O,O,O,O,O,O,O,O,O,O,O,O,O] rfl rfl (take_ofW HT_.out HW_.out (by kernel_rfl)) (fun _ _ _ h => h) (Or.inl ⟨by rfl, ?_⟩) hHeld ?_ ?_; rotate_left
                ·rintro w' ⟨s0, s1, s2, s3, s4, s5, s6, s7, s8, s9, s10, s11, s12⟩
                 go_simp
                 with_reducible rfl
                rotate_left; · (simp only [Act.put, sT, sZ, sS, i64_w, i32_w]; rfl)
                refine take_ (i := 4) (N := some 77) (v := ?_) (a' := ?_) #[I,I,I,I,I,O,O,O,O,O,O,O,O,O,O,O,O,O,O,O,O,O,O,O,O,O,O,O,O,O,O,O,O,O,O,O,O,O,O,O,O,O,O,O,O,O,O,O,O,O,O,O,O,O,O,O,O,O,O,O,O,O] rfl rfl (take_ofW HT_.out HW_.out (by kernel_rfl)) (fun _ _ _ h => h) (Or.inl ⟨by rfl, ?_⟩) hHeld ?_ ?_; rotate_left
                ·rintro w' ⟨s0, s1, s2, s3, s4, s5, s6, s7, s8, s9, s10, s11, s12⟩
                 go_simp
                 with_reducible rfl
                rotate_left; · (simp only [Act.put, sT, sZ, sS, i64_w, i32_w]; rfl)
                refine one_ (i := 5) (N := some 78) #[I,I,I,I,I,I,O,O,O,O,O,O,O,O,O,O,O,O,O,O,O,O,O,O,O,O,O,O,O,O,O,O,O,O,O,O,O,O,O,O,O,O,O,O,O,O,O,O,O,O,O,O,O,O,O,O,O,O,O,O,O,O] rfl rfl (one_of HT_.out (by kernel_rfl)) (by decide) (fun K hK => ?_)
                refine goes_ Try.func14 (by kernel_rfl) rfl #[.agg #[.int .i64 a0_0, .int .i64 a0_1, .slice Az3000056 y487.length cz3000056], .agg #[.int .i64 a1_0, .int .i64 a1_1], .agg #[.int .i64 a2_0, .int .i64 a2_1]] (by rfl) rfl rfl (by (try simp only [List.map_toArray, List.map_cons, List.map_nil]); first | done | rfl | (simp; done)) ?_
                (with_reducible refine (sight_Sees.calls k _ _ _ _ _ _ _ _ _ _ _ (SL.row_c (SL.get4 HS.out)).2.2 (SL.row_c (SL.get4 HS.out)).2.1 Hc24.out).mono ?_)
                rintro e_ w123 ⟨rfl, hb_⟩
                refine ⟨_, rfl, ?_⟩
                replace HS := Aside0.mk (HS.out.below hb_)
                replace HK := Aside0.mk (HK.out.trans (Keep.below hb_))
                refine hK.out _ _ ⟨bc (SL.get3 HS.out) 0 rfl, bc (SL.get3 HS.out) 1 rfl, bc (SL.get3 HS.out) 2 rfl, bc (SL.get6 HS.out) 0 rfl, bc (SL.get6 HS.out) 1 rfl, bc (SL.get5 HS.out) 0 rfl, bc (SL.get5 HS.out) 1 rfl, bc (SL.get1 HS.out) 0 rfl, bc (SL.get1 HS.out) 1 rfl, bc (SL.get1 HS.out) 2 rfl, bc (SL.get7 HS.out) 0 rfl, bc (SL.get7 HS.out) 1 rfl, bc (SL.get7 HS.out) 2 rfl⟩ (fun hHeld => ?_)
                clear hK K
                refine norm_ (a' := ?_) ?_ ?_; rotate_left
                ·show Act.put _ (some 78) _ = _
                 simp only [Act.put, sT, sZ, sS, i64_w, i32_w]
                 rfl
                refine pure_ (i := 6) (N := some 79) (v := ?_) (a' := ?_) #[I,I,I,I,I,I,I,O,O,O,O,O,O,O,O,O,O,O,O,O,O,O,O,O,O,O,O,O,O,O,O,O,O,O,O,O,O,O,O,O,O,O,O,O,O,O,O,O,O,O,O,O,O,O,O,O,O,O,O,O,O,O] rfl rfl (any_of HT_.out (by kernel_rfl)) (fun _ _ _ h => h) (Or.inl ⟨by rfl, ?_⟩) ?_ ?_; rotate_left; · (intro w'; go_simp; with_reducible rfl)
                rotate_left; · (simp only [Act.put, sT, sZ, sS, i64_w, i32_w]; rfl)
                refine pure_ (i := 7) (N := some 80) (v := ?_) (a' := ?_) #[I,I,I,I,I,I,I,I,O,O,O,O,O,O,O,O,O,O,O,O,O,O,O,O,O,O,O,O,O,O,O,O,O,O,O,O,O,O,O,O,O,O,O,O,O,O,O,O,O,O,O,O,O,O,O,O,O,O,O,O,O,O] rfl rfl (any_of HT_.out (by kernel_rfl)) (fun _ _ _ h => h) (Or.inl ⟨by rfl, ?_⟩) ?_ ?_; rotate_left; · (intro w'; go_simp; with_reducible rfl)
                rotate_left; · (simp only [Act.put, sT, sZ, sS, i64_w, i32_w]; rfl)
                refine take_ (i := 8) (N := some 81) (v := ?_) (a' := ?_) #[I,I,I,I,I,I,I,I,I,O,O,O,O,O,O,O,O,O,O,O,O,O,O,O,O,O,O,O,O,O,O,O,O,O,O,O,O,O,O,O,O,O,O,O,O,O,O,O,O,O,O,O,O,O,O,O,O,O,O,O,O,O] rfl rfl (take_ofW HT_.out HW_.out (by kernel_rfl)) (fun _ _ _ h => h) (Or.inl ⟨by rfl, ?_⟩) hHeld ?_ ?_; rotate_left
                ·rintro w' ⟨s0, s1, s2, s3, s4, s5, s6, s7, s8, s9, s10, s11, s12⟩
                 go_simp
                 with_reducible rfl
                rotate_left; · (simp only [Act.put, sT, sZ, sS, i64_w, i32_w]; rfl)
                refine take_ (i := 9) (N := some 82) (v := ?_) (a' := ?_) #[I,I,I,I,I,I,I,I,I,I,O,O,O,O,O,O,O,O,O,O,O,O,O,O,O,O,O,O,O,O,O,O,O,O,O,O,O,O,O,O,O,O,O,O,O,O,O,O,O,O,O,O,O,O,O,O,O,O,O,O,O,O] rfl rfl (take_ofW HT_.out HW_.out (by kernel_rfl)) (fun _ _ _ h => h) (Or.inl ⟨by rfl, ?_⟩) hHeld ?_ ?_; rotate_left
                ·rintro w' ⟨s0, s1, s2, s3, s4, s5, s6, s7, s8, s9, s10, s11, s12⟩
                 go_simp
                 with_reducible rfl
                rotate_left; · (simp only [Act.put, sT, sZ, sS, i64_w, i32_w]; rfl)
                refine take_ (i := 10) (N := some 83) (v := ?_) (a' := ?_) #[I,I,I,I,I,I,I,I,I,I,I,O,O,O,O,O,O,O,O,O,O,O,O,O,O,O,O,O,O,O,O,O,O,O,O,O,O,O,O,O,O,O,O,O,O,O,O,O,O,O,O,O,O,O,O,O,O,O,O,O,O,O] rfl rfl (take_ofW HT_.out HW_.out (by kernel_rfl)) (fun _ _ _ h => h) (Or.inl ⟨by rfl, ?_⟩) hHeld ?_ ?_; rotate_left
                ·rintro w' ⟨s0, s1, s2, s3, s4, s5, s6, s7, s8, s9, s10, s11, s12⟩
                 go_simp
                 with_reducible rfl
                rotate_left; · (simp only [Act.put, sT, sZ, sS, i64_w, i32_w]; rfl)
                refine one_ (i := 11) (N := some 84) #[I,I,I,I,I,I,I,I,I,I,I,I,O,O,O,O,O,O,O,O,O,O,O,O,O,O,O,O,O,O,O,O,O,O,O,O,O,O,O,O,O,O,O,O,O,O,O,O,O,O,O,O,O,O,O,O,O,O,O,O,O,O] rfl rfl (one_of HT_.out (by kernel_rfl)) (by decide) (fun K hK => ?_)
                refine goes_ Try.func14 (by kernel_rfl) rfl #[.agg #[.int .i64 a0_0, .int .i64 a0_1, .slice (some adq493) y489.length c491], .agg #[.int .i64 a1_0, .int .i64 a1_1], .agg #[.int .i64 a2_0, .int .i64 a2_1]] (by rfl) rfl rfl (by (try simp only [List.map_toArray, List.map_cons, List.map_nil]); first | done | rfl | (simp; done)) ?_
                have el3000058_ := Aside0.mk (SL.row_c (SL.get2 HS.out)).1
                refine calls_of_args (args' := #[.agg #[.int .i64 a0_0, .int .i64 a0_1, .slice (some adq493) y494.length c491], .agg #[.int .i64 a1_0, .int .i64 a1_1], .agg #[.int .i64 a2_0, .int .i64 a2_1]]) (by rw [← el3000058_.out]) ?_
                (with_reducible refine (sight_Sees.calls k _ _ _ _ _ _ _ _ _ _ _ (by have e_ := (SL.row_c (SL.get2 HS.out)).1; have h_ := (SL.row_c (SL.get2 HS.out)).2.2; rw [e_] at h_; exact h_) (by have e_ := (SL.row_c (SL.get2 HS.out)).1; have h_ := (SL.row_c (SL.get2 HS.out)).2.1; (try dsimp only at e_ h_); (try dsimp only); omega) Hc26.out).mono ?_)
                rintro e_ w124 ⟨rfl, hb_⟩
                refine ⟨_, rfl, ?_⟩
                replace HS := Aside0.mk (HS.out.below hb_)
                replace HK := Aside0.mk (HK.out.trans (Keep.below hb_))
                refine hK.out _ _ ⟨bc (SL.get3 HS.out) 0 rfl, bc (SL.get3 HS.out) 1 rfl, bc (SL.get3 HS.out) 2 rfl, bc (SL.get6 HS.out) 0 rfl, bc (SL.get6 HS.out) 1 rfl, bc (SL.get5 HS.out) 0 rfl, bc (SL.get5 HS.out) 1 rfl, bc (SL.get1 HS.out) 0 rfl, bc (SL.get1 HS.out) 1 rfl, bc (SL.get1 HS.out) 2 rfl, bc (SL.get7 HS.out) 0 rfl, bc (SL.get7 HS.out) 1 rfl, bc (SL.get7 HS.out) 2 rfl⟩ (fun hHeld => ?_)
                clear hK K
                refine norm_ (a' := ?_) ?_ ?_; rotate_left
                ·show Act.put _ (some 84) _ = _
                 simp only [Act.put, sT, sZ, sS, i64_w, i32_w]
                 rfl
                refine pure_ (i := 12) (N := some 85) (v := ?_) (a' := ?_) #[I,I,I,I,I,I,I,I,I,I,I,I,I,O,O,O,O,O,O,O,O,O,O,O,O,O,O,O,O,O,O,O,O,O,O,O,O,O,O,O,O,O,O,O,O,O,O,O,O,O,O,O,O,O,O,O,O,O,O,O,O,O] rfl rfl (any_of HT_.out (by kernel_rfl)) (fun _ _ _ h => h) (Or.inl ⟨by rfl, ?_⟩) ?_ ?_; rotate_left; · (intro w'; go_simp; with_reducible rfl)
                rotate_left; · (simp only [Act.put, sT, sZ, sS, i64_w, i32_w]; rfl)
                refine pure_ (i := 13) (N := some 86) (v := ?_) (a' := ?_) #[I,I,I,I,I,I,I,I,I,I,I,I,I,I,O,O,O,O,O,O,O,O,O,O,O,O,O,O,O,O,O,O,O,O,O,O,O,O,O,O,O,O,O,O,O,O,O,O,O,O,O,O,O,O,O,O,O,O,O,O,O,O] rfl rfl (any_of HT_.out (by kernel_rfl)) (fun _ _ _ h => h) (Or.inl ⟨by rfl, ?_⟩) ?_ ?_; rotate_left; · (intro w'; go_simp; with_reducible rfl)
                rotate_left; · (simp only [Act.put, sT, sZ, sS, i64_w, i32_w]; rfl)
                refine pure_ (i := 14) (N := some 87) (v := undef) (a' := ?_) #[I,I,I,I,I,I,I,I,I,I,I,I,I,I,I,O,O,O,O,O,O,O,O,O,O,O,O,O,O,O,O,O,O,O,O,O,O,O,O,O,O,O,O,O,O,O,O,O,O,O,O,O,O,O,O,O,O,O,O,O,O,O] rfl rfl (any_of HT_.out (by kernel_rfl)) (fun _ _ _ h => h) (Or.inr ⟨by rfl, rfl⟩) ?_ ?_; rotate_left; · (simp only [Act.put, sT, sZ, sS, i64_w, i32_w]; rfl)
                refine pure_ (i := 15) (N := some 88) (v := undef) (a' := ?_) #[I,I,I,I,I,I,I,I,I,I,I,I,I,I,I,I,O,O,O,O,O,O,O,O,O,O,O,O,O,O,O,O,O,O,O,O,O,O,O,O,O,O,O,O,O,O,O,O,O,O,O,O,O,O,O,O,O,O,O,O,O,O] rfl rfl (any_of HT_.out (by kernel_rfl)) (fun _ _ _ h => h) (Or.inr ⟨by rfl, rfl⟩) ?_ ?_; rotate_left; · (simp only [Act.put, sT, sZ, sS, i64_w, i32_w]; rfl)
                refine pure_ (i := 16) (N := some 89) (v := undef) (a' := ?_) #[I,I,I,I,I,I,I,I,I,I,I,I,I,I,I,I,I,O,O,O,O,O,O,O,O,O,O,O,O,O,O,O,O,O,O,O,O,O,O,O,O,O,O,O,O,O,O,O,O,O,O,O,O,O,O,O,O,O,O,O,O,O] rfl rfl (any_of HT_.out (by kernel_rfl)) (fun _ _ _ h => h) (Or.inr ⟨by rfl, rfl⟩) ?_ ?_; rotate_left; · (simp only [Act.put, sT, sZ, sS, i64_w, i32_w]; rfl)
                refine pure_ (i := 17) (N := some 90) (v := undef) (a' := ?_) #[I,I,I,I,I,I,I,I,I,I,I,I,I,I,I,I,I,I,O,O,O,O,O,O,O,O,O,O,O,O,O,O,O,O,O,O,O,O,O,O,O,O,O,O,O,O,O,O,O,O,O,O,O,O,O,O,O,O,O,O,O,O] rfl rfl (any_of HT_.out (by kernel_rfl)) (fun _ _ _ h => h) (Or.inr ⟨by rfl, rfl⟩) ?_ ?_; rotate_left; · (simp only [Act.put, sT, sZ, sS, i64_w, i32_w]; rfl)
                refine pure_ (i := 18) (N := some 91) (v := ?_) (a' := ?_) #[I,I,I,I,I,I,I,I,I,I,I,I,I,I,I,I,I,I,I,O,O,O,O,O,O,O,O,O,O,O,O,O,O,O,O,O,O,O,O,O,O,O,O,O,O,O,O,O,O,O,O,O,O,O,O,O,O,O,O,O,O,O] rfl rfl (any_of HT_.out (by kernel_rfl)) (fun _ _ _ h => h) (Or.inl ⟨by rfl, ?_⟩) ?_ ?_; rotate_left; · (intro w'; go_simp; with_reducible rfl)
                rotate_left; · (simp only [Act.put, sT, sZ, sS, i64_w, i32_w]; rfl)
                refine pure_ (i := 19) (N := some 92) (v := ?_) (a' := ?_) #[I,I,I,I,I,I,I,I,I,I,I,I,I,I,I,I,I,I,I,I,O,O,O,O,O,O,O,O,O,O,O,O,O,O,O,O,O,O,O,O,O,O,O,O,O,O,O,O,O,O,O,O,O,O,O,O,O,O,O,O,O,O] rfl rfl (any_of HT_.out (by kernel_rfl)) (fun _ _ _ h => h) (Or.inl ⟨by rfl, ?_⟩) ?_ ?_; rotate_left; · (intro w'; go_simp; with_reducible rfl)
                rotate_left; · (simp only [Act.put, sT, sZ, sS, i64_w, i32_w]; rfl)
                refine pure_ (i := 20) (N := some 93) (v := ?_) (a' := ?_) #[I,I,I,I,I,I,I,I,I,I,I,I,I,I,I,I,I,I,I,I,I,O,O,O,O,O,O,O,O,O,O,O,O,O,O,O,O,O,O,O,O,O,O,O,O,O,O,O,O,O,O,O,O,O,O,O,O,O,O,O,O,O] rfl rfl (any_of HT_.out (by kernel_rfl)) (fun _ _ _ h => h) (Or.inl ⟨by rfl, ?_⟩) ?_ ?_; rotate_left; · (intro w'; go_simp; with_reducible rfl)
                rotate_left; · (simp only [Act.put, sT, sZ, sS, i64_w, i32_w]; rfl)
                refine pure_ (i := 21) (N := some 94) (v := ?_) (a' := ?_) #[I,I,I,I,I,I,I,I,I,I,I,I,I,I,I,I,I,I,I,I,I,I,O,O,O,O,O,O,O,O,O,O,O,O,O,O,O,O,O,O,O,O,O,O,O,O,O,O,O,O,O,O,O,O,O,O,O,O,O,O,O,O] rfl rfl (any_of HT_.out (by kernel_rfl)) (fun _ _ _ h => h) (Or.inl ⟨by rfl, ?_⟩) ?_ ?_; rotate_left; · (intro w'; go_simp; with_reducible rfl)
                rotate_left; · (simp only [Act.put, sT, sZ, sS, i64_w, i32_w]; rfl)
                refine take_ (i := 22) (N := some 95) (v := ?_) (a' := ?_) #[I,I,I,I,I,I,I,I,I,I,I,I,I,I,I,I,I,I,I,I,I,I,I,O,O,O,O,O,O,O,O,O,O,O,O,O,O,O,O,O,O,O,O,O,O,O,O,O,O,O,O,O,O,O,O,O,O,O,O,O,O,O] rfl rfl (take_ofW HT_.out HW_.out (by kernel_rfl)) (fun _ _ _ h => h) (Or.inl ⟨by rfl, ?_⟩) hHeld ?_ ?_; rotate_left
                ·rintro w' ⟨s0, s1, s2, s3, s4, s5, s6, s7, s8, s9, s10, s11, s12⟩
                 go_simp
                 with_reducible rfl
                rotate_left; · (simp only [Act.put, sT, sZ, sS, i64_w, i32_w]; rfl)
                refine take_ (i := 23) (N := some 96) (v := ?_) (a' := ?_) #[I,I,I,I,I,I,I,I,I,I,I,I,I,I,I,I,I,I,I,I,I,I,I,I,O,O,O,O,O,O,O,O,O,O,O,O,O,O,O,O,O,O,O,O,O,O,O,O,O,O,O,O,O,O,O,O,O,O,O,O,O,O] rfl rfl (take_ofW HT_.out HW_.out (by kernel_rfl)) (fun _ _ _ h => h) (Or.inl ⟨by rfl, ?_⟩) hHeld ?_ ?_; rotate_left
                ·rintro w' ⟨s0, s1, s2, s3, s4, s5, s6, s7, s8, s9, s10, s11, s12⟩
                 go_simp
                 with_reducible rfl
                rotate_left; · (simp only [Act.put, sT, sZ, sS, i64_w, i32_w]; rfl)
                refine take_ (i := 24) (N := some 97) (v := ?_) (a' := ?_) #[I,I,I,I,I,I,I,I,I,I,I,I,I,I,I,I,I,I,I,I,I,I,I,I,I,O,O,O,O,O,O,O,O,O,O,O,O,O,O,O,O,O,O,O,O,O,O,O,O,O,O,O,O,O,O,O,O,O,O,O,O,O] rfl rfl (take_ofW HT_.out HW_.out (by kernel_rfl)) (fun _ _ _ h => h) (Or.inl ⟨by rfl, ?_⟩) hHeld ?_ ?_; rotate_left
                ·rintro w' ⟨s0, s1, s2, s3, s4, s5, s6, s7, s8, s9, s10, s11, s12⟩
                 go_simp
                 with_reducible rfl
                rotate_left; · (simp only [Act.put, sT, sZ, sS, i64_w, i32_w]; rfl)
                refine one_ (i := 25) (N := some 98) #[I,I,I,I,I,I,I,I,I,I,I,I,I,I,I,I,I,I,I,I,I,I,I,I,I,I,O,O,O,O,O,O,O,O,O,O,O,O,O,O,O,O,O,O,O,O,O,O,O,O,O,O,O,O,O,O,O,O,O,O,O,O] rfl rfl (one_of HT_.out (by kernel_rfl)) (by decide) (fun K hK => ?_)
                refine goes_ Try.func14 (by kernel_rfl) rfl #[.agg #[.int .i64 a0_0, .int .i64 a0_1, .slice A0_2 l0_2.length c0_2], .agg #[.int .i64 a1_0, .int .i64 a1_1], .agg #[.int .i64 a2_0, .int .i64 a2_1]] (by rfl) rfl rfl (by (try simp only [List.map_toArray, List.map_cons, List.map_nil]); first | done | rfl | (simp; done)) ?_
                (with_reducible refine (sight_Sees.calls k _ _ _ _ _ _ _ _ _ _ _ (RO.at_ HR0_2.out HK.out) HC0_2.out Hc64.out).mono ?_)
                rintro e_ w125 ⟨rfl, hb_⟩
                refine ⟨_, rfl, ?_⟩
                replace HS := Aside0.mk (HS.out.below hb_)
                replace HK := Aside0.mk (HK.out.trans (Keep.below hb_))
                refine hK.out _ _ ⟨bc (SL.get3 HS.out) 0 rfl, bc (SL.get3 HS.out) 1 rfl, bc (SL.get3 HS.out) 2 rfl, bc (SL.get6 HS.out) 0 rfl, bc (SL.get6 HS.out) 1 rfl, bc (SL.get5 HS.out) 0 rfl, bc (SL.get5 HS.out) 1 rfl, bc (SL.get1 HS.out) 0 rfl, bc (SL.get1 HS.out) 1 rfl, bc (SL.get1 HS.out) 2 rfl, bc (SL.get7 HS.out) 0 rfl, bc (SL.get7 HS.out) 1 rfl, bc (SL.get7 HS.out) 2 rfl⟩ (fun hHeld => ?_)
                clear hK K
                refine norm_ (a' := ?_) ?_ ?_; rotate_left
                ·show Act.put _ (some 98) _ = _
                 simp only [Act.put, sT, sZ, sS, i64_w, i32_w]
                 rfl
                refine pure_ (i := 26) (N := some 99) (v := ?_) (a' := ?_) #[I,I,I,I,I,I,I,I,I,I,I,I,I,I,I,I,I,I,I,I,I,I,I,I,I,I,I,O,O,O,O,O,O,O,O,O,O,O,O,O,O,O,O,O,O,O,O,O,O,O,O,O,O,O,O,O,O,O,O,O,O,O] rfl rfl (any_of HT_.out (by kernel_rfl)) (fun _ _ _ h => h) (Or.inl ⟨by rfl, ?_⟩) ?_ ?_; rotate_left; · (intro w'; go_simp; with_reducible rfl)
                rotate_left; · (simp only [Act.put, sT, sZ, sS, i64_w, i32_w]; rfl)
                refine pure_ (i := 27) (N := some 100) (v := ?_) (a' := ?_) #[I,I,I,I,I,I,I,I,I,I,I,I,I,I,I,I,I,I,I,I,I,I,I,I,I,I,I,I,O,O,O,O,O,O,O,O,O,O,O,O,O,O,O,O,O,O,O,O,O,O,O,O,O,O,O,O,O,O,O,O,O,O] rfl rfl (any_of HT_.out (by kernel_rfl)) (fun _ _ _ h => h) (Or.inl ⟨by rfl, ?_⟩) ?_ ?_; rotate_left; · (intro w'; go_simp; with_reducible rfl)
                rotate_left; · (simp only [Act.put, sT, sZ, sS, i64_w, i32_w]; rfl)
                refine pure_ (i := 28) (N := some 101) (v := ?_) (a' := ?_) #[I,I,I,I,I,I,I,I,I,I,I,I,I,I,I,I,I,I,I,I,I,I,I,I,I,I,I,I,I,O,O,O,O,O,O,O,O,O,O,O,O,O,O,O,O,O,O,O,O,O,O,O,O,O,O,O,O,O,O,O,O,O] rfl rfl (any_of HT_.out (by kernel_rfl)) (fun _ _ _ h => h) (Or.inl ⟨by rfl, ?_⟩) ?_ ?_; rotate_left; · (intro w'; go_simp; with_reducible rfl)
                rotate_left; · (simp only [Act.put, sT, sZ, sS, i64_w, i32_w]; rfl)
                refine pure_ (i := 29) (N := some 102) (v := ?_) (a' := ?_) #[I,I,I,I,I,I,I,I,I,I,I,I,I,I,I,I,I,I,I,I,I,I,I,I,I,I,I,I,I,I,O,O,O,O,O,O,O,O,O,O,O,O,O,O,O,O,O,O,O,O,O,O,O,O,O,O,O,O,O,O,O,O] rfl rfl (any_of HT_.out (by kernel_rfl)) (fun _ _ _ h => h) (Or.inl ⟨by rfl, ?_⟩) ?_ ?_; rotate_left; · (intro w'; go_simp; with_reducible rfl)
                rotate_left; · (simp only [Act.put, sT, sZ, sS, i64_w, i32_w]; rfl)
                refine pure_ (i := 30) (N := some 103) (v := ?_) (a' := ?_) #[I,I,I,I,I,I,I,I,I,I,I,I,I,I,I,I,I,I,I,I,I,I,I,I,I,I,I,I,I,I,I,O,O,O,O,O,O,O,O,O,O,O,O,O,O,O,O,O,O,O,O,O,O,O,O,O,O,O,O,O,O,O] rfl rfl (any_of HT_.out (by kernel_rfl)) (fun _ _ _ h => h) (Or.inl ⟨by rfl, ?_⟩) ?_ ?_; rotate_left; · (intro w'; go_simp; with_reducible rfl)
                rotate_left; · (simp only [Act.put, sT, sZ, sS, i64_w, i32_w]; rfl)
                refine pure_ (i := 31) (N := some 104) (v := ?_) (a' := ?_) #[I,I,I,I,I,I,I,I,I,I,I,I,I,I,I,I,I,I,I,I,I,I,I,I,I,I,I,I,I,I,I,I,O,O,O,O,O,O,O,O,O,O,O,O,O,O,O,O,O,O,O,O,O,O,O,O,O,O,O,O,O,O] rfl rfl (any_of HT_.out (by kernel_rfl)) (fun _ _ _ h => h) (Or.inl ⟨by rfl, ?_⟩) ?_ ?_; rotate_left; · (intro w'; go_simp; with_reducible rfl)
                rotate_left; · (simp only [Act.put, sT, sZ, sS, i64_w, i32_w]; rfl)
                refine pure_ (i := 32) (N := some 105) (v := undef) (a' := ?_) #[I,I,I,I,I,I,I,I,I,I,I,I,I,I,I,I,I,I,I,I,I,I,I,I,I,I,I,I,I,I,I,I,I,O,O,O,O,O,O,O,O,O,O,O,O,O,O,O,O,O,O,O,O,O,O,O,O,O,O,O,O,O] rfl rfl (any_of HT_.out (by kernel_rfl)) (fun _ _ _ h => h) (Or.inr ⟨by rfl, rfl⟩) ?_ ?_; rotate_left; · (simp only [Act.put, sT, sZ, sS, i64_w, i32_w]; rfl)
                refine pure_ (i := 33) (N := some 106) (v := undef) (a' := ?_) #[I,I,I,I,I,I,I,I,I,I,I,I,I,I,I,I,I,I,I,I,I,I,I,I,I,I,I,I,I,I,I,I,I,I,O,O,O,O,O,O,O,O,O,O,O,O,O,O,O,O,O,O,O,O,O,O,O,O,O,O,O,O] rfl rfl (any_of HT_.out (by kernel_rfl)) (fun _ _ _ h => h) (Or.inr ⟨by rfl, rfl⟩) ?_ ?_; rotate_left; · (simp only [Act.put, sT, sZ, sS, i64_w, i32_w]; rfl)
                refine pure_ (i := 34) (N := some 107) (v := undef) (a' := ?_) #[I,I,I,I,I,I,I,I,I,I,I,I,I,I,I,I,I,I,I,I,I,I,I,I,I,I,I,I,I,I,I,I,I,I,I,O,O,O,O,O,O,O,O,O,O,O,O,O,O,O,O,O,O,O,O,O,O,O,O,O,O,O] rfl rfl (any_of HT_.out (by kernel_rfl)) (fun _ _ _ h => h) (Or.inr ⟨by rfl, rfl⟩) ?_ ?_; rotate_left; · (simp only [Act.put, sT, sZ, sS, i64_w, i32_w]; rfl)
                refine pure_ (i := 35) (N := some 108) (v := undef) (a' := ?_) #[I,I,I,I,I,I,I,I,I,I,I,I,I,I,I,I,I,I,I,I,I,I,I,I,I,I,I,I,I,I,I,I,I,I,I,I,O,O,O,O,O,O,O,O,O,O,O,O,O,O,O,O,O,O,O,O,O,O,O,O,O,O] rfl rfl (any_of HT_.out (by kernel_rfl)) (fun _ _ _ h => h) (Or.inr ⟨by rfl, rfl⟩) ?_ ?_; rotate_left; · (simp only [Act.put, sT, sZ, sS, i64_w, i32_w]; rfl)
                refine pure_ (i := 36) (N := some 109) (v := undef) (a' := ?_) #[I,I,I,I,I,I,I,I,I,I,I,I,I,I,I,I,I,I,I,I,I,I,I,I,I,I,I,I,I,I,I,I,I,I,I,I,I,O,O,O,O,O,O,O,O,O,O,O,O,O,O,O,O,O,O,O,O,O,O,O,O,O] rfl rfl (any_of HT_.out (by kernel_rfl)) (fun _ _ _ h => h) (Or.inr ⟨by rfl, rfl⟩) ?_ ?_; rotate_left; · (simp only [Act.put, sT, sZ, sS, i64_w, i32_w]; rfl)
                refine pure_ (i := 37) (N := some 110) (v := undef) (a' := ?_) #[I,I,I,I,I,I,I,I,I,I,I,I,I,I,I,I,I,I,I,I,I,I,I,I,I,I,I,I,I,I,I,I,I,I,I,I,I,I,O,O,O,O,O,O,O,O,O,O,O,O,O,O,O,O,O,O,O,O,O,O,O,O] rfl rfl (any_of HT_.out (by kernel_rfl)) (fun _ _ _ h => h) (Or.inr ⟨by rfl, rfl⟩) ?_ ?_; rotate_left; · (simp only [Act.put, sT, sZ, sS, i64_w, i32_w]; rfl)
                refine pure_ (i := 38) (N := some 111) (v := undef) (a' := ?_) #[I,I,I,I,I,I,I,I,I,I,I,I,I,I,I,I,I,I,I,I,I,I,I,I,I,I,I,I,I,I,I,I,I,I,I,I,I,I,I,O,O,O,O,O,O,O,O,O,O,O,O,O,O,O,O,O,O,O,O,O,O,O] rfl rfl (any_of HT_.out (by kernel_rfl)) (fun _ _ _ h => h) (Or.inr ⟨by rfl, rfl⟩) ?_ ?_; rotate_left; · (simp only [Act.put, sT, sZ, sS, i64_w, i32_w]; rfl)
                refine pure_ (i := 39) (N := some 112) (v := undef) (a' := ?_) #[I,I,I,I,I,I,I,I,I,I,I,I,I,I,I,I,I,I,I,I,I,I,I,I,I,I,I,I,I,I,I,I,I,I,I,I,I,I,I,I,O,O,O,O,O,O,O,O,O,O,O,O,O,O,O,O,O,O,O,O,O,O] rfl rfl (any_of HT_.out (by kernel_rfl)) (fun _ _ _ h => h) (Or.inr ⟨by rfl, rfl⟩) ?_ ?_; rotate_left; · (simp only [Act.put, sT, sZ, sS, i64_w, i32_w]; rfl)
                refine pure_ (i := 40) (N := some 113) (v := undef) (a' := ?_) #[I,I,I,I,I,I,I,I,I,I,I,I,I,I,I,I,I,I,I,I,I,I,I,I,I,I,I,I,I,I,I,I,I,I,I,I,I,I,I,I,I,O,O,O,O,O,O,O,O,O,O,O,O,O,O,O,O,O,O,O,O,O] rfl rfl (any_of HT_.out (by kernel_rfl)) (fun _ _ _ h => h) (Or.inr ⟨by rfl, rfl⟩) ?_ ?_; rotate_left; · (simp only [Act.put, sT, sZ, sS, i64_w, i32_w]; rfl)
                refine pure_ (i := 41) (N := some 114) (v := undef) (a' := ?_) #[I,I,I,I,I,I,I,I,I,I,I,I,I,I,I,I,I,I,I,I,I,I,I,I,I,I,I,I,I,I,I,I,I,I,I,I,I,I,I,I,I,I,O,O,O,O,O,O,O,O,O,O,O,O,O,O,O,O,O,O,O,O] rfl rfl (any_of HT_.out (by kernel_rfl)) (fun _ _ _ h => h) (Or.inr ⟨by rfl, rfl⟩) ?_ ?_; rotate_left; · (simp only [Act.put, sT, sZ, sS, i64_w, i32_w]; rfl)
                refine pure_ (i := 42) (N := some 115) (v := undef) (a' := ?_) #[I,I,I,I,I,I,I,I,I,I,I,I,I,I,I,I,I,I,I,I,I,I,I,I,I,I,I,I,I,I,I,I,I,I,I,I,I,I,I,I,I,I,I,O,O,O,O,O,O,O,O,O,O,O,O,O,O,O,O,O,O,O] rfl rfl (any_of HT_.out (by kernel_rfl)) (fun _ _ _ h => h) (Or.inr ⟨by rfl, rfl⟩) ?_ ?_; rotate_left; · (simp only [Act.put, sT, sZ, sS, i64_w, i32_w]; rfl)
                refine pure_ (i := 43) (N := some 116) (v := undef) (a' := ?_) #[I,I,I,I,I,I,I,I,I,I,I,I,I,I,I,I,I,I,I,I,I,I,I,I,I,I,I,I,I,I,I,I,I,I,I,I,I,I,I,I,I,I,I,I,O,O,O,O,O,O,O,O,O,O,O,O,O,O,O,O,O,O] rfl rfl (any_of HT_.out (by kernel_rfl)) (fun _ _ _ h => h) (Or.inr ⟨by rfl, rfl⟩) ?_ ?_; rotate_left; · (simp only [Act.put, sT, sZ, sS, i64_w, i32_w]; rfl)
                refine pure_ (i := 44) (N := some 117) (v := undef) (a' := ?_) #[I,I,I,I,I,I,I,I,I,I,I,I,I,I,I,I,I,I,I,I,I,I,I,I,I,I,I,I,I,I,I,I,I,I,I,I,I,I,I,I,I,I,I,I,I,O,O,O,O,O,O,O,O,O,O,O,O,O,O,O,O,O] rfl rfl (any_of HT_.out (by kernel_rfl)) (fun _ _ _ h => h) (Or.inr ⟨by rfl, rfl⟩) ?_ ?_; rotate_left; · (simp only [Act.put, sT, sZ, sS, i64_w, i32_w]; rfl)
                refine pure_ (i := 45) (N := some 118) (v := undef) (a' := ?_) #[I,I,I,I,I,I,I,I,I,I,I,I,I,I,I,I,I,I,I,I,I,I,I,I,I,I,I,I,I,I,I,I,I,I,I,I,I,I,I,I,I,I,I,I,I,I,O,O,O,O,O,O,O,O,O,O,O,O,O,O,O,O] rfl rfl (any_of HT_.out (by kernel_rfl)) (fun _ _ _ h => h) (Or.inr ⟨by rfl, rfl⟩) ?_ ?_; rotate_left; · (simp only [Act.put, sT, sZ, sS, i64_w, i32_w]; rfl)
                refine pure_ (i := 46) (N := some 119) (v := undef) (a' := ?_) #[I,I,I,I,I,I,I,I,I,I,I,I,I,I,I,I,I,I,I,I,I,I,I,I,I,I,I,I,I,I,I,I,I,I,I,I,I,I,I,I,I,I,I,I,I,I,I,O,O,O,O,O,O,O,O,O,O,O,O,O,O,O] rfl rfl (any_of HT_.out (by kernel_rfl)) (fun _ _ _ h => h) (Or.inr ⟨by rfl, rfl⟩) ?_ ?_; rotate_left; · (simp only [Act.put, sT, sZ, sS, i64_w, i32_w]; rfl)
                refine pure_ (i := 47) (N := some 120) (v := undef) (a' := ?_) #[I,I,I,I,I,I,I,I,I,I,I,I,I,I,I,I,I,I,I,I,I,I,I,I,I,I,I,I,I,I,I,I,I,I,I,I,I,I,I,I,I,I,I,I,I,I,I,I,O,O,O,O,O,O,O,O,O,O,O,O,O,O] rfl rfl (any_of HT_.out (by kernel_rfl)) (fun _ _ _ h => h) (Or.inr ⟨by rfl, rfl⟩) ?_ ?_; rotate_left; · (simp only [Act.put, sT, sZ, sS, i64_w, i32_w]; rfl)
                refine pure_ (i := 48) (N := some 121) (v := undef) (a' := ?_) #[I,I,I,I,I,I,I,I,I,I,I,I,I,I,I,I,I,I,I,I,I,I,I,I,I,I,I,I,I,I,I,I,I,I,I,I,I,I,I,I,I,I,I,I,I,I,I,I,I,O,O,O,O,O,O,O,O,O,O,O,O,O] rfl rfl (any_of HT_.out (by kernel_rfl)) (fun _ _ _ h => h) (Or.inr ⟨by rfl, rfl⟩) ?_ ?_; rotate_left; · (simp only [Act.put, sT, sZ, sS, i64_w, i32_w]; rfl)
                refine pure_ (i := 49) (N := some 122) (v := undef) (a' := ?_) #[I,I,I,I,I,I,I,I,I,I,I,I,I,I,I,I,I,I,I,I,I,I,I,I,I,I,I,I,I,I,I,I,I,I,I,I,I,I,I,I,I,I,I,I,I,I,I,I,I,I,O,O,O,O,O,O,O,O,O,O,O,O] rfl rfl (any_of HT_.out (by kernel_rfl)) (fun _ _ _ h => h) (Or.inr ⟨by rfl, rfl⟩) ?_ ?_; rotate_left; · (simp only [Act.put, sT, sZ, sS, i64_w, i32_w]; rfl)
                refine pure_ (i := 50) (N := some 123) (v := undef) (a' := ?_) #[I,I,I,I,I,I,I,I,I,I,I,I,I,I,I,I,I,I,I,I,I,I,I,I,I,I,I,I,I,I,I,I,I,I,I,I,I,I,I,I,I,I,I,I,I,I,I,I,I,I,I,O,O,O,O,O,O,O,O,O,O,O] rfl rfl (any_of HT_.out (by kernel_rfl)) (fun _ _ _ h => h) (Or.inr ⟨by rfl, rfl⟩) ?_ ?_; rotate_left; · (simp only [Act.put, sT, sZ, sS, i64_w, i32_w]; rfl)
                refine pure_ (i := 51) (N := some 124) (v := undef) (a' := ?_) #[I,I,I,I,I,I,I,I,I,I,I,I,I,I,I,I,I,I,I,I,I,I,I,I,I,I,I,I,I,I,I,I,I,I,I,I,I,I,I,I,I,I,I,I,I,I,I,I,I,I,I,I,O,O,O,O,O,O,O,O,O,O] rfl rfl (any_of HT_.out (by kernel_rfl)) (fun _ _ _ h => h) (Or.inr ⟨by rfl, rfl⟩) ?_ ?_; rotate_left; · (simp only [Act.put, sT, sZ, sS, i64_w, i32_w]; rfl)
                refine pure_ (i := 52) (N := some 125) (v := undef) (a' := ?_) #[I,I,I,I,I,I,I,I,I,I,I,I,I,I,I,I,I,I,I,I,I,I,I,I,I,I,I,I,I,I,I,I,I,I,I,I,I,I,I,I,I,I,I,I,I,I,I,I,I,I,I,I,I,O,O,O,O,O,O,O,O,O] rfl rfl (any_of HT_.out (by kernel_rfl)) (fun _ _ _ h => h) (Or.inr ⟨by rfl, rfl⟩) ?_ ?_; rotate_left; · (simp only [Act.put, sT, sZ, sS, i64_w, i32_w]; rfl)
                refine pure_ (i := 53) (N := some 126) (v := ?_) (a' := ?_) #[I,I,I,I,I,I,I,I,I,I,I,I,I,I,I,I,I,I,I,I,I,I,I,I,I,I,I,I,I,I,I,I,I,I,I,I,I,I,I,I,I,I,I,I,I,I,I,I,I,I,I,I,I,I,O,O,O,O,O,O,O,O] rfl rfl (any_of HT_.out (by kernel_rfl)) (fun _ _ _ h => h) (Or.inl ⟨by rfl, ?_⟩) ?_ ?_; rotate_left; · (intro w'; go_simp; with_reducible rfl)
                rotate_left; · (simp only [Act.put, sT, sZ, sS, i64_w, i32_w]; rfl)
                refine pure_ (i := 54) (N := some 127) (v := ?_) (a' := ?_) #[I,I,I,I,I,I,I,I,I,I,I,I,I,I,I,I,I,I,I,I,I,I,I,I,I,I,I,I,I,I,I,I,I,I,I,I,I,I,I,I,I,I,I,I,I,I,I,I,I,I,I,I,I,I,I,O,O,O,O,O,O,O] rfl rfl (any_of HT_.out (by kernel_rfl)) (fun _ _ _ h => h) (Or.inl ⟨by rfl, ?_⟩) ?_ ?_; rotate_left; · (intro w'; go_simp; with_reducible rfl)
                rotate_left; · (simp only [Act.put, sT, sZ, sS, i64_w, i32_w]; rfl)
                refine pure_ (i := 55) (N := some 128) (v := ?_) (a' := ?_) #[I,I,I,I,I,I,I,I,I,I,I,I,I,I,I,I,I,I,I,I,I,I,I,I,I,I,I,I,I,I,I,I,I,I,I,I,I,I,I,I,I,I,I,I,I,I,I,I,I,I,I,I,I,I,I,I,O,O,O,O,O,O] rfl rfl (any_of HT_.out (by kernel_rfl)) (fun _ _ _ h => h) (Or.inl ⟨by rfl, ?_⟩) ?_ ?_; rotate_left; · (intro w'; go_simp; with_reducible rfl)
                rotate_left; · (simp only [Act.put, sT, sZ, sS, i64_w, i32_w]; rfl)
                refine take_ (i := 56) (N := some 129) (v := ?_) (a' := ?_) #[I,I,I,I,I,I,I,I,I,I,I,I,I,I,I,I,I,I,I,I,I,I,I,I,I,I,I,I,I,I,I,I,I,I,I,I,I,I,I,I,I,I,I,I,I,I,I,I,I,I,I,I,I,I,I,I,I,O,O,O,O,O] rfl rfl (take_ofW HT_.out HW_.out (by kernel_rfl)) (fun _ _ _ h => h) (Or.inl ⟨by rfl, ?_⟩) hHeld ?_ ?_; rotate_left
                ·rintro w' ⟨s0, s1, s2, s3, s4, s5, s6, s7, s8, s9, s10, s11, s12⟩
                 go_simp
                 with_reducible rfl
                rotate_left; · (simp only [Act.put, sT, sZ, sS, i64_w, i32_w]; rfl)
                refine take_ (i := 57) (N := some 130) (v := ?_) (a' := ?_) #[I,I,I,I,I,I,I,I,I,I,I,I,I,I,I,I,I,I,I,I,I,I,I,I,I,I,I,I,I,I,I,I,I,I,I,I,I,I,I,I,I,I,I,I,I,I,I,I,I,I,I,I,I,I,I,I,I,I,O,O,O,O] rfl rfl (take_ofW HT_.out HW_.out (by kernel_rfl)) (fun _ _ _ h => h) (Or.inl ⟨by rfl, ?_⟩) hHeld ?_ ?_; rotate_left
                ·rintro w' ⟨s0, s1, s2, s3, s4, s5, s6, s7, s8, s9, s10, s11, s12⟩
                 go_simp
                 with_reducible rfl
                rotate_left; · (simp only [Act.put, sT, sZ, sS, i64_w, i32_w]; rfl)
                refine take_ (i := 58) (N := some 131) (v := ?_) (a' := ?_) #[I,I,I,I,I,I,I,I,I,I,I,I,I,I,I,I,I,I,I,I,I,I,I,I,I,I,I,I,I,I,I,I,I,I,I,I,I,I,I,I,I,I,I,I,I,I,I,I,I,I,I,I,I,I,I,I,I,I,I,O,O,O] rfl rfl (take_ofW HT_.out HW_.out (by kernel_rfl)) (fun _ _ _ h => h) (Or.inl ⟨by rfl, ?_⟩) hHeld ?_ ?_; rotate_left
                ·rintro w' ⟨s0, s1, s2, s3, s4, s5, s6, s7, s8, s9, s10, s11, s12⟩
                 go_simp
                 with_reducible rfl
                rotate_left; · (simp only [Act.put, sT, sZ, sS, i64_w, i32_w]; rfl)
                refine one_ (i := 59) (N := some 132) #[I,I,I,I,I,I,I,I,I,I,I,I,I,I,I,I,I,I,I,I,I,I,I,I,I,I,I,I,I,I,I,I,I,I,I,I,I,I,I,I,I,I,I,I,I,I,I,I,I,I,I,I,I,I,I,I,I,I,I,I,O,O] rfl rfl (one_of HT_.out (by kernel_rfl)) (by decide) (fun K hK => ?_)
                refine goes_ Try.func14 (by kernel_rfl) rfl #[.agg #[.int .i64 a0_0, .int .i64 a0_1, .slice A0_2 l0_2.length c0_2], .agg #[.int .i64 a1_0, .int .i64 a1_1], .agg #[.int .i64 a1_0, .int .i64 a1_1]] (by rfl) rfl rfl (by (try simp only [List.map_toArray, List.map_cons, List.map_nil]); first | done | rfl | (simp; done)) ?_
                (with_reducible refine (sight_Sees.calls k _ _ _ _ _ _ _ _ _ _ _ (RO.at_ HR0_2.out HK.out) HC0_2.out Hc109.out).mono ?_)
                rintro e_ w126 ⟨rfl, hb_⟩
                refine ⟨_, rfl, ?_⟩
                replace HS := Aside0.mk (HS.out.below hb_)
                replace HK := Aside0.mk (HK.out.trans (Keep.below hb_))
                refine hK.out _ _ ⟨bc (SL.get3 HS.out) 0 rfl, bc (SL.get3 HS.out) 1 rfl, bc (SL.get3 HS.out) 2 rfl, bc (SL.get6 HS.out) 0 rfl, bc (SL.get6 HS.out) 1 rfl, bc (SL.get5 HS.out) 0 rfl, bc (SL.get5 HS.out) 1 rfl, bc (SL.get1 HS.out) 0 rfl, bc (SL.get1 HS.out) 1 rfl, bc (SL.get1 HS.out) 2 rfl, bc (SL.get7 HS.out) 0 rfl, bc (SL.get7 HS.out) 1 rfl, bc (SL.get7 HS.out) 2 rfl⟩ (fun hHeld => ?_)
                clear hK K
                refine norm_ (a' := ?_) ?_ ?_; rotate_left
                ·show Act.put _ (some 132) _ = _
                 simp only [Act.put, sT, sZ, sS, i64_w, i32_w]
                 rfl
                refine pure_ (i := 60) (N := some 133) (v := ?_) (a' := ?_) #[I,I,I,I,I,I,I,I,I,I,I,I,I,I,I,I,I,I,I,I,I,I,I,I,I,I,I,I,I,I,I,I,I,I,I,I,I,I,I,I,I,I,I,I,I,I,I,I,I,I,I,I,I,I,I,I,I,I,I,I,I,O] rfl rfl (any_of HT_.out (by kernel_rfl)) (fun _ _ _ h => h) (Or.inl ⟨by rfl, ?_⟩) ?_ ?_; rotate_left; · (intro w'; go_simp; with_reducible rfl)
                rotate_left; · (simp only [Act.put, sT, sZ, sS, i64_w, i32_w]; rfl)
                refine pure_ (i := 61) (N := some 8) (v := ?_) (a' := ?_) #[I,I,I,I,I,I,I,I,I,I,I,I,I,I,I,I,I,I,I,I,I,I,I,I,I,I,I,I,I,I,I,I,I,I,I,I,I,I,I,I,I,I,I,I,I,I,I,I,I,I,I,I,I,I,I,I,I,I,I,I,I,I] rfl rfl (any_of HT_.out (by kernel_rfl)) (fun _ _ _ h => h) (Or.inl ⟨by rfl, ?_⟩) ?_ ?_; rotate_left; · (intro w'; go_simp; with_reducible rfl)
                rotate_left; · (simp only [Act.put, sT, sZ, sS, i64_w, i32_w]; rfl)
                refine done_ (done_of HT_.out (by kernel_rfl)) ?_
                try go_wp2
                go_ret
                replace HS := Aside0.mk (SL.tail (SL.tail (SL.tail (SL.tail (SL.tail (SL.tail (SL.tail (SL.tail HS.out))))))))
                unfold barrowlaw07_SightWalls.Post
                exact ⟨by first | rfl | (simp; done) | (simp [*]; done) | (simp at c65b0 ⊢; first | exact c65b0 | (simp [c65b0]; done)), HS.out, HK.out⟩
              ·rw [if_neg c65] at H
               have c65b0 : (t497 != t503) = false := by simpa using c65
               (try (have c65b1 : decide (t497 = t503) = true := by simpa using c65))
               (try (have c65b2 : (t497 == t503) = true := by simpa using c65))
               clear c65
               exact absurd H (by simp)
            ·replace c25 := Bool.eq_false_iff.mpr c25
             subst c25
             rw [if_neg (show ¬ (false = true) by decide)] at H
             exact absurd H (by simp)
           ·replace c23 := Bool.eq_false_iff.mpr c23
            subst c23
            rw [if_neg (show ¬ (false = true) by decide)] at H
            exact absurd H (by simp)
          ·rw [if_neg c21] at H
           exact absurd H (by simp)
         ·rw [if_neg c20] at H
          exact absurd H (by simp)
       ·rw [if_neg c18] at H
        exact absurd H (by simp)
      ·rw [if_neg c17] at H
       exact absurd H (by simp)
     ·rw [if_neg c16] at H
      exact absurd H (by simp)
   ·replace c12 := Bool.eq_false_iff.mpr c12
    subst c12
    rw [if_neg (show ¬ (false = true) by decide)] at H
    obtain rfl := Option.some.inj H
    have hb_ := SL.at_ (SL.get1 HS.out)
    have hz3000054_0_0 := ((blk_cell hb_ 0).trans rfl : _ = some (.int .i64 a1_0))
    have hz3000054_1_0 := ((blk_cell hb_ 1).trans rfl : _ = some (.int .i64 a1_1))
    clear hb_
    have hb_ := SL.at_ (SL.get2 HS.out)
    have hz3000053_0_0 := ((blk_cell hb_ 0).trans rfl : _ = some (.int .i64 a0_0))
    have hz3000053_1_0 := ((blk_cell hb_ 1).trans rfl : _ = some (.int .i64 a0_1))
    have hz3000053_2_0 := ((blk_cell hb_ 2).trans rfl : _ = some (.slice A0_2 l0_2.length c0_2))
    clear hb_
    refine hG_.out ?_
    go_wp2_with (first | ((with_reducible refine gate_dst (N := 23) rfl ?_); (try (refine gate_guard (by rfl) ?_; dsimp only)); refine goesL_ (some 23) rfl rfl Try.func16 (by kernel_rfl) rfl #[.agg #[.int .i64 a0_0, .int .i64 a0_1, .slice A0_2 l0_2.length c0_2], .agg #[.int .i64 a1_0, .int .i64 a1_1]] rfl (by (try simp only [List.map_toArray, List.map_cons, List.map_nil]); first | done | rfl | (simp; done)) ?_; (with_reducible refine (grid_In.calls _ _ _ _ _ _ _ _ _ (RO.at_ HR0_2.out HK.out) HC0_2.out Hc9.out).mono ?_); rintro e_ w141 ⟨rfl, hb_⟩; refine ⟨_, rfl, ?_⟩; replace HS := Aside0.mk (HS.out.below hb_); replace HK := Aside0.mk (HK.out.trans (Keep.below hb_)); (try clear hz3000053_0_0 hz3000053_1_0 hz3000053_2_0); (try clear hz3000054_0_0 hz3000054_1_0); have hb_ := SL.at_ HS.out; have hz3000055_0_1 := ((blk_cell hb_ 0).trans rfl : _ = some (.int .i64 a2_0)); have hz3000055_1_1 := ((blk_cell hb_ 1).trans rfl : _ = some (.int .i64 a2_1)); clear hb_; have hb_ := SL.at_ (SL.get2 HS.out); have hz3000053_0_1 := ((blk_cell hb_ 0).trans rfl : _ = some (.int .i64 a0_0)); have hz3000053_1_1 := ((blk_cell hb_ 1).trans rfl : _ = some (.int .i64 a0_1)); have hz3000053_2_1 := ((blk_cell hb_ 2).trans rfl : _ = some (.slice A0_2 l0_2.length c0_2)); clear hb_) | ((with_reducible refine gate_dst (N := 29) rfl ?_); (try (refine gate_guard (by rfl) ?_; dsimp only)); refine goesL_ (some 29) rfl rfl Try.func16 (by kernel_rfl) rfl #[.agg #[.int .i64 a0_0, .int .i64 a0_1, .slice A0_2 l0_2.length c0_2], .agg #[.int .i64 a2_0, .int .i64 a2_1]] rfl (by (try simp only [List.map_toArray, List.map_cons, List.map_nil]); first | done | rfl | (simp; done)) ?_; (with_reducible refine (grid_In.calls _ _ _ _ _ _ _ _ _ (RO.at_ HR0_2.out HK.out) HC0_2.out Hc11.out).mono ?_); rintro e_ w142 ⟨rfl, hb_⟩; refine ⟨_, rfl, ?_⟩; replace HS := Aside0.mk (HS.out.below hb_); replace HK := Aside0.mk (HK.out.trans (Keep.below hb_)); (try clear hz3000053_0_1 hz3000053_1_1 hz3000053_2_1); (try clear hz3000055_0_1 hz3000055_1_1)))
    go_ret
    replace HS := Aside0.mk (SL.tail (SL.tail (SL.tail HS.out)))
    unfold barrowlaw07_SightWalls.Post
    exact ⟨by first | rfl | (simp; done) | (simp [*]; done), HS.out, HK.out⟩
  ·replace c10 := Bool.eq_false_iff.mpr c10
   subst c10
   rw [if_neg (show ¬ (false = true) by decide)] at H
   obtain rfl := Option.some.inj H
   have hb_ := SL.at_ (SL.get1 HS.out)
   have hz3000054_0_0 := ((blk_cell hb_ 0).trans rfl : _ = some (.int .i64 a1_0))
   have hz3000054_1_0 := ((blk_cell hb_ 1).trans rfl : _ = some (.int .i64 a1_1))
   clear hb_
   have hb_ := SL.at_ (SL.get2 HS.out)
   have hz3000053_0_0 := ((blk_cell hb_ 0).trans rfl : _ = some (.int .i64 a0_0))
   have hz3000053_1_0 := ((blk_cell hb_ 1).trans rfl : _ = some (.int .i64 a0_1))
   have hz3000053_2_0 := ((blk_cell hb_ 2).trans rfl : _ = some (.slice A0_2 l0_2.length c0_2))
   clear hb_
   refine hG_.out ?_
   go_wp2_with (first | ((with_reducible refine gate_dst (N := 23) rfl ?_); (try (refine gate_guard (by rfl) ?_; dsimp only)); refine goesL_ (some 23) rfl rfl Try.func16 (by kernel_rfl) rfl #[.agg #[.int .i64 a0_0, .int .i64 a0_1, .slice A0_2 l0_2.length c0_2], .agg #[.int .i64 a1_0, .int .i64 a1_1]] rfl (by (try simp only [List.map_toArray, List.map_cons, List.map_nil]); first | done | rfl | (simp; done)) ?_; (with_reducible refine (grid_In.calls _ _ _ _ _ _ _ _ _ (RO.at_ HR0_2.out HK.out) HC0_2.out Hc9.out).mono ?_); rintro e_ w143 ⟨rfl, hb_⟩; refine ⟨_, rfl, ?_⟩; replace HS := Aside0.mk (HS.out.below hb_); replace HK := Aside0.mk (HK.out.trans (Keep.below hb_)); (try clear hz3000053_0_0 hz3000053_1_0 hz3000053_2_0); (try clear hz3000054_0_0 hz3000054_1_0)))
   go_ret
   replace HS := Aside0.mk (SL.tail (SL.tail (SL.tail HS.out)))
   unfold barrowlaw07_SightWalls.Post
   exact ⟨by first | rfl | (simp; done) | (simp [*]; done), HS.out, HK.out⟩
 ·replace c8 := Bool.eq_false_iff.mpr c8
  subst c8
  rw [if_neg (show ¬ (false = true) by decide)] at H
  obtain rfl := Option.some.inj H
  refine hG_.out ?_
  go_wp2
  go_ret
  replace HS := Aside0.mk (SL.tail (SL.tail (SL.tail HS.out)))
  unfold barrowlaw07_SightWalls.Post
  exact ⟨by first | rfl | (simp; done) | (simp [*]; done), HS.out, HK.out⟩
theorem barrowlaw07_SightWalls.calls (k : Nat) (a0_0 : Int) (a0_1 : Int) (A0_2 : Option Addr) (c0_2 : Nat) (l0_2 : List Bool) (a1_0 : Int) (a1_1 : Int) (a2_0 : Int) (a2_1 : Int) (a3 : Int) (r : Bool) (w : World) (hr0_2 : Kd.C Kd.bool w A0_2 l0_2.length l0_2) (hc0_2 : l0_2.length ≤ c0_2) (h : barrowlaw07_SightWalls.f k a0_0 a0_1 l0_2 a1_0 a1_1 a2_0 a2_1 a3 = some r) :
  Calls Try.prog 5 #[.agg #[.int .i64 a0_0, .int .i64 a0_1, .slice A0_2 l0_2.length c0_2], .agg #[.int .i64 a1_0, .int .i64 a1_1], .agg #[.int .i64 a2_0, .int .i64 a2_1], .int .i64 a3] w fun e w' => e = .returned (.bool r) ∧ Below w.heap.size w w' :=
 (barrowlaw07_SightWalls.slcalls k a0_0 a0_1 A0_2 c0_2 l0_2 a1_0 a1_1 a2_0 a2_1 a3 r (news w) [] w (fresh_news w) trivial (RO.top hr0_2) hc0_2 h).mono fun _ _ h => ⟨h.1, h.2.2.to_below⟩

/-- THE ONE PURE STATEMENT of barrowlaw07_SightWalls. -/
def barrowlaw07_SightWalls.Pure : Prop := ∀ (a0_0 : Int) (a0_1 : Int) (l0_2 : List Bool) (a1_0 : Int) (a1_1 : Int) (a2_0 : Int) (a2_1 : Int) (a3 : Int), ((Lit.int .i64 a0_0).wf = true) → ((Lit.int .i64 a0_1).wf = true) → (l0_2.length ≤ maxLen ∧ l0_2.length * 1 ≤ 140737488351232 ∧ ∀ x509_ ∈ l0_2, True) → ((Lit.int .i64 a1_0).wf = true) → ((Lit.int .i64 a1_1).wf = true) → ((Lit.int .i64 a2_0).wf = true) → ((Lit.int .i64 a2_1).wf = true) → ((Lit.int .i64 a3).wf = true) → ∃ k, barrowlaw07_SightWalls.f k a0_0 a0_1 l0_2 a1_0 a1_1 a2_0 a2_1 a3 = some true

end Go.Proofs.Ytljmecjciifceaa.XSW
