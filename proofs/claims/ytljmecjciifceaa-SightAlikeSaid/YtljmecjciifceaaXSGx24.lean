-- Written by xprint.py (a program of this session) for this claim
import Derived.Test.YtljmecjciifceaaXSGx0
import Derived.Test.YtljmecjciifceaaXSGx2
import Derived.Test.YtljmecjciifceaaXSGx7
import Derived.Test.YtljmecjciifceaaXSGx8
import Derived.Test.YtljmecjciifceaaXSGx13
import Derived.Test.YtljmecjciifceaaXSGx20
import Derived.Test.YtljmecjciifceaaXSGx21
import Derived.Test.YtljmecjciifceaaXSGx23
namespace Go.Proofs.Ytljmecjciifceaa.XSG
open Go.Proofs.YtljmecjciifceaaV Go.Proofs.YtljmecjciifceaaS
open Go.RowKit Go.Proofs.YtljmecjciifceaaW.PrintWords Go.Proofs.YtljmecjciifceaaW.PrintLast Go.Proofs.YtljmecjciifceaaW.PrintMore
attribute [local go_sem] max2_int min2_int max_two min_two max_three min_three max_four min_four   -- for this text's walks alone
set_option linter.unusedVariables false
set_option linter.unusedSimpArgs false

/-! ### barrowlaw07_SightAlike: function 4 -/
def barrowlaw07_SightAlike.f (k : Nat) (a0_0 : Int) (a0_1 : Int) (l0_2 : List Bool) (a1_0 : Int) (a1_1 : Int) (a2_0 : Int) (a2_1 : Int) : Option (Bool) := (barrowlaw07_small.f k).bind fun t571 => ((barrowlaw06_Few.f a0_0 a0_1 l0_2).bind fun t572 => (if t572 = true then ((sight_Line.f k a0_0 a0_1 l0_2 a1_0 a1_1 a2_0 a2_1).bind fun t573 => ((sight_Line.f k a0_0 a0_1 l0_2 a2_0 a2_1 a1_0 a1_1).bind fun t574 => ((grid_In.f a0_0 a0_1 l0_2 a1_0 a1_1).bind fun t575 => (if t575 = true then ((grid_In.f a0_0 a0_1 l0_2 a2_0 a2_1).bind fun t576 => (if t576 = true then (if t571 = true then ((barrowref06_Same.f k t573 t574).bind fun t577 => (if t577 = true then ((barrowlaw07_has.f k t573 a1_0 a1_1).bind fun t578 => (if t578 = true then ((barrowlaw07_has.f k t573 a2_0 a2_1).bind fun t579 => (if t579 = true then ((sight_Sees.f k a0_0 a0_1 l0_2 a1_0 a1_1 a2_0 a2_1).bind fun t580 => ((sight_Sees.f k a0_0 a0_1 l0_2 a2_0 a2_1 a1_0 a1_1).bind fun t581 => (if (t580 == t581) = true then ((grid_Steps.f k a1_0 a1_1 a2_0 a2_1).bind fun t582 => (if (t573.length : Int) ≥ (wrap64 (t582 + 1)) then ((grid_Steps.f k a1_0 a1_1 a2_0 a2_1).bind fun t583 => (some (decide ((t573.length : Int) ≤ (wrap64 ((wrap64 (3 * t583)) + 1)))))) else (none))) else (none)))) else (none))) else (none))) else (none))) else (none)) else (if t571 = true then (if (t573.length : Int) = 0 then (if (t574.length : Int) = 0 then ((sight_Sees.f k a0_0 a0_1 l0_2 a1_0 a1_1 a2_0 a2_1).bind fun t584 => (if t584 = true then (none) else (some true))) else (none)) else (none)) else (none)))) else (if t571 = true then (if (t573.length : Int) = 0 then (if (t574.length : Int) = 0 then ((sight_Sees.f k a0_0 a0_1 l0_2 a1_0 a1_1 a2_0 a2_1).bind fun t585 => (if t585 = true then (none) else (some true))) else (none)) else (none)) else (none)))))) else (some t571)))
theorem barrowlaw07_SightAlike.mono : ∀ a0 a1 a2 a3 a4 a5 a6 k, LeO (barrowlaw07_SightAlike.f k a0 a1 a2 a3 a4 a5 a6) (barrowlaw07_SightAlike.f (k + 1) a0 a1 a2 a3 a4 a5 a6) := by
  intro a0 a1 a2 a3 a4 a5 a6 k
  unfold barrowlaw07_SightAlike.f
  repeat' first
      | (with_reducible exact barrowlaw07_has.mono _ _ _ _)
      | (with_reducible exact barrowlaw07_small.mono _)
      | (with_reducible exact barrowref06_Same.mono _ _ _)
      | (with_reducible exact grid_Steps.mono _ _ _ _ _)
      | (with_reducible exact sight_Line.mono _ _ _ _ _ _ _ _)
      | (with_reducible exact sight_Sees.mono _ _ _ _ _ _ _ _)
      | (with_reducible exact LeO.refl _)
      | (with_reducible exact LeO.none _)
      | (with_reducible refine LeO.ite ?_ ?_)
      | (with_reducible refine LeO.bind ?_ (fun _ => ?_))
      | exact barrowlaw07_has.mono _ _ _ _
      | exact barrowlaw07_small.mono _
      | exact barrowref06_Same.mono _ _ _
      | exact grid_Steps.mono _ _ _ _ _
      | exact sight_Line.mono _ _ _ _ _ _ _ _
      | exact sight_Sees.mono _ _ _ _ _ _ _ _
      | exact LeO.none _
      | refine LeO.ite ?_ ?_
      | refine LeO.bind ?_ (fun _ => ?_)
def barrowlaw07_SightAlike.T9 : Bool × List (List Nat × List Nat) := (true, [([], []), ([0], [0]), ([1], [1]), ([1], [1]), ([2, 3, 1, 1], [1, 2, 3]), ([1, 4], [1, 4]), ([5, 4], [5]), ([6], [6]), ([6], [6]), ([7, 8, 6, 6], [6, 7, 8]), ([6, 9], [6, 9]), ([10, 9], [10]), ([11], [11]), ([11], [11]), ([12, 13, 11, 11], [11, 12, 13]), ([11, 14], [11, 14]), ([15, 14], [15]), ([16], [16]), ([16], [16]), ([16], [16]), ([17, 18, 19, 16, 16], [16, 17, 18, 19]), ([16], [16]), ([16], [16]), ([16], [16]), ([21, 22, 23, 20, 16], [16, 21, 22, 23]), ([20, 24, 16], [16, 20, 24]), ([16, 25], [16, 25]), ([26, 24], [26]), ([27], [27]), ([28, 27], [27, 28]), ([27], [27]), ([27], [27]), ([30, 31, 27, 27], [27, 30, 31]), ([32, 27], [27, 32]), ([29, 33, 27], [27, 29, 33]), ([27, 34], [27, 34]), ([35, 32], [35]), ([36], [36]), ([37, 36], [36, 37]), ([36], [36]), ([36], [36]), ([39, 40, 36, 36], [36, 39, 40]), ([41, 36], [36, 41]), ([42, 36], [36, 42]), ([38, 43, 36], [36, 38, 43]), ([36, 44], [36, 44]), ([45, 41, 0, 1, 2, 3, 4, 5, 6, 7, 8, 9, 10, 11, 12, 13, 14, 15, 16, 17, 18, 19, 20, 21, 22, 23, 24, 25, 26, 27, 28, 29, 30, 31, 32, 33, 34, 35, 36, 37, 38, 39, 40, 41, 42, 43, 44, 45], [45])])
def barrowlaw07_SightAlike.B9 : List Nat := [0, 1, 3, 3, 15, 31, 63, 127, 127, 511, 1023, 2047, 4095, 4095, 16383, 32767, 65535, 131071, 131071, 131071, 1048575, 131071, 131071, 131071, 16777215, 33554431, 67108863, 134217727, 268435455, 536870911, 268435455, 268435455, 3489660927, 7784628223, 17179869183, 34359738367, 68719476735, 137438953471, 274877906943, 137438953471, 137438953471, 1786706395135, 3985729650687, 8383776161791, 17592186044415, 35184372088831, 70368744177663]
theorem barrowlaw07_SightAlike.tab9 : rtab .any (opsOf Try.f4 9) = barrowlaw07_SightAlike.T9 := by kernel_rfl
theorem barrowlaw07_SightAlike.bits9 : waitsOk barrowlaw07_SightAlike.T9.2 barrowlaw07_SightAlike.B9 = true := by kernel_rfl
def barrowlaw07_SightAlike.Post (r : Bool) (S : Nat → Prop) (L : List Asr) (w : World) (e : Ending) (w' : World) : Prop := e = .returned (.bool r) ∧ SL (L) w' S ∧ Keep S w w'
set_option maxHeartbeats 8000000 in
set_option maxRecDepth 100000 in
theorem barrowlaw07_SightAlike.slcalls (k : Nat) (a0_0 : Int) (a0_1 : Int) (A0_2 : Option Addr) (c0_2 : Nat) (l0_2 : List Bool) (a1_0 : Int) (a1_1 : Int) (a2_0 : Int) (a2_1 : Int) (r : Bool) (S : Nat → Prop) (L : List Asr) (w : World) (hf : Fresh S w) (hs : SL (L) w S) (hr0_2 : RO S w (fun w_ => Kd.C Kd.bool w_ A0_2 l0_2.length l0_2)) (hc0_2 : l0_2.length ≤ c0_2) (h : barrowlaw07_SightAlike.f k a0_0 a0_1 l0_2 a1_0 a1_1 a2_0 a2_1 = some r) :
    Calls Try.prog 4 #[.agg #[.int .i64 a0_0, .int .i64 a0_1, .slice A0_2 l0_2.length c0_2], .agg #[.int .i64 a1_0, .int .i64 a1_1], .agg #[.int .i64 a2_0, .int .i64 a2_1]] w (barrowlaw07_SightAlike.Post r S L w) := by
  have HR0_2 := Aside0.mk hr0_2
  have HC0_2 := Aside0.mk hc0_2
  clear hr0_2 hc0_2
  have HF := Aside0.mk hf
  have HS := Aside0.mk hs
  have HK := Aside0.mk (Keep.refl S w)
  clear hf hs
  have hu24 := Try.underlying24
  have hu26 := Try.underlying26
  have H : ((barrowlaw07_small.f k).bind fun t571 => ((barrowlaw06_Few.f a0_0 a0_1 l0_2).bind fun t572 => (if t572 = true then ((sight_Line.f k a0_0 a0_1 l0_2 a1_0 a1_1 a2_0 a2_1).bind fun t573 => ((sight_Line.f k a0_0 a0_1 l0_2 a2_0 a2_1 a1_0 a1_1).bind fun t574 => ((grid_In.f a0_0 a0_1 l0_2 a1_0 a1_1).bind fun t575 => (if t575 = true then ((grid_In.f a0_0 a0_1 l0_2 a2_0 a2_1).bind fun t576 => (if t576 = true then (if t571 = true then ((barrowref06_Same.f k t573 t574).bind fun t577 => (if t577 = true then ((barrowlaw07_has.f k t573 a1_0 a1_1).bind fun t578 => (if t578 = true then ((barrowlaw07_has.f k t573 a2_0 a2_1).bind fun t579 => (if t579 = true then ((sight_Sees.f k a0_0 a0_1 l0_2 a1_0 a1_1 a2_0 a2_1).bind fun t580 => ((sight_Sees.f k a0_0 a0_1 l0_2 a2_0 a2_1 a1_0 a1_1).bind fun t581 => (if (t580 == t581) = true then ((grid_Steps.f k a1_0 a1_1 a2_0 a2_1).bind fun t582 => (if (t573.length : Int) ≥ (wrap64 (t582 + 1)) then ((grid_Steps.f k a1_0 a1_1 a2_0 a2_1).bind fun t583 => (some (decide ((t573.length : Int) ≤ (wrap64 ((wrap64 (3 * t583)) + 1)))))) else (none))) else (none)))) else (none))) else (none))) else (none))) else (none)) else (if t571 = true then (if (t573.length : Int) = 0 then (if (t574.length : Int) = 0 then ((sight_Sees.f k a0_0 a0_1 l0_2 a1_0 a1_1 a2_0 a2_1).bind fun t584 => (if t584 = true then (none) else (some true))) else (none)) else (none)) else (none)))) else (if t571 = true then (if (t573.length : Int) = 0 then (if (t574.length : Int) = 0 then ((sight_Sees.f k a0_0 a0_1 l0_2 a1_0 a1_1 a2_0 a2_1).bind fun t585 => (if t585 = true then (none) else (some true))) else (none)) else (none)) else (none)))))) else (some t571)))) = some r := h
  clear h
  replace H := Option.bind_eq_some_iff.1 H
  obtain ⟨t571, Hc10, H⟩ := H
  try dsimp only at H
  have Hc1 := Aside0.mk Hc10
  clear Hc10
  replace H := Option.bind_eq_some_iff.1 H
  obtain ⟨t572, Hc20, H⟩ := H
  try dsimp only at H
  have Hc2 := Aside0.mk Hc20
  clear Hc20
  have H' := Aside0.mk H
  clear H
  go_enter Try.func4, Try.ntmps4
  go_wp2_with (first | ((with_reducible refine gate_dst (N := 3) rfl ?_); refine wpList_plain rfl (fun K_ hK_ => ?_); refine op_box (S := S) (cs := #[.int .i64 a0_0, .int .i64 a0_1, .slice A0_2 l0_2.length c0_2]) (t := 24) (HF.out.keep HK.out) HS.out (by first | (go_simp; done) | (go_simp; rfl)) ?_; intro g3000086 w3 hs_ hk_; refine hK_ _ _ ?_; clear hK_ K_; replace HS := Aside0.mk (hs_); replace HK := Aside0.mk (HK.out.trans hk_)) | ((with_reducible refine gate_dst (N := 4) rfl ?_); refine wpList_plain rfl (fun K_ hK_ => ?_); refine op_box (S := S) (cs := #[.int .i64 a1_0, .int .i64 a1_1]) (t := 26) (HF.out.keep HK.out) HS.out (by first | (go_simp; done) | (go_simp; rfl)) ?_; intro g3000087 w4 hs_ hk_; refine hK_ _ _ ?_; clear hK_ K_; replace HS := Aside0.mk (hs_); replace HK := Aside0.mk (HK.out.trans hk_)) | ((with_reducible refine gate_dst (N := 5) rfl ?_); refine wpList_plain rfl (fun K_ hK_ => ?_); refine op_box (S := S) (cs := #[.int .i64 a2_0, .int .i64 a2_1]) (t := 26) (HF.out.keep HK.out) HS.out (by first | (go_simp; done) | (go_simp; rfl)) ?_; intro g3000088 w5 hs_ hk_; refine hK_ _ _ ?_; clear hK_ K_; replace HS := Aside0.mk (hs_); replace HK := Aside0.mk (HK.out.trans hk_)) | ((with_reducible refine gate_dst (N := 11) rfl ?_); refine goesL_ (some 11) rfl rfl Try.func7 (by kernel_rfl) rfl #[] rfl (by (try simp only [List.map_toArray, List.map_cons, List.map_nil]); first | done | rfl | (simp; done)) ?_; (with_reducible refine (barrowlaw07_small.calls k _ _  Hc1.out).mono ?_); rintro e_ w6 ⟨rfl, hb_⟩; refine ⟨_, rfl, ?_⟩; replace HS := Aside0.mk (HS.out.below hb_); replace HK := Aside0.mk (HK.out.trans (Keep.below hb_)); have hb_ := SL.at_ (SL.get2 HS.out); have hz3000086_0_4 := ((blk_cell hb_ 0).trans rfl : _ = some (.int .i64 a0_0)); have hz3000086_1_4 := ((blk_cell hb_ 1).trans rfl : _ = some (.int .i64 a0_1)); have hz3000086_2_4 := ((blk_cell hb_ 2).trans rfl : _ = some (.slice A0_2 l0_2.length c0_2)); clear hb_) | ((with_reducible refine gate_dst (N := 13) rfl ?_); refine goesL_ (some 13) rfl rfl Try.func8 (by kernel_rfl) rfl #[.agg #[.int .i64 a0_0, .int .i64 a0_1, .slice A0_2 l0_2.length c0_2]] rfl (by (try simp only [List.map_toArray, List.map_cons, List.map_nil]); first | done | rfl | (simp; done)) ?_; (with_reducible refine (barrowlaw06_Few.calls _ _ _ _ _ _ _ (RO.at_ HR0_2.out HK.out) HC0_2.out Hc2.out).mono ?_); rintro e_ w7 ⟨rfl, hb_⟩; refine ⟨_, rfl, ?_⟩; replace HS := Aside0.mk (HS.out.below hb_); replace HK := Aside0.mk (HK.out.trans (Keep.below hb_)); (try clear hz3000086_0_4 hz3000086_1_4 hz3000086_2_4); refine stop_ ?_; intro G_ hG_))
  have H := H'.out
  clear H'
  by_cases c8 : t572 = true
  · subst c8
    rw [if_pos rfl] at H
    replace H := Option.bind_eq_some_iff.1 H
    obtain ⟨t573, Hc90, H⟩ := H
    try dsimp only at H
    have Hc9 := Aside0.mk Hc90
    clear Hc90
    replace H := Option.bind_eq_some_iff.1 H
    obtain ⟨t574, Hc100, H⟩ := H
    try dsimp only at H
    have Hc10 := Aside0.mk Hc100
    clear Hc100
    replace H := Option.bind_eq_some_iff.1 H
    obtain ⟨t575, Hc110, H⟩ := H
    try dsimp only at H
    have Hc11 := Aside0.mk Hc110
    clear Hc110
    have H' := Aside0.mk H
    clear H
    have hb_ := SL.at_ HS.out
    have hz3000088_0_0 := ((blk_cell hb_ 0).trans rfl : _ = some (.int .i64 a2_0))
    have hz3000088_1_0 := ((blk_cell hb_ 1).trans rfl : _ = some (.int .i64 a2_1))
    clear hb_
    have hb_ := SL.at_ (SL.get1 HS.out)
    have hz3000087_0_0 := ((blk_cell hb_ 0).trans rfl : _ = some (.int .i64 a1_0))
    have hz3000087_1_0 := ((blk_cell hb_ 1).trans rfl : _ = some (.int .i64 a1_1))
    clear hb_
    have hb_ := SL.at_ (SL.get2 HS.out)
    have hz3000086_0_0 := ((blk_cell hb_ 0).trans rfl : _ = some (.int .i64 a0_0))
    have hz3000086_1_0 := ((blk_cell hb_ 1).trans rfl : _ = some (.int .i64 a0_1))
    have hz3000086_2_0 := ((blk_cell hb_ 2).trans rfl : _ = some (.slice A0_2 l0_2.length c0_2))
    clear hb_
    refine hG_.out ?_
    go_wp2_with (first | ((with_reducible refine gate_dst (N := 20) rfl ?_); refine goesL_ (some 20) rfl rfl Try.func12 (by kernel_rfl) rfl #[.agg #[.int .i64 a0_0, .int .i64 a0_1, .slice A0_2 l0_2.length c0_2], .agg #[.int .i64 a1_0, .int .i64 a1_1], .agg #[.int .i64 a2_0, .int .i64 a2_1]] rfl (by (try simp only [List.map_toArray, List.map_cons, List.map_nil]); first | done | rfl | (simp; done)) ?_; have hs0_ := HS.out; (with_reducible refine (sight_Line.slcalls k _ _ _ _ _ _ _ _ _ _ _ _ _ (HF.out.keep HK.out) hs0_ (HR0_2.out.keep HK.out) HC0_2.out Hc9.out).mono ?_); rintro e_ w12 ⟨Az3000089, cz3000089, rfl, hsr_, hkr_⟩; refine ⟨_, rfl, ?_⟩; replace HS := Aside0.mk (hsr_); replace HK := Aside0.mk (HK.out.trans hkr_); (try clear hz3000086_0_0 hz3000086_1_0 hz3000086_2_0); (try clear hz3000087_0_0 hz3000087_1_0); (try clear hz3000088_0_0 hz3000088_1_0); have hb_ := SL.at_ (SL.get1 HS.out); have hz3000088_0_1 := ((blk_cell hb_ 0).trans rfl : _ = some (.int .i64 a2_0)); have hz3000088_1_1 := ((blk_cell hb_ 1).trans rfl : _ = some (.int .i64 a2_1)); clear hb_; have hb_ := SL.at_ (SL.get2 HS.out); have hz3000087_0_1 := ((blk_cell hb_ 0).trans rfl : _ = some (.int .i64 a1_0)); have hz3000087_1_1 := ((blk_cell hb_ 1).trans rfl : _ = some (.int .i64 a1_1)); clear hb_; have hb_ := SL.at_ (SL.get3 HS.out); have hz3000086_0_1 := ((blk_cell hb_ 0).trans rfl : _ = some (.int .i64 a0_0)); have hz3000086_1_1 := ((blk_cell hb_ 1).trans rfl : _ = some (.int .i64 a0_1)); have hz3000086_2_1 := ((blk_cell hb_ 2).trans rfl : _ = some (.slice A0_2 l0_2.length c0_2)); clear hb_) | ((with_reducible refine gate_dst (N := 24) rfl ?_); refine goesL_ (some 24) rfl rfl Try.func12 (by kernel_rfl) rfl #[.agg #[.int .i64 a0_0, .int .i64 a0_1, .slice A0_2 l0_2.length c0_2], .agg #[.int .i64 a2_0, .int .i64 a2_1], .agg #[.int .i64 a1_0, .int .i64 a1_1]] rfl (by (try simp only [List.map_toArray, List.map_cons, List.map_nil]); first | done | rfl | (simp; done)) ?_; have hs0_ := HS.out; (with_reducible refine (sight_Line.slcalls k _ _ _ _ _ _ _ _ _ _ _ _ _ (HF.out.keep HK.out) hs0_ (HR0_2.out.keep HK.out) HC0_2.out Hc10.out).mono ?_); rintro e_ w13 ⟨Az3000090, cz3000090, rfl, hsr_, hkr_⟩; refine ⟨_, rfl, ?_⟩; replace HS := Aside0.mk (hsr_); replace HK := Aside0.mk (HK.out.trans hkr_); (try clear hz3000086_0_1 hz3000086_1_1 hz3000086_2_1); (try clear hz3000087_0_1 hz3000087_1_1); (try clear hz3000088_0_1 hz3000088_1_1); have hb_ := SL.at_ (SL.get3 HS.out); have hz3000087_0_2 := ((blk_cell hb_ 0).trans rfl : _ = some (.int .i64 a1_0)); have hz3000087_1_2 := ((blk_cell hb_ 1).trans rfl : _ = some (.int .i64 a1_1)); clear hb_; have hb_ := SL.at_ (SL.get4 HS.out); have hz3000086_0_2 := ((blk_cell hb_ 0).trans rfl : _ = some (.int .i64 a0_0)); have hz3000086_1_2 := ((blk_cell hb_ 1).trans rfl : _ = some (.int .i64 a0_1)); have hz3000086_2_2 := ((blk_cell hb_ 2).trans rfl : _ = some (.slice A0_2 l0_2.length c0_2)); clear hb_) | ((with_reducible refine gate_dst (N := 27) rfl ?_); refine goesL_ (some 27) rfl rfl Try.func16 (by kernel_rfl) rfl #[.agg #[.int .i64 a0_0, .int .i64 a0_1, .slice A0_2 l0_2.length c0_2], .agg #[.int .i64 a1_0, .int .i64 a1_1]] rfl (by (try simp only [List.map_toArray, List.map_cons, List.map_nil]); first | done | rfl | (simp; done)) ?_; (with_reducible refine (grid_In.calls _ _ _ _ _ _ _ _ _ (RO.at_ HR0_2.out HK.out) HC0_2.out Hc11.out).mono ?_); rintro e_ w14 ⟨rfl, hb_⟩; refine ⟨_, rfl, ?_⟩; replace HS := Aside0.mk (HS.out.below hb_); replace HK := Aside0.mk (HK.out.trans (Keep.below hb_)); (try clear hz3000086_0_2 hz3000086_1_2 hz3000086_2_2); (try clear hz3000087_0_2 hz3000087_1_2); refine stop_ ?_; intro G_ hG_))
    have H := H'.out
    clear H'
    by_cases c15 : t575 = true
    · subst c15
      rw [if_pos rfl] at H
      replace H := Option.bind_eq_some_iff.1 H
      obtain ⟨t576, Hc160, H⟩ := H
      try dsimp only at H
      have Hc16 := Aside0.mk Hc160
      clear Hc160
      by_cases c17 : t576 = true
      · subst c17
        rw [if_pos rfl] at H
        by_cases c18 : t571 = true
        · subst c18
          rw [if_pos rfl] at H
          replace H := Option.bind_eq_some_iff.1 H
          obtain ⟨t577, Hc190, H⟩ := H
          try dsimp only at H
          have Hc19 := Aside0.mk Hc190
          clear Hc190
          by_cases c20 : t577 = true
          · subst c20
            rw [if_pos rfl] at H
            replace H := Option.bind_eq_some_iff.1 H
            obtain ⟨t578, Hc210, H⟩ := H
            try dsimp only at H
            have Hc21 := Aside0.mk Hc210
            clear Hc210
            by_cases c22 : t578 = true
            · subst c22
              rw [if_pos rfl] at H
              replace H := Option.bind_eq_some_iff.1 H
              obtain ⟨t579, Hc230, H⟩ := H
              try dsimp only at H
              have Hc23 := Aside0.mk Hc230
              clear Hc230
              by_cases c24 : t579 = true
              · subst c24
                rw [if_pos rfl] at H
                replace H := Option.bind_eq_some_iff.1 H
                obtain ⟨t580, Hc250, H⟩ := H
                try dsimp only at H
                have Hc25 := Aside0.mk Hc250
                clear Hc250
                replace H := Option.bind_eq_some_iff.1 H
                obtain ⟨t581, Hc260, H⟩ := H
                try dsimp only at H
                have Hc26 := Aside0.mk Hc260
                clear Hc260
                by_cases c27 : (t580 == t581) = true
                · rw [if_pos c27] at H
                  have c27b0 : (t580 == t581) = true := c27
                  (try (have c27b1 : decide (t580 = t581) = true := by simpa using c27))
                  (try (have c27b2 : (t580 == t581) = true := by simpa using c27))
                  clear c27
                  replace H := Option.bind_eq_some_iff.1 H
                  obtain ⟨t582, Hc280, H⟩ := H
                  try dsimp only at H
                  have Hc28 := Aside0.mk Hc280
                  clear Hc280
                  by_cases c29 : (t573.length : Int) ≥ (wrap64 (t582 + 1))
                  · rw [if_pos c29] at H
                    have c29b0 : decide ((wrap64 (t582 + 1)) ≤ (t573.length : Int)) = true := decide_eq_true c29
                    clear c29
                    replace H := Option.bind_eq_some_iff.1 H
                    obtain ⟨t583, Hc300, H⟩ := H
                    try dsimp only at H
                    have Hc30 := Aside0.mk Hc300
                    clear Hc300
                    obtain rfl := Option.some.inj H
                    have hb_ := SL.at_ (SL.get2 HS.out)
                    have hz3000088_0_0 := ((blk_cell hb_ 0).trans rfl : _ = some (.int .i64 a2_0))
                    have hz3000088_1_0 := ((blk_cell hb_ 1).trans rfl : _ = some (.int .i64 a2_1))
                    clear hb_
                    have hb_ := SL.at_ (SL.get4 HS.out)
                    have hz3000086_0_0 := ((blk_cell hb_ 0).trans rfl : _ = some (.int .i64 a0_0))
                    have hz3000086_1_0 := ((blk_cell hb_ 1).trans rfl : _ = some (.int .i64 a0_1))
                    have hz3000086_2_0 := ((blk_cell hb_ 2).trans rfl : _ = some (.slice A0_2 l0_2.length c0_2))
                    clear hb_
                    refine hG_.out ?_
                    try simp only [c27b0, c29b0]
                    try go_wp2_with (first | ((with_reducible refine gate_dst (N := 32) rfl ?_); (try (refine gate_guard (by rfl) ?_; dsimp only)); refine goesL_ (some 32) rfl rfl Try.func16 (by kernel_rfl) rfl #[.agg #[.int .i64 a0_0, .int .i64 a0_1, .slice A0_2 l0_2.length c0_2], .agg #[.int .i64 a2_0, .int .i64 a2_1]] rfl (by (try simp only [List.map_toArray, List.map_cons, List.map_nil]); first | done | rfl | (simp; done)) ?_; (with_reducible refine (grid_In.calls _ _ _ _ _ _ _ _ _ (RO.at_ HR0_2.out HK.out) HC0_2.out Hc16.out).mono ?_); rintro e_ w31 ⟨rfl, hb_⟩; refine ⟨_, rfl, ?_⟩; replace HS := Aside0.mk (HS.out.below hb_); replace HK := Aside0.mk (HK.out.trans (Keep.below hb_)); (try clear hz3000086_0_0 hz3000086_1_0 hz3000086_2_0); (try clear hz3000088_0_0 hz3000088_1_0)))
                    refine start_ (n := 47) (S := fun w' => w'.cell? ⟨g3000087, 0, none⟩ = some (.int .i64 a1_0) ∧ w'.cell? ⟨g3000087, 1, none⟩ = some (.int .i64 a1_1) ∧ w'.cell? ⟨g3000088, 0, none⟩ = some (.int .i64 a2_0) ∧ w'.cell? ⟨g3000088, 1, none⟩ = some (.int .i64 a2_1) ∧ w'.cell? ⟨g3000086, 0, none⟩ = some (.int .i64 a0_0) ∧ w'.cell? ⟨g3000086, 1, none⟩ = some (.int .i64 a0_1) ∧ w'.cell? ⟨g3000086, 2, none⟩ = some (.slice A0_2 l0_2.length c0_2)) (ds := []) #[false, false, false, false, false, false, false, false, false, false, false, false, false, false, false, false, false, false, false, false, false, false, false, false, false, false, false, false, false, false, false, false, false, false, false, false, false, false, false, false, false, false, false, false, false, false, false] (by kernel_rfl) rfl rfl ⟨(((blk_cell (SL.at_ (SL.get3 HS.out)) 0).trans rfl)), (((blk_cell (SL.at_ (SL.get3 HS.out)) 1).trans rfl)), (((blk_cell (SL.at_ (SL.get2 HS.out)) 0).trans rfl)), (((blk_cell (SL.at_ (SL.get2 HS.out)) 1).trans rfl)), (((blk_cell (SL.at_ (SL.get4 HS.out)) 0).trans rfl)), (((blk_cell (SL.at_ (SL.get4 HS.out)) 1).trans rfl)), (((blk_cell (SL.at_ (SL.get4 HS.out)) 2).trans rfl))⟩ (fun hHeld => ?_); refine with_tabW barrowlaw07_SightAlike.tab9 barrowlaw07_SightAlike.bits9 (fun HT_ HW_ => ?_)
                    replace HK := Aside0.mk (Keep.drew HK.out)
                    replace HS := Aside0.mk (SL.drew HS.out)
                    refine pure_ (i := 0) (N := some 53) (v := ?_) (a' := ?_) #[true, false, false, false, false, false, false, false, false, false, false, false, false, false, false, false, false, false, false, false, false, false, false, false, false, false, false, false, false, false, false, false, false, false, false, false, false, false, false, false, false, false, false, false, false, false, false] rfl rfl (any_of HT_.out (by kernel_rfl)) (fun _ _ _ h => h) (Or.inl ⟨by rfl, ?_⟩) ?_ ?_; rotate_left; · (intro w'; go_simp; with_reducible rfl)
                    rotate_left; · (simp only [Act.put, sT, sZ, sS, i64_w, i32_w]; rfl)
                    refine pure_ (i := 1) (N := some 54) (v := ?_) (a' := ?_) #[true, true, false, false, false, false, false, false, false, false, false, false, false, false, false, false, false, false, false, false, false, false, false, false, false, false, false, false, false, false, false, false, false, false, false, false, false, false, false, false, false, false, false, false, false, false, false] rfl rfl (any_of HT_.out (by kernel_rfl)) (fun _ _ _ h => h) (Or.inl ⟨by rfl, ?_⟩) ?_ ?_; rotate_left; · (intro w'; go_simp; with_reducible rfl)
                    rotate_left; · (simp only [Act.put, sT, sZ, sS, i64_w, i32_w]; rfl)
                    refine pure_ (i := 2) (N := some 55) (v := ?_) (a' := ?_) #[true, true, true, false, false, false, false, false, false, false, false, false, false, false, false, false, false, false, false, false, false, false, false, false, false, false, false, false, false, false, false, false, false, false, false, false, false, false, false, false, false, false, false, false, false, false, false] rfl rfl (any_of HT_.out (by kernel_rfl)) (fun _ _ _ h => h) (Or.inl ⟨by rfl, ?_⟩) ?_ ?_; rotate_left; · (intro w'; go_simp; with_reducible rfl)
                    rotate_left; · (simp only [Act.put, sT, sZ, sS, i64_w, i32_w]; rfl)
                    refine pure_ (i := 3) (N := some 56) (v := ?_) (a' := ?_) #[true, true, true, true, false, false, false, false, false, false, false, false, false, false, false, false, false, false, false, false, false, false, false, false, false, false, false, false, false, false, false, false, false, false, false, false, false, false, false, false, false, false, false, false, false, false, false] rfl rfl (any_of HT_.out (by kernel_rfl)) (fun _ _ _ h => h) (Or.inl ⟨by rfl, ?_⟩) ?_ ?_; rotate_left; · (intro w'; go_simp; with_reducible rfl)
                    rotate_left; · (simp only [Act.put, sT, sZ, sS, i64_w, i32_w]; rfl)
                    refine one_ (i := 4) (N := some 57) #[true, true, true, true, true, false, false, false, false, false, false, false, false, false, false, false, false, false, false, false, false, false, false, false, false, false, false, false, false, false, false, false, false, false, false, false, false, false, false, false, false, false, false, false, false, false, false] rfl rfl (one_of HT_.out (by kernel_rfl)) (by decide) (fun K hK => ?_)
                    refine goes_ Try.func11 (by kernel_rfl) rfl #[.slice Az3000089 t573.length cz3000089, .slice Az3000090 t574.length cz3000090] (by rfl) rfl rfl (by (try simp only [List.map_toArray, List.map_cons, List.map_nil]); first | done | rfl | (simp; done)) ?_
                    (with_reducible refine (barrowref06_Same.calls k _ _ _ _ _ _ _ _ (SL.row_c (SL.get1 HS.out)).2.2 (SL.row_c (SL.get1 HS.out)).2.1 (SL.row_c HS.out).2.2 (SL.row_c HS.out).2.1 Hc19.out).mono ?_)
                    rintro e_ w32 ⟨rfl, hb_⟩
                    refine ⟨_, rfl, ?_⟩
                    replace hb_ := Drawn0.below hb_
                    replace HS := Aside0.mk (HS.out.below hb_)
                    replace HK := Aside0.mk (HK.out.trans (Keep.below hb_))
                    refine hK.out _ _ ⟨(((blk_cell (SL.at_ (SL.get3 HS.out)) 0).trans rfl)), (((blk_cell (SL.at_ (SL.get3 HS.out)) 1).trans rfl)), (((blk_cell (SL.at_ (SL.get2 HS.out)) 0).trans rfl)), (((blk_cell (SL.at_ (SL.get2 HS.out)) 1).trans rfl)), (((blk_cell (SL.at_ (SL.get4 HS.out)) 0).trans rfl)), (((blk_cell (SL.at_ (SL.get4 HS.out)) 1).trans rfl)), (((blk_cell (SL.at_ (SL.get4 HS.out)) 2).trans rfl))⟩ (fun hHeld => ?_)
                    clear hK K
                    refine norm_ (a' := ?_) ?_ ?_; rotate_left
                    · show Act.put _ (some 57) _ = _
                      simp only [Act.put, sT, sZ, sS, i64_w, i32_w]
                      rfl
                    refine pure_ (i := 5) (N := some 58) (v := ?_) (a' := ?_) #[true, true, true, true, true, true, false, false, false, false, false, false, false, false, false, false, false, false, false, false, false, false, false, false, false, false, false, false, false, false, false, false, false, false, false, false, false, false, false, false, false, false, false, false, false, false, false] rfl rfl (any_of HT_.out (by kernel_rfl)) (fun _ _ _ h => h) (Or.inl ⟨by rfl, ?_⟩) ?_ ?_; rotate_left; · (intro w'; go_simp; with_reducible rfl)
                    rotate_left; · (simp only [Act.put, sT, sZ, sS, i64_w, i32_w]; rfl)
                    refine pure_ (i := 6) (N := some 59) (v := ?_) (a' := ?_) #[true, true, true, true, true, true, true, false, false, false, false, false, false, false, false, false, false, false, false, false, false, false, false, false, false, false, false, false, false, false, false, false, false, false, false, false, false, false, false, false, false, false, false, false, false, false, false] rfl rfl (any_of HT_.out (by kernel_rfl)) (fun _ _ _ h => h) (Or.inl ⟨by rfl, ?_⟩) ?_ ?_; rotate_left; · (intro w'; go_simp; with_reducible rfl)
                    rotate_left; · (simp only [Act.put, sT, sZ, sS, i64_w, i32_w]; rfl)
                    refine pure_ (i := 7) (N := some 60) (v := ?_) (a' := ?_) #[true, true, true, true, true, true, true, true, false, false, false, false, false, false, false, false, false, false, false, false, false, false, false, false, false, false, false, false, false, false, false, false, false, false, false, false, false, false, false, false, false, false, false, false, false, false, false] rfl rfl (any_of HT_.out (by kernel_rfl)) (fun _ _ _ h => h) (Or.inl ⟨by rfl, ?_⟩) ?_ ?_; rotate_left; · (intro w'; go_simp; with_reducible rfl)
                    rotate_left; · (simp only [Act.put, sT, sZ, sS, i64_w, i32_w]; rfl)
                    refine take_ (i := 8) (N := some 61) (v := ?_) (a' := ?_) #[true, true, true, true, true, true, true, true, true, false, false, false, false, false, false, false, false, false, false, false, false, false, false, false, false, false, false, false, false, false, false, false, false, false, false, false, false, false, false, false, false, false, false, false, false, false, false] rfl rfl (take_ofW HT_.out HW_.out (by kernel_rfl)) (fun _ _ _ h => h) (Or.inl ⟨by rfl, ?_⟩) hHeld ?_ ?_; rotate_left
                    · rintro w' ⟨s0, s1, s2, s3, s4, s5, s6⟩
                      go_simp
                      with_reducible rfl
                    rotate_left; · (simp only [Act.put, sT, sZ, sS, i64_w, i32_w]; rfl)
                    refine one_ (i := 9) (N := some 62) #[true, true, true, true, true, true, true, true, true, true, false, false, false, false, false, false, false, false, false, false, false, false, false, false, false, false, false, false, false, false, false, false, false, false, false, false, false, false, false, false, false, false, false, false, false, false, false] rfl rfl (one_of HT_.out (by kernel_rfl)) (by decide) (fun K hK => ?_)
                    refine goes_ Try.func17 (by kernel_rfl) rfl #[.slice Az3000089 t573.length cz3000089, .agg #[.int .i64 a1_0, .int .i64 a1_1]] (by rfl) rfl rfl (by (try simp only [List.map_toArray, List.map_cons, List.map_nil]); first | done | rfl | (simp; done)) ?_
                    (with_reducible refine (barrowlaw07_has.calls k _ _ _ _ _ _ _ (SL.row_c (SL.get1 HS.out)).2.2 (SL.row_c (SL.get1 HS.out)).2.1 Hc21.out).mono ?_)
                    rintro e_ w33 ⟨rfl, hb_⟩
                    refine ⟨_, rfl, ?_⟩
                    replace HS := Aside0.mk (HS.out.below hb_)
                    replace HK := Aside0.mk (HK.out.trans (Keep.below hb_))
                    refine hK.out _ _ ⟨(((blk_cell (SL.at_ (SL.get3 HS.out)) 0).trans rfl)), (((blk_cell (SL.at_ (SL.get3 HS.out)) 1).trans rfl)), (((blk_cell (SL.at_ (SL.get2 HS.out)) 0).trans rfl)), (((blk_cell (SL.at_ (SL.get2 HS.out)) 1).trans rfl)), (((blk_cell (SL.at_ (SL.get4 HS.out)) 0).trans rfl)), (((blk_cell (SL.at_ (SL.get4 HS.out)) 1).trans rfl)), (((blk_cell (SL.at_ (SL.get4 HS.out)) 2).trans rfl))⟩ (fun hHeld => ?_)
                    clear hK K
                    refine norm_ (a' := ?_) ?_ ?_; rotate_left
                    · show Act.put _ (some 62) _ = _
                      simp only [Act.put, sT, sZ, sS, i64_w, i32_w]
                      rfl
                    refine pure_ (i := 10) (N := some 63) (v := ?_) (a' := ?_) #[true, true, true, true, true, true, true, true, true, true, true, false, false, false, false, false, false, false, false, false, false, false, false, false, false, false, false, false, false, false, false, false, false, false, false, false, false, false, false, false, false, false, false, false, false, false, false] rfl rfl (any_of HT_.out (by kernel_rfl)) (fun _ _ _ h => h) (Or.inl ⟨by rfl, ?_⟩) ?_ ?_; rotate_left; · (intro w'; go_simp; with_reducible rfl)
                    rotate_left; · (simp only [Act.put, sT, sZ, sS, i64_w, i32_w]; rfl)
                    refine pure_ (i := 11) (N := some 64) (v := ?_) (a' := ?_) #[true, true, true, true, true, true, true, true, true, true, true, true, false, false, false, false, false, false, false, false, false, false, false, false, false, false, false, false, false, false, false, false, false, false, false, false, false, false, false, false, false, false, false, false, false, false, false] rfl rfl (any_of HT_.out (by kernel_rfl)) (fun _ _ _ h => h) (Or.inl ⟨by rfl, ?_⟩) ?_ ?_; rotate_left; · (intro w'; go_simp; with_reducible rfl)
                    rotate_left; · (simp only [Act.put, sT, sZ, sS, i64_w, i32_w]; rfl)
                    refine pure_ (i := 12) (N := some 65) (v := ?_) (a' := ?_) #[true, true, true, true, true, true, true, true, true, true, true, true, true, false, false, false, false, false, false, false, false, false, false, false, false, false, false, false, false, false, false, false, false, false, false, false, false, false, false, false, false, false, false, false, false, false, false] rfl rfl (any_of HT_.out (by kernel_rfl)) (fun _ _ _ h => h) (Or.inl ⟨by rfl, ?_⟩) ?_ ?_; rotate_left; · (intro w'; go_simp; with_reducible rfl)
                    rotate_left; · (simp only [Act.put, sT, sZ, sS, i64_w, i32_w]; rfl)
                    refine take_ (i := 13) (N := some 66) (v := ?_) (a' := ?_) #[true, true, true, true, true, true, true, true, true, true, true, true, true, true, false, false, false, false, false, false, false, false, false, false, false, false, false, false, false, false, false, false, false, false, false, false, false, false, false, false, false, false, false, false, false, false, false] rfl rfl (take_ofW HT_.out HW_.out (by kernel_rfl)) (fun _ _ _ h => h) (Or.inl ⟨by rfl, ?_⟩) hHeld ?_ ?_; rotate_left
                    · rintro w' ⟨s0, s1, s2, s3, s4, s5, s6⟩
                      go_simp
                      with_reducible rfl
                    rotate_left; · (simp only [Act.put, sT, sZ, sS, i64_w, i32_w]; rfl)
                    refine one_ (i := 14) (N := some 67) #[true, true, true, true, true, true, true, true, true, true, true, true, true, true, true, false, false, false, false, false, false, false, false, false, false, false, false, false, false, false, false, false, false, false, false, false, false, false, false, false, false, false, false, false, false, false, false] rfl rfl (one_of HT_.out (by kernel_rfl)) (by decide) (fun K hK => ?_)
                    refine goes_ Try.func17 (by kernel_rfl) rfl #[.slice Az3000089 t573.length cz3000089, .agg #[.int .i64 a2_0, .int .i64 a2_1]] (by rfl) rfl rfl (by (try simp only [List.map_toArray, List.map_cons, List.map_nil]); first | done | rfl | (simp; done)) ?_
                    (with_reducible refine (barrowlaw07_has.calls k _ _ _ _ _ _ _ (SL.row_c (SL.get1 HS.out)).2.2 (SL.row_c (SL.get1 HS.out)).2.1 Hc23.out).mono ?_)
                    rintro e_ w34 ⟨rfl, hb_⟩
                    refine ⟨_, rfl, ?_⟩
                    replace HS := Aside0.mk (HS.out.below hb_)
                    replace HK := Aside0.mk (HK.out.trans (Keep.below hb_))
                    refine hK.out _ _ ⟨(((blk_cell (SL.at_ (SL.get3 HS.out)) 0).trans rfl)), (((blk_cell (SL.at_ (SL.get3 HS.out)) 1).trans rfl)), (((blk_cell (SL.at_ (SL.get2 HS.out)) 0).trans rfl)), (((blk_cell (SL.at_ (SL.get2 HS.out)) 1).trans rfl)), (((blk_cell (SL.at_ (SL.get4 HS.out)) 0).trans rfl)), (((blk_cell (SL.at_ (SL.get4 HS.out)) 1).trans rfl)), (((blk_cell (SL.at_ (SL.get4 HS.out)) 2).trans rfl))⟩ (fun hHeld => ?_)
                    clear hK K
                    refine norm_ (a' := ?_) ?_ ?_; rotate_left
                    · show Act.put _ (some 67) _ = _
                      simp only [Act.put, sT, sZ, sS, i64_w, i32_w]
                      rfl
                    refine pure_ (i := 15) (N := some 68) (v := ?_) (a' := ?_) #[true, true, true, true, true, true, true, true, true, true, true, true, true, true, true, true, false, false, false, false, false, false, false, false, false, false, false, false, false, false, false, false, false, false, false, false, false, false, false, false, false, false, false, false, false, false, false] rfl rfl (any_of HT_.out (by kernel_rfl)) (fun _ _ _ h => h) (Or.inl ⟨by rfl, ?_⟩) ?_ ?_; rotate_left; · (intro w'; go_simp; with_reducible rfl)
                    rotate_left; · (simp only [Act.put, sT, sZ, sS, i64_w, i32_w]; rfl)
                    refine pure_ (i := 16) (N := some 69) (v := ?_) (a' := ?_) #[true, true, true, true, true, true, true, true, true, true, true, true, true, true, true, true, true, false, false, false, false, false, false, false, false, false, false, false, false, false, false, false, false, false, false, false, false, false, false, false, false, false, false, false, false, false, false] rfl rfl (any_of HT_.out (by kernel_rfl)) (fun _ _ _ h => h) (Or.inl ⟨by rfl, ?_⟩) ?_ ?_; rotate_left; · (intro w'; go_simp; with_reducible rfl)
                    rotate_left; · (simp only [Act.put, sT, sZ, sS, i64_w, i32_w]; rfl)
                    refine take_ (i := 17) (N := some 70) (v := ?_) (a' := ?_) #[true, true, true, true, true, true, true, true, true, true, true, true, true, true, true, true, true, true, false, false, false, false, false, false, false, false, false, false, false, false, false, false, false, false, false, false, false, false, false, false, false, false, false, false, false, false, false] rfl rfl (take_ofW HT_.out HW_.out (by kernel_rfl)) (fun _ _ _ h => h) (Or.inl ⟨by rfl, ?_⟩) hHeld ?_ ?_; rotate_left
                    · rintro w' ⟨s0, s1, s2, s3, s4, s5, s6⟩
                      go_simp
                      with_reducible rfl
                    rotate_left; · (simp only [Act.put, sT, sZ, sS, i64_w, i32_w]; rfl)
                    refine take_ (i := 18) (N := some 71) (v := ?_) (a' := ?_) #[true, true, true, true, true, true, true, true, true, true, true, true, true, true, true, true, true, true, true, false, false, false, false, false, false, false, false, false, false, false, false, false, false, false, false, false, false, false, false, false, false, false, false, false, false, false, false] rfl rfl (take_ofW HT_.out HW_.out (by kernel_rfl)) (fun _ _ _ h => h) (Or.inl ⟨by rfl, ?_⟩) hHeld ?_ ?_; rotate_left
                    · rintro w' ⟨s0, s1, s2, s3, s4, s5, s6⟩
                      go_simp
                      with_reducible rfl
                    rotate_left; · (simp only [Act.put, sT, sZ, sS, i64_w, i32_w]; rfl)
                    refine take_ (i := 19) (N := some 72) (v := ?_) (a' := ?_) #[true, true, true, true, true, true, true, true, true, true, true, true, true, true, true, true, true, true, true, true, false, false, false, false, false, false, false, false, false, false, false, false, false, false, false, false, false, false, false, false, false, false, false, false, false, false, false] rfl rfl (take_ofW HT_.out HW_.out (by kernel_rfl)) (fun _ _ _ h => h) (Or.inl ⟨by rfl, ?_⟩) hHeld ?_ ?_; rotate_left
                    · rintro w' ⟨s0, s1, s2, s3, s4, s5, s6⟩
                      go_simp
                      with_reducible rfl
                    rotate_left; · (simp only [Act.put, sT, sZ, sS, i64_w, i32_w]; rfl)
                    refine take_ (i := 21) (N := some 74) (v := ?_) (a' := ?_) #[true, true, true, true, true, true, true, true, true, true, true, true, true, true, true, true, true, true, true, true, false, true, false, false, false, false, false, false, false, false, false, false, false, false, false, false, false, false, false, false, false, false, false, false, false, false, false] rfl rfl (take_ofW HT_.out HW_.out (by kernel_rfl)) (fun _ _ _ h => h) (Or.inl ⟨by rfl, ?_⟩) hHeld ?_ ?_; rotate_left
                    · rintro w' ⟨s0, s1, s2, s3, s4, s5, s6⟩
                      go_simp
                      with_reducible rfl
                    rotate_left; · (simp only [Act.put, sT, sZ, sS, i64_w, i32_w]; rfl)
                    refine take_ (i := 22) (N := some 75) (v := ?_) (a' := ?_) #[true, true, true, true, true, true, true, true, true, true, true, true, true, true, true, true, true, true, true, true, false, true, true, false, false, false, false, false, false, false, false, false, false, false, false, false, false, false, false, false, false, false, false, false, false, false, false] rfl rfl (take_ofW HT_.out HW_.out (by kernel_rfl)) (fun _ _ _ h => h) (Or.inl ⟨by rfl, ?_⟩) hHeld ?_ ?_; rotate_left
                    · rintro w' ⟨s0, s1, s2, s3, s4, s5, s6⟩
                      go_simp
                      with_reducible rfl
                    rotate_left; · (simp only [Act.put, sT, sZ, sS, i64_w, i32_w]; rfl)
                    refine take_ (i := 23) (N := some 76) (v := ?_) (a' := ?_) #[true, true, true, true, true, true, true, true, true, true, true, true, true, true, true, true, true, true, true, true, false, true, true, true, false, false, false, false, false, false, false, false, false, false, false, false, false, false, false, false, false, false, false, false, false, false, false] rfl rfl (take_ofW HT_.out HW_.out (by kernel_rfl)) (fun _ _ _ h => h) (Or.inl ⟨by rfl, ?_⟩) hHeld ?_ ?_; rotate_left
                    · rintro w' ⟨s0, s1, s2, s3, s4, s5, s6⟩
                      go_simp
                      with_reducible rfl
                    rotate_left; · (simp only [Act.put, sT, sZ, sS, i64_w, i32_w]; rfl)
                    refine one_ (i := 20) (N := some 73) #[true, true, true, true, true, true, true, true, true, true, true, true, true, true, true, true, true, true, true, true, true, true, true, true, false, false, false, false, false, false, false, false, false, false, false, false, false, false, false, false, false, false, false, false, false, false, false] rfl rfl (one_of HT_.out (by kernel_rfl)) (by decide) (fun K hK => ?_)
                    refine goes_ Try.func14 (by kernel_rfl) rfl #[.agg #[.int .i64 a0_0, .int .i64 a0_1, .slice A0_2 l0_2.length c0_2], .agg #[.int .i64 a1_0, .int .i64 a1_1], .agg #[.int .i64 a2_0, .int .i64 a2_1]] (by rfl) rfl rfl (by (try simp only [List.map_toArray, List.map_cons, List.map_nil]); first | done | rfl | (simp; done)) ?_
                    (with_reducible refine (sight_Sees.calls k _ _ _ _ _ _ _ _ _ _ _ (RO.at_ HR0_2.out HK.out) HC0_2.out Hc25.out).mono ?_)
                    rintro e_ w35 ⟨rfl, hb_⟩
                    refine ⟨_, rfl, ?_⟩
                    replace HS := Aside0.mk (HS.out.below hb_)
                    replace HK := Aside0.mk (HK.out.trans (Keep.below hb_))
                    refine hK.out _ _ ⟨(((blk_cell (SL.at_ (SL.get3 HS.out)) 0).trans rfl)), (((blk_cell (SL.at_ (SL.get3 HS.out)) 1).trans rfl)), (((blk_cell (SL.at_ (SL.get2 HS.out)) 0).trans rfl)), (((blk_cell (SL.at_ (SL.get2 HS.out)) 1).trans rfl)), (((blk_cell (SL.at_ (SL.get4 HS.out)) 0).trans rfl)), (((blk_cell (SL.at_ (SL.get4 HS.out)) 1).trans rfl)), (((blk_cell (SL.at_ (SL.get4 HS.out)) 2).trans rfl))⟩ (fun hHeld => ?_)
                    clear hK K
                    refine norm_ (a' := ?_) ?_ ?_; rotate_left
                    · show Act.put _ (some 73) _ = _
                      simp only [Act.put, sT, sZ, sS, i64_w, i32_w]
                      rfl
                    refine one_ (i := 24) (N := some 77) #[true, true, true, true, true, true, true, true, true, true, true, true, true, true, true, true, true, true, true, true, true, true, true, true, true, false, false, false, false, false, false, false, false, false, false, false, false, false, false, false, false, false, false, false, false, false, false] rfl rfl (one_of HT_.out (by kernel_rfl)) (by decide) (fun K hK => ?_)
                    refine goes_ Try.func14 (by kernel_rfl) rfl #[.agg #[.int .i64 a0_0, .int .i64 a0_1, .slice A0_2 l0_2.length c0_2], .agg #[.int .i64 a2_0, .int .i64 a2_1], .agg #[.int .i64 a1_0, .int .i64 a1_1]] (by rfl) rfl rfl (by (try simp only [List.map_toArray, List.map_cons, List.map_nil]); first | done | rfl | (simp; done)) ?_
                    (with_reducible refine (sight_Sees.calls k _ _ _ _ _ _ _ _ _ _ _ (RO.at_ HR0_2.out HK.out) HC0_2.out Hc26.out).mono ?_)
                    rintro e_ w36 ⟨rfl, hb_⟩
                    refine ⟨_, rfl, ?_⟩
                    replace HS := Aside0.mk (HS.out.below hb_)
                    replace HK := Aside0.mk (HK.out.trans (Keep.below hb_))
                    refine hK.out _ _ ⟨(((blk_cell (SL.at_ (SL.get3 HS.out)) 0).trans rfl)), (((blk_cell (SL.at_ (SL.get3 HS.out)) 1).trans rfl)), (((blk_cell (SL.at_ (SL.get2 HS.out)) 0).trans rfl)), (((blk_cell (SL.at_ (SL.get2 HS.out)) 1).trans rfl)), (((blk_cell (SL.at_ (SL.get4 HS.out)) 0).trans rfl)), (((blk_cell (SL.at_ (SL.get4 HS.out)) 1).trans rfl)), (((blk_cell (SL.at_ (SL.get4 HS.out)) 2).trans rfl))⟩ (fun hHeld => ?_)
                    clear hK K
                    refine norm_ (a' := ?_) ?_ ?_; rotate_left
                    · show Act.put _ (some 77) _ = _
                      simp only [Act.put, sT, sZ, sS, i64_w, i32_w]
                      rfl
                    refine pure_ (i := 25) (N := some 78) (v := ?_) (a' := ?_) #[true, true, true, true, true, true, true, true, true, true, true, true, true, true, true, true, true, true, true, true, true, true, true, true, true, true, false, false, false, false, false, false, false, false, false, false, false, false, false, false, false, false, false, false, false, false, false] rfl rfl (any_of HT_.out (by kernel_rfl)) (fun _ _ _ h => h) (Or.inl ⟨by rfl, ?_⟩) ?_ ?_; rotate_left; · (intro w'; go_simp; with_reducible rfl)
                    rotate_left; · (simp only [Act.put, sT, sZ, sS, i64_w, i32_w]; rfl)
                    refine pure_ (i := 26) (N := some 79) (v := ?_) (a' := ?_) #[true, true, true, true, true, true, true, true, true, true, true, true, true, true, true, true, true, true, true, true, true, true, true, true, true, true, true, false, false, false, false, false, false, false, false, false, false, false, false, false, false, false, false, false, false, false, false] rfl rfl (any_of HT_.out (by kernel_rfl)) (fun _ _ _ h => h) (Or.inl ⟨by rfl, ?_⟩) ?_ ?_; rotate_left; · (intro w'; go_simp; with_reducible rfl)
                    rotate_left; · (simp only [Act.put, sT, sZ, sS, i64_w, i32_w]; rfl)
                    refine pure_ (i := 27) (N := some 80) (v := ?_) (a' := ?_) #[true, true, true, true, true, true, true, true, true, true, true, true, true, true, true, true, true, true, true, true, true, true, true, true, true, true, true, true, false, false, false, false, false, false, false, false, false, false, false, false, false, false, false, false, false, false, false] rfl rfl (any_of HT_.out (by kernel_rfl)) (fun _ _ _ h => h) (Or.inl ⟨by rfl, ?_⟩) ?_ ?_; rotate_left; · (intro w'; go_simp; with_reducible rfl)
                    rotate_left; · (simp only [Act.put, sT, sZ, sS, i64_w, i32_w]; rfl)
                    refine pure_ (i := 28) (N := some 81) (v := ?_) (a' := ?_) #[true, true, true, true, true, true, true, true, true, true, true, true, true, true, true, true, true, true, true, true, true, true, true, true, true, true, true, true, true, false, false, false, false, false, false, false, false, false, false, false, false, false, false, false, false, false, false] rfl rfl (any_of HT_.out (by kernel_rfl)) (fun _ _ _ h => h) (Or.inl ⟨by rfl, ?_⟩) ?_ ?_; rotate_left; · (intro w'; go_simp; with_reducible rfl)
                    rotate_left; · (simp only [Act.put, sT, sZ, sS, i64_w, i32_w]; rfl)
                    refine pure_ (i := 29) (N := some 82) (v := ?_) (a' := ?_) #[true, true, true, true, true, true, true, true, true, true, true, true, true, true, true, true, true, true, true, true, true, true, true, true, true, true, true, true, true, true, false, false, false, false, false, false, false, false, false, false, false, false, false, false, false, false, false] rfl rfl (any_of HT_.out (by kernel_rfl)) (fun _ _ _ h => h) (Or.inl ⟨by rfl, ?_⟩) ?_ ?_; rotate_left; · (intro w'; go_simp; with_reducible rfl)
                    rotate_left; · (simp only [Act.put, sT, sZ, sS, i64_w, i32_w]; rfl)
                    refine take_ (i := 30) (N := some 83) (v := ?_) (a' := ?_) #[true, true, true, true, true, true, true, true, true, true, true, true, true, true, true, true, true, true, true, true, true, true, true, true, true, true, true, true, true, true, true, false, false, false, false, false, false, false, false, false, false, false, false, false, false, false, false] rfl rfl (take_ofW HT_.out HW_.out (by kernel_rfl)) (fun _ _ _ h => h) (Or.inl ⟨by rfl, ?_⟩) hHeld ?_ ?_; rotate_left
                    · rintro w' ⟨s0, s1, s2, s3, s4, s5, s6⟩
                      go_simp
                      with_reducible rfl
                    rotate_left; · (simp only [Act.put, sT, sZ, sS, i64_w, i32_w]; rfl)
                    refine take_ (i := 31) (N := some 84) (v := ?_) (a' := ?_) #[true, true, true, true, true, true, true, true, true, true, true, true, true, true, true, true, true, true, true, true, true, true, true, true, true, true, true, true, true, true, true, true, false, false, false, false, false, false, false, false, false, false, false, false, false, false, false] rfl rfl (take_ofW HT_.out HW_.out (by kernel_rfl)) (fun _ _ _ h => h) (Or.inl ⟨by rfl, ?_⟩) hHeld ?_ ?_; rotate_left
                    · rintro w' ⟨s0, s1, s2, s3, s4, s5, s6⟩
                      go_simp
                      with_reducible rfl
                    rotate_left; · (simp only [Act.put, sT, sZ, sS, i64_w, i32_w]; rfl)
                    refine one_ (i := 32) (N := some 85) #[true, true, true, true, true, true, true, true, true, true, true, true, true, true, true, true, true, true, true, true, true, true, true, true, true, true, true, true, true, true, true, true, true, false, false, false, false, false, false, false, false, false, false, false, false, false, false] rfl rfl (one_of HT_.out (by kernel_rfl)) (by decide) (fun K hK => ?_)
                    refine goes_ Try.func18 (by kernel_rfl) rfl #[.agg #[.int .i64 a1_0, .int .i64 a1_1], .agg #[.int .i64 a2_0, .int .i64 a2_1]] (by rfl) rfl rfl (by (try simp only [List.map_toArray, List.map_cons, List.map_nil]); first | done | rfl | (simp; done)) ?_
                    (with_reducible refine (grid_Steps.calls k _ _ _ _ _ _  Hc28.out).mono ?_)
                    rintro e_ w37 ⟨rfl, hb_⟩
                    refine ⟨_, rfl, ?_⟩
                    replace HS := Aside0.mk (HS.out.below hb_)
                    replace HK := Aside0.mk (HK.out.trans (Keep.below hb_))
                    refine hK.out _ _ ⟨(((blk_cell (SL.at_ (SL.get3 HS.out)) 0).trans rfl)), (((blk_cell (SL.at_ (SL.get3 HS.out)) 1).trans rfl)), (((blk_cell (SL.at_ (SL.get2 HS.out)) 0).trans rfl)), (((blk_cell (SL.at_ (SL.get2 HS.out)) 1).trans rfl)), (((blk_cell (SL.at_ (SL.get4 HS.out)) 0).trans rfl)), (((blk_cell (SL.at_ (SL.get4 HS.out)) 1).trans rfl)), (((blk_cell (SL.at_ (SL.get4 HS.out)) 2).trans rfl))⟩ (fun hHeld => ?_)
                    clear hK K
                    refine norm_ (a' := ?_) ?_ ?_; rotate_left
                    · show Act.put _ (some 85) _ = _
                      simp only [Act.put, sT, sZ, sS, i64_w, i32_w]
                      rfl
                    refine pure_ (i := 33) (N := some 86) (v := ?_) (a' := ?_) #[true, true, true, true, true, true, true, true, true, true, true, true, true, true, true, true, true, true, true, true, true, true, true, true, true, true, true, true, true, true, true, true, true, true, false, false, false, false, false, false, false, false, false, false, false, false, false] rfl rfl (any_of HT_.out (by kernel_rfl)) (fun _ _ _ h => h) (Or.inl ⟨by rfl, ?_⟩) ?_ ?_; rotate_left; · (intro w'; go_simp; with_reducible rfl)
                    rotate_left; · (simp only [Act.put, sT, sZ, sS, i64_w, i32_w]; rfl)
                    refine pure_ (i := 34) (N := some 87) (v := ?_) (a' := ?_) #[true, true, true, true, true, true, true, true, true, true, true, true, true, true, true, true, true, true, true, true, true, true, true, true, true, true, true, true, true, true, true, true, true, true, true, false, false, false, false, false, false, false, false, false, false, false, false] rfl rfl (any_of HT_.out (by kernel_rfl)) (fun _ _ _ h => h) (Or.inl ⟨by rfl, ?_⟩) ?_ ?_; rotate_left; · (intro w'; go_simp; with_reducible rfl)
                    rotate_left; · (simp only [Act.put, sT, sZ, sS, i64_w, i32_w]; rfl)
                    refine pure_ (i := 35) (N := some 88) (v := ?_) (a' := ?_) #[true, true, true, true, true, true, true, true, true, true, true, true, true, true, true, true, true, true, true, true, true, true, true, true, true, true, true, true, true, true, true, true, true, true, true, true, false, false, false, false, false, false, false, false, false, false, false] rfl rfl (any_of HT_.out (by kernel_rfl)) (fun _ _ _ h => h) (Or.inl ⟨by rfl, ?_⟩) ?_ ?_; rotate_left; · (intro w'; go_simp; with_reducible rfl)
                    rotate_left; · (simp only [Act.put, sT, sZ, sS, i64_w, i32_w]; rfl)
                    refine pure_ (i := 36) (N := some 89) (v := ?_) (a' := ?_) #[true, true, true, true, true, true, true, true, true, true, true, true, true, true, true, true, true, true, true, true, true, true, true, true, true, true, true, true, true, true, true, true, true, true, true, true, true, false, false, false, false, false, false, false, false, false, false] rfl rfl (any_of HT_.out (by kernel_rfl)) (fun _ _ _ h => h) (Or.inl ⟨by rfl, ?_⟩) ?_ ?_; rotate_left; · (intro w'; go_simp; with_reducible rfl)
                    rotate_left; · (simp only [Act.put, sT, sZ, sS, i64_w, i32_w]; rfl)
                    refine pure_ (i := 37) (N := some 90) (v := ?_) (a' := ?_) #[true, true, true, true, true, true, true, true, true, true, true, true, true, true, true, true, true, true, true, true, true, true, true, true, true, true, true, true, true, true, true, true, true, true, true, true, true, true, false, false, false, false, false, false, false, false, false] rfl rfl (any_of HT_.out (by kernel_rfl)) (fun _ _ _ h => h) (Or.inl ⟨by rfl, ?_⟩) ?_ ?_; rotate_left; · (intro w'; go_simp; with_reducible rfl)
                    rotate_left; · (simp only [Act.put, sT, sZ, sS, i64_w, i32_w]; rfl)
                    refine pure_ (i := 38) (N := some 91) (v := ?_) (a' := ?_) #[true, true, true, true, true, true, true, true, true, true, true, true, true, true, true, true, true, true, true, true, true, true, true, true, true, true, true, true, true, true, true, true, true, true, true, true, true, true, true, false, false, false, false, false, false, false, false] rfl rfl (any_of HT_.out (by kernel_rfl)) (fun _ _ _ h => h) (Or.inl ⟨by rfl, ?_⟩) ?_ ?_; rotate_left; · (intro w'; go_simp; with_reducible rfl)
                    rotate_left; · (simp only [Act.put, sT, sZ, sS, i64_w, i32_w]; rfl)
                    refine take_ (i := 39) (N := some 92) (v := ?_) (a' := ?_) #[true, true, true, true, true, true, true, true, true, true, true, true, true, true, true, true, true, true, true, true, true, true, true, true, true, true, true, true, true, true, true, true, true, true, true, true, true, true, true, true, false, false, false, false, false, false, false] rfl rfl (take_ofW HT_.out HW_.out (by kernel_rfl)) (fun _ _ _ h => h) (Or.inl ⟨by rfl, ?_⟩) hHeld ?_ ?_; rotate_left
                    · rintro w' ⟨s0, s1, s2, s3, s4, s5, s6⟩
                      go_simp
                      with_reducible rfl
                    rotate_left; · (simp only [Act.put, sT, sZ, sS, i64_w, i32_w]; rfl)
                    refine take_ (i := 40) (N := some 93) (v := ?_) (a' := ?_) #[true, true, true, true, true, true, true, true, true, true, true, true, true, true, true, true, true, true, true, true, true, true, true, true, true, true, true, true, true, true, true, true, true, true, true, true, true, true, true, true, true, false, false, false, false, false, false] rfl rfl (take_ofW HT_.out HW_.out (by kernel_rfl)) (fun _ _ _ h => h) (Or.inl ⟨by rfl, ?_⟩) hHeld ?_ ?_; rotate_left
                    · rintro w' ⟨s0, s1, s2, s3, s4, s5, s6⟩
                      go_simp
                      with_reducible rfl
                    rotate_left; · (simp only [Act.put, sT, sZ, sS, i64_w, i32_w]; rfl)
                    refine one_ (i := 41) (N := some 94) #[true, true, true, true, true, true, true, true, true, true, true, true, true, true, true, true, true, true, true, true, true, true, true, true, true, true, true, true, true, true, true, true, true, true, true, true, true, true, true, true, true, true, false, false, false, false, false] rfl rfl (one_of HT_.out (by kernel_rfl)) (by decide) (fun K hK => ?_)
                    refine goes_ Try.func18 (by kernel_rfl) rfl #[.agg #[.int .i64 a1_0, .int .i64 a1_1], .agg #[.int .i64 a2_0, .int .i64 a2_1]] (by rfl) rfl rfl (by (try simp only [List.map_toArray, List.map_cons, List.map_nil]); first | done | rfl | (simp; done)) ?_
                    (with_reducible refine (grid_Steps.calls k _ _ _ _ _ _  Hc30.out).mono ?_)
                    rintro e_ w38 ⟨rfl, hb_⟩
                    refine ⟨_, rfl, ?_⟩
                    replace HS := Aside0.mk (HS.out.below hb_)
                    replace HK := Aside0.mk (HK.out.trans (Keep.below hb_))
                    refine hK.out _ _ ⟨(((blk_cell (SL.at_ (SL.get3 HS.out)) 0).trans rfl)), (((blk_cell (SL.at_ (SL.get3 HS.out)) 1).trans rfl)), (((blk_cell (SL.at_ (SL.get2 HS.out)) 0).trans rfl)), (((blk_cell (SL.at_ (SL.get2 HS.out)) 1).trans rfl)), (((blk_cell (SL.at_ (SL.get4 HS.out)) 0).trans rfl)), (((blk_cell (SL.at_ (SL.get4 HS.out)) 1).trans rfl)), (((blk_cell (SL.at_ (SL.get4 HS.out)) 2).trans rfl))⟩ (fun hHeld => ?_)
                    clear hK K
                    refine norm_ (a' := ?_) ?_ ?_; rotate_left
                    · show Act.put _ (some 94) _ = _
                      simp only [Act.put, sT, sZ, sS, i64_w, i32_w]
                      rfl
                    refine pure_ (i := 42) (N := some 95) (v := ?_) (a' := ?_) #[true, true, true, true, true, true, true, true, true, true, true, true, true, true, true, true, true, true, true, true, true, true, true, true, true, true, true, true, true, true, true, true, true, true, true, true, true, true, true, true, true, true, true, false, false, false, false] rfl rfl (any_of HT_.out (by kernel_rfl)) (fun _ _ _ h => h) (Or.inl ⟨by rfl, ?_⟩) ?_ ?_; rotate_left; · (intro w'; go_simp; with_reducible rfl)
                    rotate_left; · (simp only [Act.put, sT, sZ, sS, i64_w, i32_w]; rfl)
                    refine pure_ (i := 43) (N := some 96) (v := ?_) (a' := ?_) #[true, true, true, true, true, true, true, true, true, true, true, true, true, true, true, true, true, true, true, true, true, true, true, true, true, true, true, true, true, true, true, true, true, true, true, true, true, true, true, true, true, true, true, true, false, false, false] rfl rfl (any_of HT_.out (by kernel_rfl)) (fun _ _ _ h => h) (Or.inl ⟨by rfl, ?_⟩) ?_ ?_; rotate_left; · (intro w'; go_simp; with_reducible rfl)
                    rotate_left; · (simp only [Act.put, sT, sZ, sS, i64_w, i32_w]; rfl)
                    refine pure_ (i := 44) (N := some 97) (v := ?_) (a' := ?_) #[true, true, true, true, true, true, true, true, true, true, true, true, true, true, true, true, true, true, true, true, true, true, true, true, true, true, true, true, true, true, true, true, true, true, true, true, true, true, true, true, true, true, true, true, true, false, false] rfl rfl (any_of HT_.out (by kernel_rfl)) (fun _ _ _ h => h) (Or.inl ⟨by rfl, ?_⟩) ?_ ?_; rotate_left; · (intro w'; go_simp; with_reducible rfl)
                    rotate_left; · (simp only [Act.put, sT, sZ, sS, i64_w, i32_w]; rfl)
                    refine pure_ (i := 45) (N := some 98) (v := ?_) (a' := ?_) #[true, true, true, true, true, true, true, true, true, true, true, true, true, true, true, true, true, true, true, true, true, true, true, true, true, true, true, true, true, true, true, true, true, true, true, true, true, true, true, true, true, true, true, true, true, true, false] rfl rfl (any_of HT_.out (by kernel_rfl)) (fun _ _ _ h => h) (Or.inl ⟨by rfl, ?_⟩) ?_ ?_; rotate_left; · (intro w'; go_simp; with_reducible rfl)
                    rotate_left; · (simp only [Act.put, sT, sZ, sS, i64_w, i32_w]; rfl)
                    refine pure_ (i := 46) (N := some 6) (v := ?_) (a' := ?_) #[true, true, true, true, true, true, true, true, true, true, true, true, true, true, true, true, true, true, true, true, true, true, true, true, true, true, true, true, true, true, true, true, true, true, true, true, true, true, true, true, true, true, true, true, true, true, true] rfl rfl (any_of HT_.out (by kernel_rfl)) (fun _ _ _ h => h) (Or.inl ⟨by rfl, ?_⟩) ?_ ?_; rotate_left; · (intro w'; go_simp; with_reducible rfl)
                    rotate_left; · (simp only [Act.put, sT, sZ, sS, i64_w, i32_w]; rfl)
                    refine done_ (done_of HT_.out (by kernel_rfl)) ?_
                    try go_wp2
                    go_ret
                    replace HS := Aside0.mk (SL.tail (SL.tail (SL.tail (SL.tail (SL.tail HS.out)))))
                    unfold barrowlaw07_SightAlike.Post
                    exact ⟨by first | rfl | (simp; done) | (simp [*]; done), HS.out, HK.out⟩
                  · rw [if_neg c29] at H
                    have c29b0 : decide ((wrap64 (t582 + 1)) ≤ (t573.length : Int)) = false := decide_eq_false c29
                    clear c29
                    exact absurd H (by simp)
                · rw [if_neg c27] at H
                  have c27b0 : (t580 == t581) = false := by simpa using c27
                  (try (have c27b1 : decide (t580 = t581) = false := by simpa using c27))
                  (try (have c27b2 : (t580 == t581) = false := by simpa using c27))
                  (try (have c27b3 : ¬ (t580 = t581) := by simpa using c27))
                  clear c27
                  exact absurd H (by simp)
              · replace c24 := Bool.eq_false_iff.mpr c24
                subst c24
                rw [if_neg (show ¬ (false = true) by decide)] at H
                exact absurd H (by simp)
            · replace c22 := Bool.eq_false_iff.mpr c22
              subst c22
              rw [if_neg (show ¬ (false = true) by decide)] at H
              exact absurd H (by simp)
          · replace c20 := Bool.eq_false_iff.mpr c20
            subst c20
            rw [if_neg (show ¬ (false = true) by decide)] at H
            exact absurd H (by simp)
        · replace c18 := Bool.eq_false_iff.mpr c18
          subst c18
          rw [if_neg (show ¬ (false = true) by decide)] at H
          exact absurd H (by simp)
      · replace c17 := Bool.eq_false_iff.mpr c17
        subst c17
        rw [if_neg (show ¬ (false = true) by decide)] at H
        by_cases c39 : t571 = true
        · subst c39
          rw [if_pos rfl] at H
          by_cases c40 : (t573.length : Int) = 0
          · rw [if_pos c40] at H
            have c40b0 : ((t573.length : Int) == 0) = true := beq_iff_eq.mpr c40
            have c40b1 : ((t573.length : Int) != 0) = false := bne_eq_false_iff_eq.mpr c40
            clear c40
            by_cases c41 : (t574.length : Int) = 0
            · rw [if_pos c41] at H
              have c41b0 : ((t574.length : Int) == 0) = true := beq_iff_eq.mpr c41
              have c41b1 : ((t574.length : Int) != 0) = false := bne_eq_false_iff_eq.mpr c41
              clear c41
              replace H := Option.bind_eq_some_iff.1 H
              obtain ⟨t584, Hc420, H⟩ := H
              try dsimp only at H
              have Hc42 := Aside0.mk Hc420
              clear Hc420
              by_cases c43 : t584 = true
              · subst c43
                rw [if_pos rfl] at H
                exact absurd H (by simp)
              · replace c43 := Bool.eq_false_iff.mpr c43
                subst c43
                rw [if_neg (show ¬ (false = true) by decide)] at H
                obtain rfl := Option.some.inj H
                have hb_ := SL.at_ (SL.get2 HS.out)
                have hz3000088_0_0 := ((blk_cell hb_ 0).trans rfl : _ = some (.int .i64 a2_0))
                have hz3000088_1_0 := ((blk_cell hb_ 1).trans rfl : _ = some (.int .i64 a2_1))
                clear hb_
                have hb_ := SL.at_ (SL.get4 HS.out)
                have hz3000086_0_0 := ((blk_cell hb_ 0).trans rfl : _ = some (.int .i64 a0_0))
                have hz3000086_1_0 := ((blk_cell hb_ 1).trans rfl : _ = some (.int .i64 a0_1))
                have hz3000086_2_0 := ((blk_cell hb_ 2).trans rfl : _ = some (.slice A0_2 l0_2.length c0_2))
                clear hb_
                refine hG_.out ?_
                try simp only [c40b0, c40b1, c41b0, c41b1]
                go_wp2_with (first | ((with_reducible refine gate_dst (N := 32) rfl ?_); (try (refine gate_guard (by rfl) ?_; dsimp only)); refine goesL_ (some 32) rfl rfl Try.func16 (by kernel_rfl) rfl #[.agg #[.int .i64 a0_0, .int .i64 a0_1, .slice A0_2 l0_2.length c0_2], .agg #[.int .i64 a2_0, .int .i64 a2_1]] rfl (by (try simp only [List.map_toArray, List.map_cons, List.map_nil]); first | done | rfl | (simp; done)) ?_; (with_reducible refine (grid_In.calls _ _ _ _ _ _ _ _ _ (RO.at_ HR0_2.out HK.out) HC0_2.out Hc16.out).mono ?_); rintro e_ w44 ⟨rfl, hb_⟩; refine ⟨_, rfl, ?_⟩; replace HS := Aside0.mk (HS.out.below hb_); replace HK := Aside0.mk (HK.out.trans (Keep.below hb_)); (try clear hz3000086_0_0 hz3000086_1_0 hz3000086_2_0); (try clear hz3000088_0_0 hz3000088_1_0); have hb_ := SL.at_ (SL.get2 HS.out); have hz3000088_0_1 := ((blk_cell hb_ 0).trans rfl : _ = some (.int .i64 a2_0)); have hz3000088_1_1 := ((blk_cell hb_ 1).trans rfl : _ = some (.int .i64 a2_1)); clear hb_; have hb_ := SL.at_ (SL.get3 HS.out); have hz3000087_0_1 := ((blk_cell hb_ 0).trans rfl : _ = some (.int .i64 a1_0)); have hz3000087_1_1 := ((blk_cell hb_ 1).trans rfl : _ = some (.int .i64 a1_1)); clear hb_; have hb_ := SL.at_ (SL.get4 HS.out); have hz3000086_0_1 := ((blk_cell hb_ 0).trans rfl : _ = some (.int .i64 a0_0)); have hz3000086_1_1 := ((blk_cell hb_ 1).trans rfl : _ = some (.int .i64 a0_1)); have hz3000086_2_1 := ((blk_cell hb_ 2).trans rfl : _ = some (.slice A0_2 l0_2.length c0_2)); clear hb_) | ((with_reducible refine gate_dst (N := 50) rfl ?_); (try (refine gate_guard (by rfl) ?_; dsimp only)); refine goesL_ (some 50) rfl rfl Try.func14 (by kernel_rfl) rfl #[.agg #[.int .i64 a0_0, .int .i64 a0_1, .slice A0_2 l0_2.length c0_2], .agg #[.int .i64 a1_0, .int .i64 a1_1], .agg #[.int .i64 a2_0, .int .i64 a2_1]] rfl (by (try simp only [List.map_toArray, List.map_cons, List.map_nil]); first | done | rfl | (simp; done)) ?_; (with_reducible refine (sight_Sees.calls k _ _ _ _ _ _ _ _ _ _ _ (RO.at_ HR0_2.out HK.out) HC0_2.out Hc42.out).mono ?_); rintro e_ w45 ⟨rfl, hb_⟩; refine ⟨_, rfl, ?_⟩; replace HS := Aside0.mk (HS.out.below hb_); replace HK := Aside0.mk (HK.out.trans (Keep.below hb_)); (try clear hz3000086_0_1 hz3000086_1_1 hz3000086_2_1); (try clear hz3000087_0_1 hz3000087_1_1); (try clear hz3000088_0_1 hz3000088_1_1)))
                go_ret
                replace HS := Aside0.mk (SL.tail (SL.tail (SL.tail (SL.tail (SL.tail HS.out)))))
                unfold barrowlaw07_SightAlike.Post
                exact ⟨by first | rfl | (simp; done) | (simp [*]; done), HS.out, HK.out⟩
            · rw [if_neg c41] at H
              exact absurd H (by simp)
          · rw [if_neg c40] at H
            exact absurd H (by simp)
        · replace c39 := Bool.eq_false_iff.mpr c39
          subst c39
          rw [if_neg (show ¬ (false = true) by decide)] at H
          exact absurd H (by simp)
    · replace c15 := Bool.eq_false_iff.mpr c15
      subst c15
      rw [if_neg (show ¬ (false = true) by decide)] at H
      by_cases c46 : t571 = true
      · subst c46
        rw [if_pos rfl] at H
        by_cases c47 : (t573.length : Int) = 0
        · rw [if_pos c47] at H
          have c47b0 : ((t573.length : Int) == 0) = true := beq_iff_eq.mpr c47
          have c47b1 : ((t573.length : Int) != 0) = false := bne_eq_false_iff_eq.mpr c47
          clear c47
          by_cases c48 : (t574.length : Int) = 0
          · rw [if_pos c48] at H
            have c48b0 : ((t574.length : Int) == 0) = true := beq_iff_eq.mpr c48
            have c48b1 : ((t574.length : Int) != 0) = false := bne_eq_false_iff_eq.mpr c48
            clear c48
            replace H := Option.bind_eq_some_iff.1 H
            obtain ⟨t585, Hc490, H⟩ := H
            try dsimp only at H
            have Hc49 := Aside0.mk Hc490
            clear Hc490
            by_cases c50 : t585 = true
            · subst c50
              rw [if_pos rfl] at H
              exact absurd H (by simp)
            · replace c50 := Bool.eq_false_iff.mpr c50
              subst c50
              rw [if_neg (show ¬ (false = true) by decide)] at H
              obtain rfl := Option.some.inj H
              have hb_ := SL.at_ (SL.get2 HS.out)
              have hz3000088_0_0 := ((blk_cell hb_ 0).trans rfl : _ = some (.int .i64 a2_0))
              have hz3000088_1_0 := ((blk_cell hb_ 1).trans rfl : _ = some (.int .i64 a2_1))
              clear hb_
              have hb_ := SL.at_ (SL.get3 HS.out)
              have hz3000087_0_0 := ((blk_cell hb_ 0).trans rfl : _ = some (.int .i64 a1_0))
              have hz3000087_1_0 := ((blk_cell hb_ 1).trans rfl : _ = some (.int .i64 a1_1))
              clear hb_
              have hb_ := SL.at_ (SL.get4 HS.out)
              have hz3000086_0_0 := ((blk_cell hb_ 0).trans rfl : _ = some (.int .i64 a0_0))
              have hz3000086_1_0 := ((blk_cell hb_ 1).trans rfl : _ = some (.int .i64 a0_1))
              have hz3000086_2_0 := ((blk_cell hb_ 2).trans rfl : _ = some (.slice A0_2 l0_2.length c0_2))
              clear hb_
              refine hG_.out ?_
              try simp only [c47b0, c47b1, c48b0, c48b1]
              go_wp2_with (first | ((with_reducible refine gate_dst (N := 50) rfl ?_); (try (refine gate_guard (by rfl) ?_; dsimp only)); refine goesL_ (some 50) rfl rfl Try.func14 (by kernel_rfl) rfl #[.agg #[.int .i64 a0_0, .int .i64 a0_1, .slice A0_2 l0_2.length c0_2], .agg #[.int .i64 a1_0, .int .i64 a1_1], .agg #[.int .i64 a2_0, .int .i64 a2_1]] rfl (by (try simp only [List.map_toArray, List.map_cons, List.map_nil]); first | done | rfl | (simp; done)) ?_; (with_reducible refine (sight_Sees.calls k _ _ _ _ _ _ _ _ _ _ _ (RO.at_ HR0_2.out HK.out) HC0_2.out Hc49.out).mono ?_); rintro e_ w51 ⟨rfl, hb_⟩; refine ⟨_, rfl, ?_⟩; replace HS := Aside0.mk (HS.out.below hb_); replace HK := Aside0.mk (HK.out.trans (Keep.below hb_)); (try clear hz3000086_0_0 hz3000086_1_0 hz3000086_2_0); (try clear hz3000087_0_0 hz3000087_1_0); (try clear hz3000088_0_0 hz3000088_1_0)))
              go_ret
              replace HS := Aside0.mk (SL.tail (SL.tail (SL.tail (SL.tail (SL.tail HS.out)))))
              unfold barrowlaw07_SightAlike.Post
              exact ⟨by first | rfl | (simp; done) | (simp [*]; done), HS.out, HK.out⟩
          · rw [if_neg c48] at H
            exact absurd H (by simp)
        · rw [if_neg c47] at H
          exact absurd H (by simp)
      · replace c46 := Bool.eq_false_iff.mpr c46
        subst c46
        rw [if_neg (show ¬ (false = true) by decide)] at H
        exact absurd H (by simp)
  · replace c8 := Bool.eq_false_iff.mpr c8
    subst c8
    rw [if_neg (show ¬ (false = true) by decide)] at H
    obtain rfl := Option.some.inj H
    refine hG_.out ?_
    go_wp2
    go_ret
    replace HS := Aside0.mk (SL.tail (SL.tail (SL.tail HS.out)))
    unfold barrowlaw07_SightAlike.Post
    exact ⟨by first | rfl | (simp; done) | (simp [*]; done), HS.out, HK.out⟩
theorem barrowlaw07_SightAlike.calls (k : Nat) (a0_0 : Int) (a0_1 : Int) (A0_2 : Option Addr) (c0_2 : Nat) (l0_2 : List Bool) (a1_0 : Int) (a1_1 : Int) (a2_0 : Int) (a2_1 : Int) (r : Bool) (w : World) (hr0_2 : Kd.C Kd.bool w A0_2 l0_2.length l0_2) (hc0_2 : l0_2.length ≤ c0_2) (h : barrowlaw07_SightAlike.f k a0_0 a0_1 l0_2 a1_0 a1_1 a2_0 a2_1 = some r) :
    Calls Try.prog 4 #[.agg #[.int .i64 a0_0, .int .i64 a0_1, .slice A0_2 l0_2.length c0_2], .agg #[.int .i64 a1_0, .int .i64 a1_1], .agg #[.int .i64 a2_0, .int .i64 a2_1]] w fun e w' => e = .returned (.bool r) ∧ Below w.heap.size w w' :=
  (barrowlaw07_SightAlike.slcalls k a0_0 a0_1 A0_2 c0_2 l0_2 a1_0 a1_1 a2_0 a2_1 r (news w) [] w (fresh_news w) trivial (RO.top hr0_2) hc0_2 h).mono fun _ _ h => ⟨h.1, h.2.2.to_below⟩

/-- THE ONE PURE STATEMENT of barrowlaw07_SightAlike. -/
def barrowlaw07_SightAlike.Pure : Prop := ∀ (a0_0 : Int) (a0_1 : Int) (l0_2 : List Bool) (a1_0 : Int) (a1_1 : Int) (a2_0 : Int) (a2_1 : Int), ((Lit.int .i64 a0_0).wf = true) → ((Lit.int .i64 a0_1).wf = true) → (l0_2.length ≤ maxLen ∧ l0_2.length * 1 ≤ 140737488351232 ∧ ∀ x586_ ∈ l0_2, True) → ((Lit.int .i64 a1_0).wf = true) → ((Lit.int .i64 a1_1).wf = true) → ((Lit.int .i64 a2_0).wf = true) → ((Lit.int .i64 a2_1).wf = true) → ∃ k, barrowlaw07_SightAlike.f k a0_0 a0_1 l0_2 a1_0 a1_1 a2_0 a2_1 = some true

end Go.Proofs.Ytljmecjciifceaa.XSG
