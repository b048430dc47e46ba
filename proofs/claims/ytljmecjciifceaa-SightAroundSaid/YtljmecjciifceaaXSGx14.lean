-- Written by xprint.py (a program of this session) for this claim
import Derived.Test.YtljmecjciifceaaXSGx0
import Derived.Test.YtljmecjciifceaaXSGx2
import Derived.Test.YtljmecjciifceaaXSGx3
import Derived.Test.YtljmecjciifceaaXSGx8
import Derived.Test.YtljmecjciifceaaXSGx13
namespace Go.Proofs.Ytljmecjciifceaa.XSG
open Go.Proofs.YtljmecjciifceaaV Go.Proofs.YtljmecjciifceaaS
open Go.RowKit Go.Proofs.YtljmecjciifceaaW.PrintWords Go.Proofs.YtljmecjciifceaaW.PrintLast Go.Proofs.YtljmecjciifceaaW.PrintMore
attribute [local go_sem] max2_int min2_int max_two min_two max_three min_three max_four min_four   -- for this text's walks alone
set_option linter.unusedVariables false
set_option linter.unusedSimpArgs false

/-! ### grid_Around_2_i1: function 53 -/
def grid_Around_2_i1.f (k : Nat) (a0 : Int) (a1 : Int) (s0_0 : Int) : Option (Int × Int) := (sat_Add.f k a0 s0_0).bind fun t682 => ((sat_Add.f k t682 1).bind fun t683 => ((some (mn a1 t683 : Int)).bind fun j684 => (some (j684, s0_0))))
theorem grid_Around_2_i1.mono : ∀ a0 a1 a2 k, LeO (grid_Around_2_i1.f k a0 a1 a2) (grid_Around_2_i1.f (k + 1) a0 a1 a2) := by
  intro a0 a1 a2 k
  unfold grid_Around_2_i1.f
  repeat' first
      | (with_reducible exact sat_Add.mono _ _ _)
      | (with_reducible exact LeO.refl _)
      | (with_reducible exact LeO.none _)
      | (with_reducible refine LeO.ite ?_ ?_)
      | (with_reducible refine LeO.bind ?_ (fun _ => ?_))
      | exact sat_Add.mono _ _ _
      | exact LeO.none _
      | refine LeO.ite ?_ ?_
      | refine LeO.bind ?_ (fun _ => ?_)
def grid_Around_2_i1.Post (b0 : Nat) (r1 : Int) (r2 : Int) (S : Nat → Prop) (L : List Asr) (w : World) (e : Ending) (w' : World) : Prop := e = .returned (.int .i64 r1) ∧ SL (cells b0 3 [.int .i64 r2].toArray :: L) w' S ∧ Keep S w w'
set_option maxHeartbeats 8000000 in
set_option maxRecDepth 100000 in
theorem grid_Around_2_i1.slcalls (k : Nat) (a0 : Int) (a1 : Int) (b0 : Nat) (s0_0 : Int) (r1 : Int) (r2 : Int) (S : Nat → Prop) (L : List Asr) (w : World) (hf : Fresh S w) (hs : SL (cells b0 3 [.int .i64 s0_0].toArray :: L) w S) (h : grid_Around_2_i1.f k a0 a1 s0_0 = some (r1, r2)) :
    Calls Try.prog 53 #[.int .i64 a0, .int .i64 a1, .pointer (some ⟨b0, 0, none⟩)] w (grid_Around_2_i1.Post b0 r1 r2 S L w) := by
  have HF := Aside0.mk hf
  have HS := Aside0.mk hs
  have HK := Aside0.mk (Keep.refl S w)
  clear hf hs
  have H : ((sat_Add.f k a0 s0_0).bind fun t682 => ((sat_Add.f k t682 1).bind fun t683 => ((some (mn a1 t683 : Int)).bind fun j684 => (some (j684, s0_0))))) = some (r1, r2) := h
  clear h
  replace H := Option.bind_eq_some_iff.1 H
  obtain ⟨t682, Hc10, H⟩ := H
  try dsimp only at H
  have Hc1 := Aside0.mk Hc10
  clear Hc10
  replace H := Option.bind_eq_some_iff.1 H
  obtain ⟨t683, Hc20, H⟩ := H
  try dsimp only at H
  have Hc2 := Aside0.mk Hc20
  clear Hc20
  replace H := Option.bind_eq_some_iff.1 H
  obtain ⟨j684, hj6840, H⟩ := H
  try dsimp only at H
  have hj684 := Option.some.inj hj6840
  clear hj6840
  have hj684_ : (if t683 < a1 then t683 else a1) = j684 := hj684
  simp only [Option.some.injEq, Prod.mk.injEq] at H
  obtain ⟨rfl, rfl⟩ := H
  have hb_ := SL.at_ HS.out
  have hz0_0_0 := ((blk_cell hb_ 0).trans rfl : _ = some (.int .i64 s0_0))
  clear hb_
  go_enter Try.func53, Try.ntmps53
  go_wp2_with (first | ((with_reducible refine gate_dst (N := 9) rfl ?_); refine goesL_ (some 9) rfl rfl Try.func43 (by kernel_rfl) rfl #[.int .i64 a0, .int .i64 s0_0] rfl (by (try simp only [List.map_toArray, List.map_cons, List.map_nil]); first | done | rfl | (simp; done)) ?_; (with_reducible refine (sat_Add.calls k _ _ _ _  Hc1.out).mono ?_); rintro e_ w3 ⟨rfl, hb_⟩; refine ⟨_, rfl, ?_⟩; replace hb_ := Drawn0.below hb_; replace HS := Aside0.mk (HS.out.below hb_); replace HK := Aside0.mk (HK.out.trans (Keep.below hb_)); (try clear hz0_0_0)) | ((with_reducible refine gate_dst (N := 10) rfl ?_); refine goesL_ (some 10) rfl rfl Try.func43 (by kernel_rfl) rfl #[.int .i64 t682, .int .i64 1] rfl (by (try simp only [List.map_toArray, List.map_cons, List.map_nil]); first | done | rfl | (simp; done)) ?_; (with_reducible refine (sat_Add.calls k _ _ _ _  Hc2.out).mono ?_); rintro e_ w4 ⟨rfl, hb_⟩; refine ⟨_, rfl, ?_⟩; replace hb_ := Drawn0.below hb_; replace HS := Aside0.mk (HS.out.below hb_); replace HK := Aside0.mk (HK.out.trans (Keep.below hb_))))
  go_ret
  unfold grid_Around_2_i1.Post
  exact ⟨by first | rfl | (simp; done) | (simp [*]; done), HS.out, HK.out⟩

/-! ### grid_Around: function 38 -/
mutual
def grid_Around.l0 : Nat → Int → Int → (List Bool) → Int → Int → (List (S26)) → Int → Int → Option ((List (S26)))
  | 0, _, _, _, _, _, _, _, _ => none
  | k + 1, a0_0, a0_1, l0_2, a1_0, a1_1, x7_0, x10_0, x3000104_0_0 => (grid_Around_2_i1.f k a1_1 a0_1 x3000104_0_0).bind fun bt705 => (if x10_0 < bt705.1 then ((grid_Around_1_i1.f k a1_0 bt705.2).bind fun bt707 => (grid_Around.l1 k a0_0 a0_1 l0_2 a1_0 a1_1 x10_0 x7_0 bt707.1 bt707.2)) else (some x7_0))
def grid_Around.l1 : Nat → Int → Int → (List Bool) → Int → Int → Int → (List (S26)) → Int → Int → Option ((List (S26)))
  | 0, _, _, _, _, _, _, _, _, _ => none
  | k + 1, a0_0, a0_1, l0_2, a1_0, a1_1, x10_0, x7_1, x11_1, x3000104_0_1 => (grid_Around_2_i1.f k a1_0 a0_0 x3000104_0_1).bind fun bt709 => (if x11_1 < bt709.1 then ((grid_Near.f k a1_0 a1_1 x11_1 x10_0 bt709.2).bind fun t711 => (if t711 = true then ((grid_wall.f a0_0 a0_1 l0_2 x11_1 x10_0).bind fun t712 => (if t712 = true then (grid_Around.l1 k a0_0 a0_1 l0_2 a1_0 a1_1 x10_0 x7_1 (wrap64 (x11_1 + 1)) bt709.2) else ((some (([(⟨x11_1, x10_0⟩ : S26)] : List (S26)) : List (S26))).bind fun y713 => (if x7_1.length + y713.length < 8796093022208 then ((some (x7_1 ++ y713 : List (S26))).bind fun y714 => (grid_Around.l1 k a0_0 a0_1 l0_2 a1_0 a1_1 x10_0 y714 (wrap64 (x11_1 + 1)) bt709.2)) else (none))))) else (grid_Around.l1 k a0_0 a0_1 l0_2 a1_0 a1_1 x10_0 x7_1 (wrap64 (x11_1 + 1)) bt709.2))) else (grid_Around.l0 k a0_0 a0_1 l0_2 a1_0 a1_1 x7_1 (wrap64 (x10_0 + 1)) bt709.2))
end
def grid_Around.f (k : Nat) (a0_0 : Int) (a0_1 : Int) (l0_2 : List Bool) (a1_0 : Int) (a1_1 : Int) (a2 : Int) : Option ((List (S26))) := (grid_Right.f a0_0 a0_1 l0_2).bind fun t677 => (if t677 = true then (if a2 > 256 then (some ([] : List (S26))) else (if a2 < 0 then (some ([] : List (S26))) else ((grid_Around_1_i1.f k a1_1 a2).bind fun bt680 => (grid_Around.l0 k a0_0 a0_1 l0_2 a1_0 a1_1 ([] : List (S26)) bt680.1 bt680.2)))) else (some ([] : List (S26))))
theorem grid_Around.mono_l : ∀ k, (∀ y0 y1 y2 y3 y4 y5 y6 y7, LeO (grid_Around.l0 k y0 y1 y2 y3 y4 y5 y6 y7) (grid_Around.l0 (k + 1) y0 y1 y2 y3 y4 y5 y6 y7)) ∧ (∀ y0 y1 y2 y3 y4 y5 y6 y7 y8, LeO (grid_Around.l1 k y0 y1 y2 y3 y4 y5 y6 y7 y8) (grid_Around.l1 (k + 1) y0 y1 y2 y3 y4 y5 y6 y7 y8))
  | 0 => ⟨fun _ _ _ _ _ _ _ _ r h => by simp [grid_Around.l0] at h, fun _ _ _ _ _ _ _ _ _ r h => by simp [grid_Around.l1] at h⟩
  | k + 1 => by
    obtain ⟨ih0, ih1⟩ := grid_Around.mono_l k
    refine ⟨?_, ?_⟩
    · intro y0 y1 y2 y3 y4 y5 y6 y7
      unfold grid_Around.l0
      repeat' first
      | (with_reducible exact ih0 _ _ _ _ _ _ _ _)
      | (with_reducible exact ih1 _ _ _ _ _ _ _ _ _)
      | (with_reducible exact grid_Around_1_i1.mono _ _ _)
      | (with_reducible exact grid_Around_2_i1.mono _ _ _ _)
      | (with_reducible exact grid_Near.mono _ _ _ _ _ _)
      | (with_reducible exact LeO.refl _)
      | (with_reducible exact LeO.none _)
      | (with_reducible refine LeO.ite ?_ ?_)
      | (with_reducible refine LeO.bind ?_ (fun _ => ?_))
      | exact ih0 _ _ _ _ _ _ _ _
      | exact ih1 _ _ _ _ _ _ _ _ _
      | exact grid_Around_1_i1.mono _ _ _
      | exact grid_Around_2_i1.mono _ _ _ _
      | exact grid_Near.mono _ _ _ _ _ _
      | exact LeO.none _
      | refine LeO.ite ?_ ?_
      | refine LeO.bind ?_ (fun _ => ?_)
    · intro y0 y1 y2 y3 y4 y5 y6 y7 y8
      unfold grid_Around.l1
      repeat' first
      | (with_reducible exact ih0 _ _ _ _ _ _ _ _)
      | (with_reducible exact ih1 _ _ _ _ _ _ _ _ _)
      | (with_reducible exact grid_Around_1_i1.mono _ _ _)
      | (with_reducible exact grid_Around_2_i1.mono _ _ _ _)
      | (with_reducible exact grid_Near.mono _ _ _ _ _ _)
      | (with_reducible exact LeO.refl _)
      | (with_reducible exact LeO.none _)
      | (with_reducible refine LeO.ite ?_ ?_)
      | (with_reducible refine LeO.bind ?_ (fun _ => ?_))
      | exact ih0 _ _ _ _ _ _ _ _
      | exact ih1 _ _ _ _ _ _ _ _ _
      | exact grid_Around_1_i1.mono _ _ _
      | exact grid_Around_2_i1.mono _ _ _ _
      | exact grid_Near.mono _ _ _ _ _ _
      | exact LeO.none _
      | refine LeO.ite ?_ ?_
      | refine LeO.bind ?_ (fun _ => ?_)
theorem grid_Around.mono : ∀ a0 a1 a2 a3 a4 a5 k, LeO (grid_Around.f k a0 a1 a2 a3 a4 a5) (grid_Around.f (k + 1) a0 a1 a2 a3 a4 a5) := by
  intro a0 a1 a2 a3 a4 a5 k
  obtain ⟨ih0, ih1⟩ := grid_Around.mono_l k
  unfold grid_Around.f
  repeat' first
      | (with_reducible exact ih0 _ _ _ _ _ _ _ _)
      | (with_reducible exact ih1 _ _ _ _ _ _ _ _ _)
      | (with_reducible exact grid_Around_1_i1.mono _ _ _)
      | (with_reducible exact grid_Around_2_i1.mono _ _ _ _)
      | (with_reducible exact grid_Near.mono _ _ _ _ _ _)
      | (with_reducible exact LeO.refl _)
      | (with_reducible exact LeO.none _)
      | (with_reducible refine LeO.ite ?_ ?_)
      | (with_reducible refine LeO.bind ?_ (fun _ => ?_))
      | exact ih0 _ _ _ _ _ _ _ _
      | exact ih1 _ _ _ _ _ _ _ _ _
      | exact grid_Around_1_i1.mono _ _ _
      | exact grid_Around_2_i1.mono _ _ _ _
      | exact grid_Near.mono _ _ _ _ _ _
      | exact LeO.none _
      | refine LeO.ite ?_ ?_
      | refine LeO.bind ?_ (fun _ => ?_)
def grid_Around.Post (r : List (S26)) (S : Nat → Prop) (L : List Asr) (w : World) (e : Ending) (w' : World) : Prop := ∃ (Ar1 : Option Addr) (cr1 : Nat), e = .returned (.slice Ar1 r.length cr1) ∧ SL (row k26 26 (.slice Ar1 r.length cr1) r :: L) w' S ∧ Keep S w w'
set_option maxHeartbeats 8000000 in
set_option maxRecDepth 100000 in
theorem grid_Around.slcalls (k : Nat) (a0_0 : Int) (a0_1 : Int) (A0_2 : Option Addr) (c0_2 : Nat) (l0_2 : List Bool) (a1_0 : Int) (a1_1 : Int) (a2 : Int) (r : List (S26)) (S : Nat → Prop) (L : List Asr) (w : World) (hf : Fresh S w) (hs : SL (L) w S) (hr0_2 : RO S w (fun w_ => Kd.C Kd.bool w_ A0_2 l0_2.length l0_2)) (hc0_2 : l0_2.length ≤ c0_2) (h : grid_Around.f k a0_0 a0_1 l0_2 a1_0 a1_1 a2 = some r) :
    Calls Try.prog 38 #[.agg #[.int .i64 a0_0, .int .i64 a0_1, .slice A0_2 l0_2.length c0_2], .agg #[.int .i64 a1_0, .int .i64 a1_1], .int .i64 a2] w (grid_Around.Post r S L w) := by
  have HR0_2 := Aside0.mk hr0_2
  have HC0_2 := Aside0.mk hc0_2
  clear hr0_2 hc0_2
  have HF := Aside0.mk hf
  have HS := Aside0.mk hs
  have HK := Aside0.mk (Keep.refl S w)
  clear hf hs
  have hu24 := Try.underlying24
  have hu26 := Try.underlying26
  have H : ((grid_Right.f a0_0 a0_1 l0_2).bind fun t677 => (if t677 = true then (if a2 > 256 then (some ([] : List (S26))) else (if a2 < 0 then (some ([] : List (S26))) else ((grid_Around_1_i1.f k a1_1 a2).bind fun bt680 => (grid_Around.l0 k a0_0 a0_1 l0_2 a1_0 a1_1 ([] : List (S26)) bt680.1 bt680.2)))) else (some ([] : List (S26))))) = some r := h
  clear h
  replace H := Option.bind_eq_some_iff.1 H
  obtain ⟨t677, Hc10, H⟩ := H
  try dsimp only at H
  have Hc1 := Aside0.mk Hc10
  clear Hc10
  have H' := Aside0.mk H
  clear H
  go_enter Try.func38, Try.ntmps38
  go_wp2_with (first | ((with_reducible refine gate_dst (N := 3) rfl ?_); refine wpList_plain rfl (fun K_ hK_ => ?_); refine op_box (S := S) (cs := #[.int .i64 a0_0, .int .i64 a0_1, .slice A0_2 l0_2.length c0_2]) (t := 24) (HF.out.keep HK.out) HS.out (by first | (go_simp; done) | (go_simp; rfl)) ?_; intro g3000102 w2 hs_ hk_; refine hK_ _ _ ?_; clear hK_ K_; replace HS := Aside0.mk (hs_); replace HK := Aside0.mk (HK.out.trans hk_)) | ((with_reducible refine gate_dst (N := 4) rfl ?_); refine wpList_plain rfl (fun K_ hK_ => ?_); refine op_box (S := S) (cs := #[.int .i64 a1_0, .int .i64 a1_1]) (t := 26) (HF.out.keep HK.out) HS.out (by first | (go_simp; done) | (go_simp; rfl)) ?_; intro g3000103 w3 hs_ hk_; refine hK_ _ _ ?_; clear hK_ K_; replace HS := Aside0.mk (hs_); replace HK := Aside0.mk (HK.out.trans hk_)) | ((with_reducible refine gate_dst (N := 5) rfl ?_); refine wpList_plain rfl (fun K_ hK_ => ?_); refine op_box (S := S) (cs := #[.int .i64 a2]) (t := 3) (HF.out.keep HK.out) HS.out (by first | (go_simp; done) | (go_simp; rfl)) ?_; intro g3000104 w4 hs_ hk_; refine hK_ _ _ ?_; clear hK_ K_; replace HS := Aside0.mk (hs_); replace HK := Aside0.mk (HK.out.trans hk_); have hb_ := SL.at_ (SL.get2 HS.out); have hz3000102_0_3 := ((blk_cell hb_ 0).trans rfl : _ = some (.int .i64 a0_0)); have hz3000102_1_3 := ((blk_cell hb_ 1).trans rfl : _ = some (.int .i64 a0_1)); have hz3000102_2_3 := ((blk_cell hb_ 2).trans rfl : _ = some (.slice A0_2 l0_2.length c0_2)); clear hb_) | ((with_reducible refine gate_dst (N := 14) rfl ?_); refine goesL_ (some 14) rfl rfl Try.func34 (by kernel_rfl) rfl #[.agg #[.int .i64 a0_0, .int .i64 a0_1, .slice A0_2 l0_2.length c0_2]] rfl (by (try simp only [List.map_toArray, List.map_cons, List.map_nil]); first | done | rfl | (simp; done)) ?_; (with_reducible refine (grid_Right.calls _ _ _ _ _ _ _ (RO.at_ HR0_2.out HK.out) HC0_2.out Hc1.out).mono ?_); rintro e_ w5 ⟨rfl, hb_⟩; refine ⟨_, rfl, ?_⟩; replace HS := Aside0.mk (HS.out.below hb_); replace HK := Aside0.mk (HK.out.trans (Keep.below hb_)); (try clear hz3000102_0_3 hz3000102_1_3 hz3000102_2_3); refine stop_ ?_; intro G_ hG_))
  have H := H'.out
  clear H'
  by_cases c6 : t677 = true
  · subst c6
    rw [if_pos rfl] at H
    by_cases c7 : a2 > 256
    · rw [if_pos c7] at H
      have c7b0 : decide (256 < a2) = true := decide_eq_true c7
      clear c7
      obtain rfl := Option.some.inj H
      have hb_ := SL.at_ HS.out
      have hz3000104_0_0 := ((blk_cell hb_ 0).trans rfl : _ = some (.int .i64 a2))
      clear hb_
      have n2_ := Aside0.mk (SL.nil_row k26 26 HS.out)
      clear HS
      have HS := n2_
      clear n2_
      refine hG_.out ?_
      try simp only [c7b0]
      go_wp2
      go_ret
      replace HS := Aside0.mk (SL.tail (SL.get1 (SL.tail (SL.get1 (SL.tail (SL.get1 HS.out))))))
      unfold grid_Around.Post
      exact ⟨none, 0, by first | rfl | (simp; done) | (simp [*]; done), HS.out, HK.out⟩
    · rw [if_neg c7] at H
      have c7b0 : decide (256 < a2) = false := decide_eq_false c7
      clear c7
      by_cases c8 : a2 < 0
      · rw [if_pos c8] at H
        have c8b0 : decide (a2 < 0) = true := decide_eq_true c8
        clear c8
        obtain rfl := Option.some.inj H
        have hb_ := SL.at_ HS.out
        have hz3000104_0_0 := ((blk_cell hb_ 0).trans rfl : _ = some (.int .i64 a2))
        clear hb_
        have n2_ := Aside0.mk (SL.nil_row k26 26 HS.out)
        clear HS
        have HS := n2_
        clear n2_
        refine hG_.out ?_
        try simp only [c7b0, c8b0]
        go_wp2
        go_ret
        replace HS := Aside0.mk (SL.tail (SL.get1 (SL.tail (SL.get1 (SL.tail (SL.get1 HS.out))))))
        unfold grid_Around.Post
        exact ⟨none, 0, by first | rfl | (simp; done) | (simp [*]; done), HS.out, HK.out⟩
      · rw [if_neg c8] at H
        have c8b0 : decide (a2 < 0) = false := decide_eq_false c8
        clear c8
        replace H := Option.bind_eq_some_iff.1 H
        obtain ⟨⟨t680, t681⟩, Hc90, H⟩ := H
        try dsimp only at H
        have Hc9 := Aside0.mk Hc90
        clear Hc90
        have H' := Aside0.mk H
        clear H
        have hb_ := SL.at_ HS.out
        have hz3000104_0_0 := ((blk_cell hb_ 0).trans rfl : _ = some (.int .i64 a2))
        clear hb_
        have hb_ := SL.at_ (SL.get1 HS.out)
        have hz3000103_0_0 := ((blk_cell hb_ 0).trans rfl : _ = some (.int .i64 a1_0))
        have hz3000103_1_0 := ((blk_cell hb_ 1).trans rfl : _ = some (.int .i64 a1_1))
        clear hb_
        refine hG_.out ?_
        try simp only [c7b0, c8b0]
        go_wp2_with (first | ((with_reducible refine gate_dst (N := 29) rfl ?_); refine goesLc_ (some 29) rfl (by with_unfolding_all rfl) rfl Try.func52 (by kernel_rfl) rfl #[.int .i64 a1_1, .pointer (some ⟨g3000104, 0, none⟩)] rfl (by (try simp only [List.map_toArray, List.map_cons, List.map_nil]); first | done | rfl | (simp; done)) ?_; have hs0_ := HS.out; (with_reducible refine (grid_Around_1_i1.slcalls k _ _ _ _ _ _ _ _ (HF.out.keep HK.out) hs0_  Hc9.out).mono ?_); rintro e_ w10 ⟨rfl, hsr_, hkr_⟩; refine ⟨_, rfl, ?_⟩; replace HS := Aside0.mk (hsr_); replace HK := Aside0.mk (HK.out.trans hkr_); (try clear hz3000103_0_0 hz3000103_1_0); (try clear hz3000104_0_0); have n2_ := Aside0.mk (SL.nil_row k26 26 HS.out); clear HS; have HS := n2_; clear n2_))
        go_loopg [7, 10] k (fun kq v7 v10 w' => ∃ (x7_0 : List (S26)) (Ax7_0 : Option Addr) (cx7_0 : Nat) (x3000104_0_0 : Int) (x10_0 : Int), v7 = .slice Ax7_0 x7_0.length cx7_0 ∧ v10 = .int .i64 x10_0 ∧ Aside0 (grid_Around.l0 kq a0_0 a0_1 l0_2 a1_0 a1_1 x7_0 x10_0 x3000104_0_0 = some r) ∧ Aside0 (kq ≤ k) ∧ Aside0 (SL (row k26 26 (.slice Ax7_0 x7_0.length cx7_0) x7_0 :: cells g3000104 3 [.int .i64 x3000104_0_0].toArray :: cells g3000103 26 [.int .i64 a1_0, .int .i64 a1_1].toArray :: cells g3000102 24 [.int .i64 a0_0, .int .i64 a0_1, .slice A0_2 l0_2.length c0_2].toArray :: L) w' S) ∧ Aside0 (Keep S w w'))
        case atStart => exact ⟨(([] : List (S26))), (none), (0), (t681), (t680), (by first | rfl | (simp; done) | (simp [*]; done)), (by first | rfl | (simp; done) | (simp [*]; done)), H', ⟨Nat.le_refl _⟩, HS, HK⟩
        case round =>
          clear H' HS HK
          try clear hz3000104_0_0
          try clear hz3000104_0_0
          try clear hz3000103_0_0 hz3000103_1_0
          obtain ⟨x7_0, Ax7_0, cx7_0, x3000104_0_0, x10_0, rfl, rfl, HA, HQ1, HS, HK⟩ := hrel
          cases gk with
          | zero => exact absurd HA.out (by simp [grid_Around.l0])
          | succ k1 =>
            have H := HA.out
            clear HA
            simp only [grid_Around.l0] at H
            replace H := Option.bind_eq_some_iff.1 H
            obtain ⟨⟨t705, t706⟩, Hc110, H⟩ := H
            try dsimp only at H
            have Hc11 := Aside0.mk Hc110
            clear Hc110
            by_cases c12 : x10_0 < t705
            · rw [if_pos c12] at H
              have c12b0 : decide (x10_0 < t705) = true := decide_eq_true c12
              clear c12
              replace H := Option.bind_eq_some_iff.1 H
              obtain ⟨⟨t707, t708⟩, Hc130, H⟩ := H
              try dsimp only at H
              have Hc13 := Aside0.mk Hc130
              clear Hc130
              have H' := Aside0.mk H
              clear H
              have hb_ := SL.at_ (SL.get2 HS.out)
              have hz3000103_0_0 := ((blk_cell hb_ 0).trans rfl : _ = some (.int .i64 a1_0))
              have hz3000103_1_0 := ((blk_cell hb_ 1).trans rfl : _ = some (.int .i64 a1_1))
              clear hb_
              have hb_ := SL.at_ (SL.get3 HS.out)
              have hz3000102_0_0 := ((blk_cell hb_ 0).trans rfl : _ = some (.int .i64 a0_0))
              have hz3000102_1_0 := ((blk_cell hb_ 1).trans rfl : _ = some (.int .i64 a0_1))
              have hz3000102_2_0 := ((blk_cell hb_ 2).trans rfl : _ = some (.slice A0_2 l0_2.length c0_2))
              clear hb_
              go_wp2_with (first | ((with_reducible refine gate_dst (N := 36) rfl ?_); refine goesLc_ (some 36) rfl (by with_unfolding_all rfl) rfl Try.func53 (by kernel_rfl) rfl #[.int .i64 a1_1, .int .i64 a0_1, .pointer (some ⟨g3000104, 0, none⟩)] rfl (by (try simp only [List.map_toArray, List.map_cons, List.map_nil]); first | done | rfl | (simp; done)) ?_; have hs0_ := (SL.get1 HS.out); (with_reducible refine (grid_Around_2_i1.slcalls k1 _ _ _ _ _ _ _ _ _ (HF.out.keep HK.out) hs0_  Hc11.out).mono ?_); rintro e_ w14 ⟨rfl, hsr_, hkr_⟩; refine ⟨_, rfl, ?_⟩; replace HS := Aside0.mk (hsr_); replace HK := Aside0.mk (HK.out.trans hkr_); (try clear hz3000102_0_0 hz3000102_1_0 hz3000102_2_0); (try clear hz3000103_0_0 hz3000103_1_0); have hb_ := SL.at_ (SL.get2 HS.out); have hz3000103_0_1 := ((blk_cell hb_ 0).trans rfl : _ = some (.int .i64 a1_0)); have hz3000103_1_1 := ((blk_cell hb_ 1).trans rfl : _ = some (.int .i64 a1_1)); clear hb_) | ((with_reducible refine gate_dst (N := 43) rfl ?_); refine goesLc_ (some 43) rfl (by with_unfolding_all rfl) rfl Try.func52 (by kernel_rfl) rfl #[.int .i64 a1_0, .pointer (some ⟨g3000104, 0, none⟩)] rfl (by (try simp only [List.map_toArray, List.map_cons, List.map_nil]); first | done | rfl | (simp; done)) ?_; have hs0_ := HS.out; (with_reducible refine (grid_Around_1_i1.slcalls k1 _ _ _ _ _ _ _ _ (HF.out.keep HK.out) hs0_  Hc13.out).mono ?_); rintro e_ w15 ⟨rfl, hsr_, hkr_⟩; refine ⟨_, rfl, ?_⟩; replace HS := Aside0.mk (hsr_); replace HK := Aside0.mk (HK.out.trans hkr_); (try clear hz3000103_0_1 hz3000103_1_1)))
              replace HS := Aside0.mk (SL.get3 (SL.get2 (SL.get3 (SL.get3 HS.out))))
              go_loopg [7, 11] k1 (fun kq v7 v11 w' => ∃ (x7_1 : List (S26)) (Ax7_1 : Option Addr) (cx7_1 : Nat) (x3000104_0_1 : Int) (x11_1 : Int), v7 = .slice Ax7_1 x7_1.length cx7_1 ∧ v11 = .int .i64 x11_1 ∧ Aside0 (grid_Around.l1 kq a0_0 a0_1 l0_2 a1_0 a1_1 x10_0 x7_1 x11_1 x3000104_0_1 = some r) ∧ Aside0 (kq ≤ k1) ∧ Aside0 (SL (row k26 26 (.slice Ax7_1 x7_1.length cx7_1) x7_1 :: cells g3000104 3 [.int .i64 x3000104_0_1].toArray :: cells g3000103 26 [.int .i64 a1_0, .int .i64 a1_1].toArray :: cells g3000102 24 [.int .i64 a0_0, .int .i64 a0_1, .slice A0_2 l0_2.length c0_2].toArray :: L) w' S) ∧ Aside0 (Keep S w w'))
              case atStart => exact ⟨(x7_0), (Ax7_0), (cx7_0), (t708), (t707), (by first | rfl | (simp; done) | (simp [*]; done)), (by first | rfl | (simp; done) | (simp [*]; done)), H', ⟨Nat.le_refl _⟩, HS, HK⟩
              case round =>
                clear H' HS HK
                try clear hz3000103_0_0 hz3000103_1_0
                try clear hz3000102_0_0 hz3000102_1_0 hz3000102_2_0
                try clear hz3000103_0_0 hz3000103_1_0
                obtain ⟨x7_1, Ax7_1, cx7_1, x3000104_0_1, x11_1, rfl, rfl, HA, HQ2, HS, HK⟩ := hrel
                cases gk with
                | zero => exact absurd HA.out (by simp [grid_Around.l1])
                | succ k2 =>
                  have H := HA.out
                  clear HA
                  simp only [grid_Around.l1] at H
                  replace H := Option.bind_eq_some_iff.1 H
                  obtain ⟨⟨t709, t710⟩, Hc160, H⟩ := H
                  try dsimp only at H
                  have Hc16 := Aside0.mk Hc160
                  clear Hc160
                  by_cases c17 : x11_1 < t709
                  · rw [if_pos c17] at H
                    have c17b0 : decide (x11_1 < t709) = true := decide_eq_true c17
                    clear c17
                    replace H := Option.bind_eq_some_iff.1 H
                    obtain ⟨t711, Hc180, H⟩ := H
                    try dsimp only at H
                    have Hc18 := Aside0.mk Hc180
                    clear Hc180
                    have H' := Aside0.mk H
                    clear H
                    have hb_ := SL.at_ (SL.get2 HS.out)
                    have hz3000103_0_0 := ((blk_cell hb_ 0).trans rfl : _ = some (.int .i64 a1_0))
                    have hz3000103_1_0 := ((blk_cell hb_ 1).trans rfl : _ = some (.int .i64 a1_1))
                    clear hb_
                    have hb_ := SL.at_ (SL.get3 HS.out)
                    have hz3000102_0_0 := ((blk_cell hb_ 0).trans rfl : _ = some (.int .i64 a0_0))
                    have hz3000102_1_0 := ((blk_cell hb_ 1).trans rfl : _ = some (.int .i64 a0_1))
                    have hz3000102_2_0 := ((blk_cell hb_ 2).trans rfl : _ = some (.slice A0_2 l0_2.length c0_2))
                    clear hb_
                    go_wp2_with (first | ((with_reducible refine gate_dst (N := 50) rfl ?_); refine goesLc_ (some 50) rfl (by with_unfolding_all rfl) rfl Try.func53 (by kernel_rfl) rfl #[.int .i64 a1_0, .int .i64 a0_0, .pointer (some ⟨g3000104, 0, none⟩)] rfl (by (try simp only [List.map_toArray, List.map_cons, List.map_nil]); first | done | rfl | (simp; done)) ?_; have hs0_ := (SL.get1 HS.out); (with_reducible refine (grid_Around_2_i1.slcalls k2 _ _ _ _ _ _ _ _ _ (HF.out.keep HK.out) hs0_  Hc16.out).mono ?_); rintro e_ w19 ⟨rfl, hsr_, hkr_⟩; refine ⟨_, rfl, ?_⟩; replace HS := Aside0.mk (hsr_); replace HK := Aside0.mk (HK.out.trans hkr_); (try clear hz3000102_0_0 hz3000102_1_0 hz3000102_2_0); (try clear hz3000103_0_0 hz3000103_1_0)) | ((with_reducible refine gate_dst (N := 12) rfl ?_); refine wpList_plain rfl (fun K_ hK_ => ?_); refine op_box (S := S) (cs := #[.int .i64 0, .int .i64 0]) (t := 26) (HF.out.keep HK.out) HS.out (by first | (go_simp; done) | (go_simp; rfl)) ?_; intro g3000105 w20 hs_ hk_; refine hK_ _ _ ?_; clear hK_ K_; replace HS := Aside0.mk (hs_); replace HK := Aside0.mk (HK.out.trans hk_)) | ((with_reducible refine gate_store (t := 26) (p := 12) (v := (.tmp 56)) rfl ?_); refine wpList_plain rfl (fun K_ hK_ => ?_); refine op_store (S := S) 26 (.tmp 12) (.tmp 56) rfl g3000105 0 (.agg #[.int .i64 x11_1, .int .i64 x10_0]) [.int .i64 x11_1, .int .i64 x10_0] rfl rfl rfl (by kernel_rfl) (by simp [Value.oneCell']) HS.out (by simp) ?_; intro w21 hs_ hk_; refine hK_ _ _ ?_; clear hK_ K_; replace HS := Aside0.mk ((show SL (cells g3000105 26 [.int .i64 x11_1, .int .i64 x10_0].toArray :: _) _ _ from hs_)); replace HK := Aside0.mk (HK.out.trans hk_); have hb_ := SL.at_ HS.out; have hz3000105_0_3 := ((blk_cell hb_ 0).trans rfl : _ = some (.int .i64 x11_1)); have hz3000105_1_3 := ((blk_cell hb_ 1).trans rfl : _ = some (.int .i64 x10_0)); clear hb_; have hb_ := SL.at_ (SL.get1 HS.out); have hz3000104_0_3 := ((blk_cell hb_ 0).trans rfl : _ = some (.int .i64 t710)); clear hb_; have hb_ := SL.at_ (SL.get3 HS.out); have hz3000103_0_3 := ((blk_cell hb_ 0).trans rfl : _ = some (.int .i64 a1_0)); have hz3000103_1_3 := ((blk_cell hb_ 1).trans rfl : _ = some (.int .i64 a1_1)); clear hb_) | ((with_reducible refine gate_dst (N := 60) rfl ?_); refine goesL_ (some 60) rfl rfl Try.func54 (by kernel_rfl) rfl #[.agg #[.int .i64 a1_0, .int .i64 a1_1], .agg #[.int .i64 x11_1, .int .i64 x10_0], .int .i64 t710] rfl (by (try simp only [List.map_toArray, List.map_cons, List.map_nil]); first | done | rfl | (simp; done)) ?_; (with_reducible refine (grid_Near.calls k2 _ _ _ _ _ _ _  Hc18.out).mono ?_); rintro e_ w22 ⟨rfl, hb_⟩; refine ⟨_, rfl, ?_⟩; replace HS := Aside0.mk (HS.out.below hb_); replace HK := Aside0.mk (HK.out.trans (Keep.below hb_)); (try clear hz3000103_0_3 hz3000103_1_3); (try clear hz3000104_0_3); (try clear hz3000105_0_3 hz3000105_1_3); refine stop_ ?_; intro G_ hG_))
                    have H := H'.out
                    clear H'
                    by_cases c23 : t711 = true
                    · subst c23
                      rw [if_pos rfl] at H
                      replace H := Option.bind_eq_some_iff.1 H
                      obtain ⟨t712, Hc240, H⟩ := H
                      try dsimp only at H
                      have Hc24 := Aside0.mk Hc240
                      clear Hc240
                      by_cases c25 : t712 = true
                      · subst c25
                        rw [if_pos rfl] at H
                        have H' := Aside0.mk H
                        clear H
                        have hb_ := SL.at_ HS.out
                        have hz3000105_0_0 := ((blk_cell hb_ 0).trans rfl : _ = some (.int .i64 x11_1))
                        have hz3000105_1_0 := ((blk_cell hb_ 1).trans rfl : _ = some (.int .i64 x10_0))
                        clear hb_
                        have hb_ := SL.at_ (SL.get4 HS.out)
                        have hz3000102_0_0 := ((blk_cell hb_ 0).trans rfl : _ = some (.int .i64 a0_0))
                        have hz3000102_1_0 := ((blk_cell hb_ 1).trans rfl : _ = some (.int .i64 a0_1))
                        have hz3000102_2_0 := ((blk_cell hb_ 2).trans rfl : _ = some (.slice A0_2 l0_2.length c0_2))
                        clear hb_
                        refine hG_.out ?_
                        go_wp2_with (first | ((with_reducible refine gate_dst (N := 64) rfl ?_); (try (refine gate_guard (by rfl) ?_; dsimp only)); refine goesL_ (some 64) rfl rfl Try.func37 (by kernel_rfl) rfl #[.agg #[.int .i64 a0_0, .int .i64 a0_1, .slice A0_2 l0_2.length c0_2], .agg #[.int .i64 x11_1, .int .i64 x10_0]] rfl (by (try simp only [List.map_toArray, List.map_cons, List.map_nil]); first | done | rfl | (simp; done)) ?_; (with_reducible refine (grid_wall.calls _ _ _ _ _ _ _ _ _ (RO.at_ HR0_2.out HK.out) HC0_2.out Hc24.out).mono ?_); rintro e_ w26 ⟨rfl, hb_⟩; refine ⟨_, rfl, ?_⟩; replace HS := Aside0.mk (HS.out.below hb_); replace HK := Aside0.mk (HK.out.trans (Keep.below hb_)); (try clear hz3000102_0_0 hz3000102_1_0 hz3000102_2_0); (try clear hz3000105_0_0 hz3000105_1_0)))
                        replace HS := Aside0.mk (SL.get3 (SL.get2 (SL.get3 (SL.get3 (SL.tail HS.out)))))
                        go_roundg k2
                        case measure => have := HQ1.out; have := HQ2.out; omega
                        case rel => exact ⟨(x7_1), (Ax7_1), (cx7_1), (t710), (wrap64 (x11_1 + 1)), (by first | rfl | (simp; done) | (simp [*]; done)), (by first | rfl | (simp; done) | (simp [*]; done)), H', ⟨by have := HQ1.out; have := HQ2.out; omega⟩, HS, HK⟩
                      · replace c25 := Bool.eq_false_iff.mpr c25
                        subst c25
                        rw [if_neg (show ¬ (false = true) by decide)] at H
                        replace H := Option.bind_eq_some_iff.1 H
                        obtain ⟨y713, hy7130, H⟩ := H
                        try dsimp only at H
                        have hy713 := Option.some.inj hy7130
                        clear hy7130
                        have Ny713 := Aside0.mk hy713
                        clear hy713
                        by_cases c27 : x7_1.length + y713.length < 8796093022208
                        · rw [if_pos c27] at H
                          have LMc27 := Aside0.mk c27
                          clear c27
                          replace H := Option.bind_eq_some_iff.1 H
                          obtain ⟨y714, hy7140, H⟩ := H
                          try dsimp only at H
                          have hy714 := Option.some.inj hy7140
                          clear hy7140
                          have Ny714 := Aside0.mk hy714
                          clear hy714
                          have H' := Aside0.mk H
                          clear H
                          have hb_ := SL.at_ HS.out
                          have hz3000105_0_0 := ((blk_cell hb_ 0).trans rfl : _ = some (.int .i64 x11_1))
                          have hz3000105_1_0 := ((blk_cell hb_ 1).trans rfl : _ = some (.int .i64 x10_0))
                          clear hb_
                          have hb_ := SL.at_ (SL.get4 HS.out)
                          have hz3000102_0_0 := ((blk_cell hb_ 0).trans rfl : _ = some (.int .i64 a0_0))
                          have hz3000102_1_0 := ((blk_cell hb_ 1).trans rfl : _ = some (.int .i64 a0_1))
                          have hz3000102_2_0 := ((blk_cell hb_ 2).trans rfl : _ = some (.slice A0_2 l0_2.length c0_2))
                          clear hb_
                          refine hG_.out ?_
                          go_wp2_with (first | ((with_reducible refine gate_dst (N := 64) rfl ?_); (try (refine gate_guard (by rfl) ?_; dsimp only)); refine goesL_ (some 64) rfl rfl Try.func37 (by kernel_rfl) rfl #[.agg #[.int .i64 a0_0, .int .i64 a0_1, .slice A0_2 l0_2.length c0_2], .agg #[.int .i64 x11_1, .int .i64 x10_0]] rfl (by (try simp only [List.map_toArray, List.map_cons, List.map_nil]); first | done | rfl | (simp; done)) ?_; (with_reducible refine (grid_wall.calls _ _ _ _ _ _ _ _ _ (RO.at_ HR0_2.out HK.out) HC0_2.out Hc24.out).mono ?_); rintro e_ w28 ⟨rfl, hb_⟩; refine ⟨_, rfl, ?_⟩; replace HS := Aside0.mk (HS.out.below hb_); replace HK := Aside0.mk (HK.out.trans (Keep.below hb_)); (try clear hz3000102_0_0 hz3000102_1_0 hz3000102_2_0); (try clear hz3000105_0_0 hz3000105_1_0); have hb_ := SL.at_ HS.out; have hz3000105_0_1 := ((blk_cell hb_ 0).trans rfl : _ = some (.int .i64 x11_1)); have hz3000105_1_1 := ((blk_cell hb_ 1).trans rfl : _ = some (.int .i64 x10_0)); clear hb_) | ((with_reducible refine gate_dst (N := 69) rfl ?_); refine wpList_plain rfl (fun K_ hK_ => ?_); refine op_rowF (S := S) (d := k26) ⟨fun h_ => h_⟩ 26 y713 #[.int .i64 x11_1, .int .i64 x10_0] 1 (by rw [← Ny713.out]; exact reps_cons (k26_mkM _ 0 _ (⟨x11_1, x10_0⟩ : S26)) rfl (Reps.none _ _)) (by rw [← Ny713.out]; rfl) (by decide) (HF.out.keep HK.out) HS.out (by first | (go_simp; done) | (go_simp; rfl)) ?_; intro Az3000106 cz3000106 w29 hs_ hk_; refine hK_ _ _ ?_; clear hK_ K_; replace HS := Aside0.mk ((show SL (row k26 26 (.slice Az3000106 1 cz3000106) y713 :: _) _ _ from hs_)); replace HK := Aside0.mk (HK.out.trans hk_); (try clear hz3000105_0_1 hz3000105_1_1)) | ((with_reducible refine gate_dst (N := 70) rfl ?_); refine wpList_plain rfl (fun K_ hK_ => ?_); refine op_appendF (S := S) (d := k26) ⟨fun h_ => h_⟩ (.tmp 67) (.tmp 69) 32 26 (.agg #[(.int .i64 0), (.int .i64 0)]) 16 rfl Try.underlying32 info26 rfl (by decide) (by decide) (.slice Ax7_1 x7_1.length cx7_1) rfl rfl (HF.out.keep HK.out) (SL.get3 HS.out) (SL.row_c HS.out).2.2 (by have := LMc27.out; have e_ := (SL.row_c HS.out).1; omega) y714 Ny714.out ?_; intro A715 c716 w30 hs_ hk_; refine hK_ _ _ ?_; clear hK_ K_; replace HS := Aside0.mk ((SL.back3 (show SL (row k26 26 (.slice A715 y714.length c716) y714 :: _) _ _ from hs_))); replace HK := Aside0.mk (HK.out.trans hk_)))
                          replace HS := Aside0.mk (SL.get3 (SL.get2 (SL.get3 (SL.get3 (SL.tail (SL.tail HS.out))))))
                          go_roundg k2
                          case measure => have := HQ1.out; have := HQ2.out; omega
                          case rel => exact ⟨(y714), (A715), (c716), (t710), (wrap64 (x11_1 + 1)), (by first | rfl | (simp; done) | (simp [*]; done)), (by first | rfl | (simp; done) | (simp [*]; done)), H', ⟨by have := HQ1.out; have := HQ2.out; omega⟩, HS, HK⟩
                        · rw [if_neg c27] at H
                          exact absurd H (by simp)
                    · replace c23 := Bool.eq_false_iff.mpr c23
                      subst c23
                      rw [if_neg (show ¬ (false = true) by decide)] at H
                      have H' := Aside0.mk H
                      clear H
                      refine hG_.out ?_
                      go_wp2
                      replace HS := Aside0.mk (SL.get3 (SL.get2 (SL.get3 (SL.get3 (SL.tail HS.out)))))
                      go_roundg k2
                      case measure => have := HQ1.out; have := HQ2.out; omega
                      case rel => exact ⟨(x7_1), (Ax7_1), (cx7_1), (t710), (wrap64 (x11_1 + 1)), (by first | rfl | (simp; done) | (simp [*]; done)), (by first | rfl | (simp; done) | (simp [*]; done)), H', ⟨by have := HQ1.out; have := HQ2.out; omega⟩, HS, HK⟩
                  · rw [if_neg c17] at H
                    have c17b0 : decide (x11_1 < t709) = false := decide_eq_false c17
                    clear c17
                    have H' := Aside0.mk H
                    clear H
                    have hb_ := SL.at_ (SL.get2 HS.out)
                    have hz3000103_0_0 := ((blk_cell hb_ 0).trans rfl : _ = some (.int .i64 a1_0))
                    have hz3000103_1_0 := ((blk_cell hb_ 1).trans rfl : _ = some (.int .i64 a1_1))
                    clear hb_
                    have hb_ := SL.at_ (SL.get3 HS.out)
                    have hz3000102_0_0 := ((blk_cell hb_ 0).trans rfl : _ = some (.int .i64 a0_0))
                    have hz3000102_1_0 := ((blk_cell hb_ 1).trans rfl : _ = some (.int .i64 a0_1))
                    have hz3000102_2_0 := ((blk_cell hb_ 2).trans rfl : _ = some (.slice A0_2 l0_2.length c0_2))
                    clear hb_
                    go_wp2_with (first | ((with_reducible refine gate_dst (N := 50) rfl ?_); refine goesLc_ (some 50) rfl (by with_unfolding_all rfl) rfl Try.func53 (by kernel_rfl) rfl #[.int .i64 a1_0, .int .i64 a0_0, .pointer (some ⟨g3000104, 0, none⟩)] rfl (by (try simp only [List.map_toArray, List.map_cons, List.map_nil]); first | done | rfl | (simp; done)) ?_; have hs0_ := (SL.get1 HS.out); (with_reducible refine (grid_Around_2_i1.slcalls k2 _ _ _ _ _ _ _ _ _ (HF.out.keep HK.out) hs0_  Hc16.out).mono ?_); rintro e_ w31 ⟨rfl, hsr_, hkr_⟩; refine ⟨_, rfl, ?_⟩; replace HS := Aside0.mk (hsr_); replace HK := Aside0.mk (HK.out.trans hkr_); (try clear hz3000102_0_0 hz3000102_1_0 hz3000102_2_0); (try clear hz3000103_0_0 hz3000103_1_0)))
                    replace HS := Aside0.mk (SL.get3 (SL.get2 (SL.get3 (SL.get3 HS.out))))
                    go_roundg k2
                    case measure => have := HQ1.out; have := HQ2.out; omega
                    case rel => exact ⟨(x7_1), (Ax7_1), (cx7_1), (t710), (wrap64 (x10_0 + 1)), (by first | rfl | (simp; done) | (simp [*]; done)), (by first | rfl | (simp; done) | (simp [*]; done)), H', ⟨by have := HQ1.out; have := HQ2.out; omega⟩, HS, HK⟩
            · rw [if_neg c12] at H
              have c12b0 : decide (x10_0 < t705) = false := decide_eq_false c12
              clear c12
              obtain rfl := Option.some.inj H
              have hb_ := SL.at_ (SL.get2 HS.out)
              have hz3000103_0_0 := ((blk_cell hb_ 0).trans rfl : _ = some (.int .i64 a1_0))
              have hz3000103_1_0 := ((blk_cell hb_ 1).trans rfl : _ = some (.int .i64 a1_1))
              clear hb_
              have hb_ := SL.at_ (SL.get3 HS.out)
              have hz3000102_0_0 := ((blk_cell hb_ 0).trans rfl : _ = some (.int .i64 a0_0))
              have hz3000102_1_0 := ((blk_cell hb_ 1).trans rfl : _ = some (.int .i64 a0_1))
              have hz3000102_2_0 := ((blk_cell hb_ 2).trans rfl : _ = some (.slice A0_2 l0_2.length c0_2))
              clear hb_
              go_wp2_with (first | ((with_reducible refine gate_dst (N := 36) rfl ?_); refine goesLc_ (some 36) rfl (by with_unfolding_all rfl) rfl Try.func53 (by kernel_rfl) rfl #[.int .i64 a1_1, .int .i64 a0_1, .pointer (some ⟨g3000104, 0, none⟩)] rfl (by (try simp only [List.map_toArray, List.map_cons, List.map_nil]); first | done | rfl | (simp; done)) ?_; have hs0_ := (SL.get1 HS.out); (with_reducible refine (grid_Around_2_i1.slcalls k1 _ _ _ _ _ _ _ _ _ (HF.out.keep HK.out) hs0_  Hc11.out).mono ?_); rintro e_ w32 ⟨rfl, hsr_, hkr_⟩; refine ⟨_, rfl, ?_⟩; replace HS := Aside0.mk (hsr_); replace HK := Aside0.mk (HK.out.trans hkr_); (try clear hz3000102_0_0 hz3000102_1_0 hz3000102_2_0); (try clear hz3000103_0_0 hz3000103_1_0)))
              go_ret
              replace HS := Aside0.mk (SL.tail (SL.get1 (SL.tail (SL.get1 (SL.tail HS.out)))))
              unfold grid_Around.Post
              exact ⟨Ax7_0, cx7_0, by first | rfl | (simp; done) | (simp [*]; done), HS.out, HK.out⟩
  · replace c6 := Bool.eq_false_iff.mpr c6
    subst c6
    rw [if_neg (show ¬ (false = true) by decide)] at H
    obtain rfl := Option.some.inj H
    have n2_ := Aside0.mk (SL.nil_row k26 26 HS.out)
    clear HS
    have HS := n2_
    clear n2_
    refine hG_.out ?_
    go_wp2
    go_ret
    replace HS := Aside0.mk (SL.tail (SL.get1 (SL.tail (SL.get1 (SL.tail (SL.get1 HS.out))))))
    unfold grid_Around.Post
    exact ⟨none, 0, by first | rfl | (simp; done) | (simp [*]; done), HS.out, HK.out⟩

/-! ### sight_Seen: function 20 -/
def sight_Seen.l0 : Nat → Int → Int → (List Bool) → Int → Int → (List (S26)) → (List (S26)) → Int → Option ((List (S26)))
  | 0, _, _, _, _, _, _, _, _ => none
  | k + 1, a0_0, a0_1, l0_2, a1_0, a1_1, t719, x7_0, x15_0 => if x15_0 < (t719.length : Int) then (if 0 ≤ x15_0 then ((sight_Sees.f k a0_0 a0_1 l0_2 a1_0 a1_1 ((rd_T26 t719 x15_0).f0) ((rd_T26 t719 x15_0).f1)).bind fun t721 => (if t721 = true then ((some (([(⟨(rd_T26 t719 x15_0).f0, (rd_T26 t719 x15_0).f1⟩ : S26)] : List (S26)) : List (S26))).bind fun y722 => (if x7_0.length + y722.length < 8796093022208 then ((some (x7_0 ++ y722 : List (S26))).bind fun y723 => (sight_Seen.l0 k a0_0 a0_1 l0_2 a1_0 a1_1 t719 y723 (wrap64 (x15_0 + 1)))) else (none))) else (sight_Seen.l0 k a0_0 a0_1 l0_2 a1_0 a1_1 t719 x7_0 (wrap64 (x15_0 + 1))))) else (none)) else (some x7_0)
def sight_Seen.f (k : Nat) (a0_0 : Int) (a0_1 : Int) (l0_2 : List Bool) (a1_0 : Int) (a1_1 : Int) (a2 : Int) : Option ((List (S26))) := (grid_Around.f k a0_0 a0_1 l0_2 a1_0 a1_1 a2).bind fun t719 => (sight_Seen.l0 k a0_0 a0_1 l0_2 a1_0 a1_1 t719 ([] : List (S26)) 0)
theorem sight_Seen.mono_l : ∀ k, (∀ y0 y1 y2 y3 y4 y5 y6 y7, LeO (sight_Seen.l0 k y0 y1 y2 y3 y4 y5 y6 y7) (sight_Seen.l0 (k + 1) y0 y1 y2 y3 y4 y5 y6 y7))
  | 0 => fun _ _ _ _ _ _ _ _ r h => by simp [sight_Seen.l0] at h
  | k + 1 => by
    have ih0 := sight_Seen.mono_l k
    · intro y0 y1 y2 y3 y4 y5 y6 y7
      unfold sight_Seen.l0
      repeat' first
      | (with_reducible exact ih0 _ _ _ _ _ _ _ _)
      | (with_reducible exact grid_Around.mono _ _ _ _ _ _ _)
      | (with_reducible exact sight_Sees.mono _ _ _ _ _ _ _ _)
      | (with_reducible exact LeO.refl _)
      | (with_reducible exact LeO.none _)
      | (with_reducible refine LeO.ite ?_ ?_)
      | (with_reducible refine LeO.bind ?_ (fun _ => ?_))
      | exact ih0 _ _ _ _ _ _ _ _
      | exact grid_Around.mono _ _ _ _ _ _ _
      | exact sight_Sees.mono _ _ _ _ _ _ _ _
      | exact LeO.none _
      | refine LeO.ite ?_ ?_
      | refine LeO.bind ?_ (fun _ => ?_)
theorem sight_Seen.mono : ∀ a0 a1 a2 a3 a4 a5 k, LeO (sight_Seen.f k a0 a1 a2 a3 a4 a5) (sight_Seen.f (k + 1) a0 a1 a2 a3 a4 a5) := by
  intro a0 a1 a2 a3 a4 a5 k
  have ih0 := sight_Seen.mono_l k
  unfold sight_Seen.f
  repeat' first
      | (with_reducible exact ih0 _ _ _ _ _ _ _ _)
      | (with_reducible exact grid_Around.mono _ _ _ _ _ _ _)
      | (with_reducible exact sight_Sees.mono _ _ _ _ _ _ _ _)
      | (with_reducible exact LeO.refl _)
      | (with_reducible exact LeO.none _)
      | (with_reducible refine LeO.ite ?_ ?_)
      | (with_reducible refine LeO.bind ?_ (fun _ => ?_))
      | exact ih0 _ _ _ _ _ _ _ _
      | exact grid_Around.mono _ _ _ _ _ _ _
      | exact sight_Sees.mono _ _ _ _ _ _ _ _
      | exact LeO.none _
      | refine LeO.ite ?_ ?_
      | refine LeO.bind ?_ (fun _ => ?_)
def sight_Seen.Post (r : List (S26)) (S : Nat → Prop) (L : List Asr) (w : World) (e : Ending) (w' : World) : Prop := ∃ (Ar1 : Option Addr) (cr1 : Nat), e = .returned (.slice Ar1 r.length cr1) ∧ SL (row k26 26 (.slice Ar1 r.length cr1) r :: L) w' S ∧ Keep S w w'
set_option maxHeartbeats 8000000 in
set_option maxRecDepth 100000 in
theorem sight_Seen.slcalls (k : Nat) (a0_0 : Int) (a0_1 : Int) (A0_2 : Option Addr) (c0_2 : Nat) (l0_2 : List Bool) (a1_0 : Int) (a1_1 : Int) (a2 : Int) (r : List (S26)) (S : Nat → Prop) (L : List Asr) (w : World) (hf : Fresh S w) (hs : SL (L) w S) (hr0_2 : RO S w (fun w_ => Kd.C Kd.bool w_ A0_2 l0_2.length l0_2)) (hc0_2 : l0_2.length ≤ c0_2) (h : sight_Seen.f k a0_0 a0_1 l0_2 a1_0 a1_1 a2 = some r) :
    Calls Try.prog 20 #[.agg #[.int .i64 a0_0, .int .i64 a0_1, .slice A0_2 l0_2.length c0_2], .agg #[.int .i64 a1_0, .int .i64 a1_1], .int .i64 a2] w (sight_Seen.Post r S L w) := by
  have HR0_2 := Aside0.mk hr0_2
  have HC0_2 := Aside0.mk hc0_2
  clear hr0_2 hc0_2
  have HF := Aside0.mk hf
  have HS := Aside0.mk hs
  have HK := Aside0.mk (Keep.refl S w)
  clear hf hs
  have hu24 := Try.underlying24
  have hu26 := Try.underlying26
  have H : ((grid_Around.f k a0_0 a0_1 l0_2 a1_0 a1_1 a2).bind fun t719 => (sight_Seen.l0 k a0_0 a0_1 l0_2 a1_0 a1_1 t719 ([] : List (S26)) 0)) = some r := h
  clear h
  replace H := Option.bind_eq_some_iff.1 H
  obtain ⟨t719, Hc10, H⟩ := H
  try dsimp only at H
  have Hc1 := Aside0.mk Hc10
  clear Hc10
  have H' := Aside0.mk H
  clear H
  go_enter Try.func20, Try.ntmps20
  go_wp2_with (first | ((with_reducible refine gate_dst (N := 3) rfl ?_); refine wpList_plain rfl (fun K_ hK_ => ?_); refine op_box (S := S) (cs := #[.int .i64 a0_0, .int .i64 a0_1, .slice A0_2 l0_2.length c0_2]) (t := 24) (HF.out.keep HK.out) HS.out (by first | (go_simp; done) | (go_simp; rfl)) ?_; intro g3000108 w2 hs_ hk_; refine hK_ _ _ ?_; clear hK_ K_; replace HS := Aside0.mk (hs_); replace HK := Aside0.mk (HK.out.trans hk_)) | ((with_reducible refine gate_dst (N := 4) rfl ?_); refine wpList_plain rfl (fun K_ hK_ => ?_); refine op_box (S := S) (cs := #[.int .i64 a1_0, .int .i64 a1_1]) (t := 26) (HF.out.keep HK.out) HS.out (by first | (go_simp; done) | (go_simp; rfl)) ?_; intro g3000109 w3 hs_ hk_; refine hK_ _ _ ?_; clear hK_ K_; replace HS := Aside0.mk (hs_); replace HK := Aside0.mk (HK.out.trans hk_); have hb_ := SL.at_ HS.out; have hz3000109_0_2 := ((blk_cell hb_ 0).trans rfl : _ = some (.int .i64 a1_0)); have hz3000109_1_2 := ((blk_cell hb_ 1).trans rfl : _ = some (.int .i64 a1_1)); clear hb_; have hb_ := SL.at_ (SL.get1 HS.out); have hz3000108_0_2 := ((blk_cell hb_ 0).trans rfl : _ = some (.int .i64 a0_0)); have hz3000108_1_2 := ((blk_cell hb_ 1).trans rfl : _ = some (.int .i64 a0_1)); have hz3000108_2_2 := ((blk_cell hb_ 2).trans rfl : _ = some (.slice A0_2 l0_2.length c0_2)); clear hb_) | ((with_reducible refine gate_dst (N := 13) rfl ?_); refine goesL_ (some 13) rfl rfl Try.func38 (by kernel_rfl) rfl #[.agg #[.int .i64 a0_0, .int .i64 a0_1, .slice A0_2 l0_2.length c0_2], .agg #[.int .i64 a1_0, .int .i64 a1_1], .int .i64 a2] rfl (by (try simp only [List.map_toArray, List.map_cons, List.map_nil]); first | done | rfl | (simp; done)) ?_; have hs0_ := HS.out; (with_reducible refine (grid_Around.slcalls k _ _ _ _ _ _ _ _ _ _ _ _ (HF.out.keep HK.out) hs0_ (HR0_2.out.keep HK.out) HC0_2.out Hc1.out).mono ?_); rintro e_ w4 ⟨Az3000110, cz3000110, rfl, hsr_, hkr_⟩; refine ⟨_, rfl, ?_⟩; replace HS := Aside0.mk (hsr_); replace HK := Aside0.mk (HK.out.trans hkr_); (try clear hz3000108_0_2 hz3000108_1_2 hz3000108_2_2); (try clear hz3000109_0_2 hz3000109_1_2); have n2_ := Aside0.mk (SL.nil_row k26 26 HS.out); clear HS; have HS := n2_; clear n2_))
  go_loopg [7, 15] k (fun kq v7 v15 w' => ∃ (x7_0 : List (S26)) (Ax7_0 : Option Addr) (cx7_0 : Nat) (x15_0 : Int), v7 = .slice Ax7_0 x7_0.length cx7_0 ∧ v15 = .int .i64 x15_0 ∧ Aside0 (sight_Seen.l0 kq a0_0 a0_1 l0_2 a1_0 a1_1 t719 x7_0 x15_0 = some r) ∧ Aside0 (kq ≤ k) ∧ Aside0 (SL (row k26 26 (.slice Ax7_0 x7_0.length cx7_0) x7_0 :: row k26 26 (.slice Az3000110 t719.length cz3000110) t719 :: cells g3000109 26 [.int .i64 a1_0, .int .i64 a1_1].toArray :: cells g3000108 24 [.int .i64 a0_0, .int .i64 a0_1, .slice A0_2 l0_2.length c0_2].toArray :: L) w' S) ∧ Aside0 (Keep S w w'))
  case atStart => exact ⟨(([] : List (S26))), (none), (0), (0), (by first | rfl | (simp; done) | (simp [*]; done)), (by first | rfl | (simp; done) | (simp [*]; done)), H', ⟨Nat.le_refl _⟩, HS, HK⟩
  case round =>
    clear H' HS HK
    try clear hz3000108_0_0 hz3000108_1_0 hz3000108_2_0
    try clear hz3000109_0_0 hz3000109_1_0
    obtain ⟨x7_0, Ax7_0, cx7_0, x15_0, rfl, rfl, HA, HQ1, HS, HK⟩ := hrel
    cases gk with
    | zero => exact absurd HA.out (by simp [sight_Seen.l0])
    | succ k1 =>
      have H := HA.out
      clear HA
      simp only [sight_Seen.l0] at H
      by_cases c5 : x15_0 < (t719.length : Int)
      · rw [if_pos c5] at H
        have c5b0 : decide (x15_0 < (t719.length : Int)) = true := decide_eq_true c5
        clear c5
        by_cases c6 : 0 ≤ x15_0
        · rw [if_pos c6] at H
          have c6b0 : decide (0 ≤ x15_0) = true := decide_eq_true c6
          clear c6
          replace H := Option.bind_eq_some_iff.1 H
          obtain ⟨t721, Hc70, H⟩ := H
          try dsimp only at H
          have Hc7 := Aside0.mk Hc70
          clear Hc70
          have H' := Aside0.mk H
          clear H
          have pq720 : 0 ≤ (x15_0 : Int) := of_decide_eq_true (by first | (with_reducible assumption) | assumption)
          have qq720 : x15_0 < ((t719.length : Int) : Int) := of_decide_eq_true (by first | (with_reducible assumption) | assumption)
          obtain ⟨adq720, eq720, hxq720_0, hxq720_1⟩ := at_T26 (SL.row_c (SL.get1 HS.out)).2.2 x15_0 pq720 qq720
          cases eq720
          replace pq720 := eq_true pq720
          replace qq720 := eq_true qq720
          go_wp2_with (first | ((with_reducible refine gate_dst (N := 9) rfl ?_); refine wpList_plain rfl (fun K_ hK_ => ?_); refine op_box (S := S) (cs := #[.int .i64 0, .int .i64 0]) (t := 26) (HF.out.keep HK.out) HS.out (by first | (go_simp; done) | (go_simp; rfl)) ?_; intro g3000111 w8 hs_ hk_; refine hK_ _ _ ?_; clear hK_ K_; replace HS := Aside0.mk (hs_); replace HK := Aside0.mk (HK.out.trans hk_)) | ((with_reducible refine gate_store (t := 26) (p := 9) (v := (.tmp 18)) rfl ?_); refine wpList_plain rfl (fun K_ hK_ => ?_); refine op_store (S := S) 26 (.tmp 9) (.tmp 18) rfl g3000111 0 (.agg #[.int .i64 ((rd_T26 t719 x15_0).f0), .int .i64 ((rd_T26 t719 x15_0).f1)]) [.int .i64 ((rd_T26 t719 x15_0).f0), .int .i64 ((rd_T26 t719 x15_0).f1)] rfl rfl rfl (by kernel_rfl) (by simp [Value.oneCell']) HS.out (by simp) ?_; intro w9 hs_ hk_; refine hK_ _ _ ?_; clear hK_ K_; replace HS := Aside0.mk ((show SL (cells g3000111 26 [.int .i64 ((rd_T26 t719 x15_0).f0), .int .i64 ((rd_T26 t719 x15_0).f1)].toArray :: _) _ _ from hs_)); replace HK := Aside0.mk (HK.out.trans hk_); have hb_ := SL.at_ HS.out; have hz3000111_0_2 := ((blk_cell hb_ 0).trans rfl : _ = some (.int .i64 ((rd_T26 t719 x15_0).f0))); have hz3000111_1_2 := ((blk_cell hb_ 1).trans rfl : _ = some (.int .i64 ((rd_T26 t719 x15_0).f1))); clear hb_; have hb_ := SL.at_ (SL.get3 HS.out); have hz3000109_0_2 := ((blk_cell hb_ 0).trans rfl : _ = some (.int .i64 a1_0)); have hz3000109_1_2 := ((blk_cell hb_ 1).trans rfl : _ = some (.int .i64 a1_1)); clear hb_; have hb_ := SL.at_ (SL.get4 HS.out); have hz3000108_0_2 := ((blk_cell hb_ 0).trans rfl : _ = some (.int .i64 a0_0)); have hz3000108_1_2 := ((blk_cell hb_ 1).trans rfl : _ = some (.int .i64 a0_1)); have hz3000108_2_2 := ((blk_cell hb_ 2).trans rfl : _ = some (.slice A0_2 l0_2.length c0_2)); clear hb_) | ((with_reducible refine gate_dst (N := 22) rfl ?_); refine goesL_ (some 22) rfl rfl Try.func14 (by kernel_rfl) rfl #[.agg #[.int .i64 a0_0, .int .i64 a0_1, .slice A0_2 l0_2.length c0_2], .agg #[.int .i64 a1_0, .int .i64 a1_1], .agg #[.int .i64 ((rd_T26 t719 x15_0).f0), .int .i64 ((rd_T26 t719 x15_0).f1)]] rfl (by (try simp only [List.map_toArray, List.map_cons, List.map_nil]); first | done | rfl | (simp; done)) ?_; (with_reducible refine (sight_Sees.calls k1 _ _ _ _ _ _ _ _ _ _ _ (RO.at_ HR0_2.out HK.out) HC0_2.out Hc7.out).mono ?_); rintro e_ w10 ⟨rfl, hb_⟩; refine ⟨_, rfl, ?_⟩; replace HS := Aside0.mk (HS.out.below hb_); replace HK := Aside0.mk (HK.out.trans (Keep.below hb_)); (try clear hz3000108_0_2 hz3000108_1_2 hz3000108_2_2); (try clear hz3000109_0_2 hz3000109_1_2); (try clear hz3000111_0_2 hz3000111_1_2); refine stop_ ?_; intro G_ hG_))
          have H := H'.out
          clear H'
          by_cases c11 : t721 = true
          · subst c11
            rw [if_pos rfl] at H
            replace H := Option.bind_eq_some_iff.1 H
            obtain ⟨y722, hy7220, H⟩ := H
            try dsimp only at H
            have hy722 := Option.some.inj hy7220
            clear hy7220
            have Ny722 := Aside0.mk hy722
            clear hy722
            by_cases c12 : x7_0.length + y722.length < 8796093022208
            · rw [if_pos c12] at H
              have LMc12 := Aside0.mk c12
              clear c12
              replace H := Option.bind_eq_some_iff.1 H
              obtain ⟨y723, hy7230, H⟩ := H
              try dsimp only at H
              have hy723 := Option.some.inj hy7230
              clear hy7230
              have Ny723 := Aside0.mk hy723
              clear hy723
              have H' := Aside0.mk H
              clear H
              have hb_ := SL.at_ HS.out
              have hz3000111_0_0 := ((blk_cell hb_ 0).trans rfl : _ = some (.int .i64 ((rd_T26 t719 x15_0).f0)))
              have hz3000111_1_0 := ((blk_cell hb_ 1).trans rfl : _ = some (.int .i64 ((rd_T26 t719 x15_0).f1)))
              clear hb_
              refine hG_.out ?_
              go_wp2_with (first | ((with_reducible refine gate_dst (N := 25) rfl ?_); refine wpList_plain rfl (fun K_ hK_ => ?_); refine op_rowF (S := S) (d := k26) ⟨fun h_ => h_⟩ 26 y722 #[.int .i64 ((rd_T26 t719 x15_0).f0), .int .i64 ((rd_T26 t719 x15_0).f1)] 1 (by rw [← Ny722.out]; exact reps_cons (k26_mkM _ 0 _ (⟨(rd_T26 t719 x15_0).f0, (rd_T26 t719 x15_0).f1⟩ : S26)) rfl (Reps.none _ _)) (by rw [← Ny722.out]; rfl) (by decide) (HF.out.keep HK.out) HS.out (by first | (go_simp; done) | (go_simp; rfl)) ?_; intro Az3000112 cz3000112 w13 hs_ hk_; refine hK_ _ _ ?_; clear hK_ K_; replace HS := Aside0.mk ((show SL (row k26 26 (.slice Az3000112 1 cz3000112) y722 :: _) _ _ from hs_)); replace HK := Aside0.mk (HK.out.trans hk_); (try clear hz3000111_0_0 hz3000111_1_0)) | ((with_reducible refine gate_dst (N := 26) rfl ?_); refine wpList_plain rfl (fun K_ hK_ => ?_); refine op_appendF (S := S) (d := k26) ⟨fun h_ => h_⟩ (.tmp 23) (.tmp 25) 32 26 (.agg #[(.int .i64 0), (.int .i64 0)]) 16 rfl Try.underlying32 info26 rfl (by decide) (by decide) (.slice Ax7_0 x7_0.length cx7_0) rfl rfl (HF.out.keep HK.out) (SL.get2 HS.out) (SL.row_c HS.out).2.2 (by have := LMc12.out; have e_ := (SL.row_c HS.out).1; omega) y723 Ny723.out ?_; intro A724 c725 w14 hs_ hk_; refine hK_ _ _ ?_; clear hK_ K_; replace HS := Aside0.mk ((SL.back2 (show SL (row k26 26 (.slice A724 y723.length c725) y723 :: _) _ _ from hs_))); replace HK := Aside0.mk (HK.out.trans hk_)))
              replace HS := Aside0.mk (SL.tail (SL.tail HS.out))
              go_roundg k1
              case measure => have := HQ1.out; omega
              case rel => exact ⟨(y723), (A724), (c725), (wrap64 (x15_0 + 1)), (by first | rfl | (simp; done) | (simp [*]; done)), (by first | rfl | (simp; done) | (simp [*]; done)), H', ⟨by have := HQ1.out; omega⟩, HS, HK⟩
            · rw [if_neg c12] at H
              exact absurd H (by simp)
          · replace c11 := Bool.eq_false_iff.mpr c11
            subst c11
            rw [if_neg (show ¬ (false = true) by decide)] at H
            have H' := Aside0.mk H
            clear H
            refine hG_.out ?_
            go_wp2
            replace HS := Aside0.mk (SL.tail HS.out)
            go_roundg k1
            case measure => have := HQ1.out; omega
            case rel => exact ⟨(x7_0), (Ax7_0), (cx7_0), (wrap64 (x15_0 + 1)), (by first | rfl | (simp; done) | (simp [*]; done)), (by first | rfl | (simp; done) | (simp [*]; done)), H', ⟨by have := HQ1.out; omega⟩, HS, HK⟩
        · rw [if_neg c6] at H
          exact absurd H (by simp)
      · rw [if_neg c5] at H
        have c5b0 : decide (x15_0 < (t719.length : Int)) = false := decide_eq_false c5
        clear c5
        obtain rfl := Option.some.inj H
        go_wp2
        go_ret
        replace HS := Aside0.mk (SL.tail (SL.get1 (SL.tail (SL.get1 (SL.tail (SL.get1 HS.out))))))
        unfold sight_Seen.Post
        exact ⟨Ax7_0, cx7_0, by first | rfl | (simp; done) | (simp [*]; done), HS.out, HK.out⟩

end Go.Proofs.Ytljmecjciifceaa.XSG
