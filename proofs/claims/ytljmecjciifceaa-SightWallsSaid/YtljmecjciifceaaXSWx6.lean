-- Written by xprint.py (a program of this session) for this claim
import Derived.Test.YtljmecjciifceaaSL5
import Derived.Test.YtljmecjciifceaaSL4
import Derived.Test.YtljmecjciifceaaXSWx0
import Derived.Test.YtljmecjciifceaaXSWx2
import Derived.Test.YtljmecjciifceaaXSWx3
import Derived.Test.YtljmecjciifceaaXSWx5
namespace Go.Proofs.Ytljmecjciifceaa.XSW
open Go.Proofs.YtljmecjciifceaaV Go.Proofs.YtljmecjciifceaaS
open Go.RowKit Go.Proofs.YtljmecjciifceaaW.PrintWords Go.Proofs.YtljmecjciifceaaW.PrintLast Go.Proofs.YtljmecjciifceaaW.PrintMore
attribute [local go_sem] max2_int min2_int max_two min_two max_three min_three max_four min_four   -- for this text's walks alone
set_option linter.unusedVariables false
set_option linter.unusedSimpArgs false

/-! ### sight_lane_all_i1: function 25 -/
mutual
def sight_lane_all_i1.l0 : Nat → Int → Int → Int → Int → (List Bool) → Int → Int → Int → Int → Int → Int → Int → Int → Bool → Int → Int → Int → Int → Option (Int × Int × Int × Int × Int × Int × Bool × Int × Int × Int × Int)
  | 0, _, _, _, _, _, _, _, _, _, _, _, _, _, _, _, _, _, _ => none
  | k + 1, a0_0, a0_1, a0_2, a0_3, lo2_2, t172, x5_0, x1_0_0, x1_1_0, x1_2_0, x1_3_0, x2_0_0, x2_1_0, x3_0_0, x4_0_0, x4_1_0, x5_0_0, x5_1_0 => (some (mx a0_1 a0_3 : Int)).bind fun j224 => (if x5_0 ≤ j224 then ((some (mn a0_0 a0_2 : Int)).bind fun j225 => (sight_lane_all_i1.l1 k a0_0 a0_1 a0_2 a0_3 lo2_2 t172 x5_0 false j225 x1_0_0 x1_1_0 x1_2_0 x1_3_0 x2_0_0 x2_1_0 x3_0_0 x4_0_0 x4_1_0 x5_0_0 x5_1_0)) else (some (x1_0_0, x1_1_0, x1_2_0, x1_3_0, x2_0_0, x2_1_0, x3_0_0, x4_0_0, x4_1_0, x5_0_0, x5_1_0)))
def sight_lane_all_i1.l1 : Nat → Int → Int → Int → Int → (List Bool) → Int → Int → Bool → Int → Int → Int → Int → Int → Int → Int → Bool → Int → Int → Int → Int → Option (Int × Int × Int × Int × Int × Int × Bool × Int × Int × Int × Int)
  | 0, _, _, _, _, _, _, _, _, _, _, _, _, _, _, _, _, _, _, _, _ => none
  | k + 1, a0_0, a0_1, a0_2, a0_3, lo2_2, t172, x5_0, x6_1, x7_1, x1_0_1, x1_1_1, x1_2_1, x1_3_1, x2_0_1, x2_1_1, x3_0_1, x4_0_1, x4_1_1, x5_0_1, x5_1_1 => (some (mx a0_0 a0_2 : Int)).bind fun j226 => (if x7_1 ≤ j226 then ((sight_lane_beside.f a0_0 a0_1 a0_2 a0_3 x7_1 x5_0).bind fun t227 => (if t227 ≤ t172 then ((sight_First_1_i1.f k x7_1 x5_0 x1_0_1 x1_1_1 x1_2_1 x1_3_1 x2_0_1 x2_1_1 lo2_2 x3_0_1 x4_0_1 x4_1_1 x5_0_1 x5_1_1).bind fun bt228 => (if bt228.1 = true then (sight_lane_all_i1.l1 k a0_0 a0_1 a0_2 a0_3 lo2_2 t172 x5_0 true (wrap64 (x7_1 + 1)) bt228.2.1 bt228.2.2.1 bt228.2.2.2.1 bt228.2.2.2.2.1 bt228.2.2.2.2.2.1 bt228.2.2.2.2.2.2.1 bt228.2.2.2.2.2.2.2.1 bt228.2.2.2.2.2.2.2.2.1 bt228.2.2.2.2.2.2.2.2.2.1 bt228.2.2.2.2.2.2.2.2.2.2.1 bt228.2.2.2.2.2.2.2.2.2.2.2) else (some (bt228.2.1, bt228.2.2.1, bt228.2.2.2.1, bt228.2.2.2.2.1, bt228.2.2.2.2.2.1, bt228.2.2.2.2.2.2.1, bt228.2.2.2.2.2.2.2.1, bt228.2.2.2.2.2.2.2.2.1, bt228.2.2.2.2.2.2.2.2.2.1, bt228.2.2.2.2.2.2.2.2.2.2.1, bt228.2.2.2.2.2.2.2.2.2.2.2)))) else (if x6_1 = true then (sight_lane_all_i1.l0 k a0_0 a0_1 a0_2 a0_3 lo2_2 t172 (wrap64 (x5_0 + 1)) x1_0_1 x1_1_1 x1_2_1 x1_3_1 x2_0_1 x2_1_1 x3_0_1 x4_0_1 x4_1_1 x5_0_1 x5_1_1) else (sight_lane_all_i1.l1 k a0_0 a0_1 a0_2 a0_3 lo2_2 t172 x5_0 false (wrap64 (x7_1 + 1)) x1_0_1 x1_1_1 x1_2_1 x1_3_1 x2_0_1 x2_1_1 x3_0_1 x4_0_1 x4_1_1 x5_0_1 x5_1_1)))) else (sight_lane_all_i1.l0 k a0_0 a0_1 a0_2 a0_3 lo2_2 t172 (wrap64 (x5_0 + 1)) x1_0_1 x1_1_1 x1_2_1 x1_3_1 x2_0_1 x2_1_1 x3_0_1 x4_0_1 x4_1_1 x5_0_1 x5_1_1))
end
def sight_lane_all_i1.f (k : Nat) (a0_0 : Int) (a0_1 : Int) (a0_2 : Int) (a0_3 : Int) (s1_0 : Int) (s1_1 : Int) (s1_2 : Int) (s1_3 : Int) (s2_0 : Int) (s2_1 : Int) (lo2_2 : List Bool) (s3_0 : Bool) (s4_0 : Int) (s4_1 : Int) (s5_0 : Int) (s5_1 : Int) : Option (Int × Int × Int × Int × Int × Int × Bool × Int × Int × Int × Int) := (sight_lane_reach.f a0_0 a0_1 a0_2 a0_3).bind fun t172 => ((some (mn a0_1 a0_3 : Int)).bind fun j173 => (sight_lane_all_i1.l0 k a0_0 a0_1 a0_2 a0_3 lo2_2 t172 j173 s1_0 s1_1 s1_2 s1_3 s2_0 s2_1 s3_0 s4_0 s4_1 s5_0 s5_1))
theorem sight_lane_all_i1.mono_l : ∀ k, (∀ y0 y1 y2 y3 y4 y5 y6 y7 y8 y9 y10 y11 y12 y13 y14 y15 y16 y17, LeO (sight_lane_all_i1.l0 k y0 y1 y2 y3 y4 y5 y6 y7 y8 y9 y10 y11 y12 y13 y14 y15 y16 y17) (sight_lane_all_i1.l0 (k + 1) y0 y1 y2 y3 y4 y5 y6 y7 y8 y9 y10 y11 y12 y13 y14 y15 y16 y17)) ∧ (∀ y0 y1 y2 y3 y4 y5 y6 y7 y8 y9 y10 y11 y12 y13 y14 y15 y16 y17 y18 y19, LeO (sight_lane_all_i1.l1 k y0 y1 y2 y3 y4 y5 y6 y7 y8 y9 y10 y11 y12 y13 y14 y15 y16 y17 y18 y19) (sight_lane_all_i1.l1 (k + 1) y0 y1 y2 y3 y4 y5 y6 y7 y8 y9 y10 y11 y12 y13 y14 y15 y16 y17 y18 y19))
  | 0 => ⟨fun _ _ _ _ _ _ _ _ _ _ _ _ _ _ _ _ _ _ r h => by simp [sight_lane_all_i1.l0] at h, fun _ _ _ _ _ _ _ _ _ _ _ _ _ _ _ _ _ _ _ _ r h => by simp [sight_lane_all_i1.l1] at h⟩
  | k + 1 => by
    obtain ⟨ih0, ih1⟩ := sight_lane_all_i1.mono_l k
    refine ⟨?_, ?_⟩
    · intro y0 y1 y2 y3 y4 y5 y6 y7 y8 y9 y10 y11 y12 y13 y14 y15 y16 y17
      unfold sight_lane_all_i1.l0
      repeat' first
      | (with_reducible exact ih0 _ _ _ _ _ _ _ _ _ _ _ _ _ _ _ _ _ _)
      | (with_reducible exact ih1 _ _ _ _ _ _ _ _ _ _ _ _ _ _ _ _ _ _ _ _)
      | (with_reducible exact sight_First_1_i1.mono _ _ _ _ _ _ _ _ _ _ _ _ _ _ _)
      | (with_reducible exact LeO.refl _)
      | (with_reducible exact LeO.none _)
      | (with_reducible refine LeO.ite ?_ ?_)
      | (with_reducible refine everyOf_le (fun _ => ?_))
      | (with_reducible refine LeO.bind ?_ (fun _ => ?_))
      | exact ih0 _ _ _ _ _ _ _ _ _ _ _ _ _ _ _ _ _ _
      | exact ih1 _ _ _ _ _ _ _ _ _ _ _ _ _ _ _ _ _ _ _ _
      | exact sight_First_1_i1.mono _ _ _ _ _ _ _ _ _ _ _ _ _ _ _
      | exact LeO.none _
      | refine LeO.ite ?_ ?_
      | refine LeO.bind ?_ (fun _ => ?_)
    · intro y0 y1 y2 y3 y4 y5 y6 y7 y8 y9 y10 y11 y12 y13 y14 y15 y16 y17 y18 y19
      unfold sight_lane_all_i1.l1
      repeat' first
      | (with_reducible exact ih0 _ _ _ _ _ _ _ _ _ _ _ _ _ _ _ _ _ _)
      | (with_reducible exact ih1 _ _ _ _ _ _ _ _ _ _ _ _ _ _ _ _ _ _ _ _)
      | (with_reducible exact sight_First_1_i1.mono _ _ _ _ _ _ _ _ _ _ _ _ _ _ _)
      | (with_reducible exact LeO.refl _)
      | (with_reducible exact LeO.none _)
      | (with_reducible refine LeO.ite ?_ ?_)
      | (with_reducible refine everyOf_le (fun _ => ?_))
      | (with_reducible refine LeO.bind ?_ (fun _ => ?_))
      | exact ih0 _ _ _ _ _ _ _ _ _ _ _ _ _ _ _ _ _ _
      | exact ih1 _ _ _ _ _ _ _ _ _ _ _ _ _ _ _ _ _ _ _ _
      | exact sight_First_1_i1.mono _ _ _ _ _ _ _ _ _ _ _ _ _ _ _
      | exact LeO.none _
      | refine LeO.ite ?_ ?_
      | refine LeO.bind ?_ (fun _ => ?_)
theorem sight_lane_all_i1.mono : ∀ a0 a1 a2 a3 a4 a5 a6 a7 a8 a9 a10 a11 a12 a13 a14 a15 k, LeO (sight_lane_all_i1.f k a0 a1 a2 a3 a4 a5 a6 a7 a8 a9 a10 a11 a12 a13 a14 a15) (sight_lane_all_i1.f (k + 1) a0 a1 a2 a3 a4 a5 a6 a7 a8 a9 a10 a11 a12 a13 a14 a15) := by
  intro a0 a1 a2 a3 a4 a5 a6 a7 a8 a9 a10 a11 a12 a13 a14 a15 k
  obtain ⟨ih0, ih1⟩ := sight_lane_all_i1.mono_l k
  unfold sight_lane_all_i1.f
  repeat' first
      | (with_reducible exact ih0 _ _ _ _ _ _ _ _ _ _ _ _ _ _ _ _ _ _)
      | (with_reducible exact ih1 _ _ _ _ _ _ _ _ _ _ _ _ _ _ _ _ _ _ _ _)
      | (with_reducible exact sight_First_1_i1.mono _ _ _ _ _ _ _ _ _ _ _ _ _ _ _)
      | (with_reducible exact LeO.refl _)
      | (with_reducible exact LeO.none _)
      | (with_reducible refine LeO.ite ?_ ?_)
      | (with_reducible refine everyOf_le (fun _ => ?_))
      | (with_reducible refine LeO.bind ?_ (fun _ => ?_))
      | exact ih0 _ _ _ _ _ _ _ _ _ _ _ _ _ _ _ _ _ _
      | exact ih1 _ _ _ _ _ _ _ _ _ _ _ _ _ _ _ _ _ _ _ _
      | exact sight_First_1_i1.mono _ _ _ _ _ _ _ _ _ _ _ _ _ _ _
      | exact LeO.none _
      | refine LeO.ite ?_ ?_
      | refine LeO.bind ?_ (fun _ => ?_)
def sight_lane_all_i1.Post (b0 : Nat) (b1 : Nat) (b2 : Nat) (Ao2_2 : Option Addr) (co2_2 : Nat) (lo2_2 : List Bool) (b3 : Nat) (b4 : Nat) (b5 : Nat) (r1 : Int) (r2 : Int) (r3 : Int) (r4 : Int) (r5 : Int) (r6 : Int) (r7 : Bool) (r8 : Int) (r9 : Int) (r10 : Int) (r11 : Int) (S : Nat → Prop) (L : List Asr) (w : World) (e : Ending) (w' : World) : Prop := e = .returned (.tuple #[]) ∧ SL (cells b0 46 [.func (.func 40) #[] #[.pointer (some ⟨b1, 0, none⟩), .pointer (some ⟨b2, 0, none⟩)]].toArray :: cells b1 43 [.int .i64 r1, .int .i64 r2, .int .i64 r3, .int .i64 r4].toArray :: cells b2 24 [.int .i64 r5, .int .i64 r6, .slice Ao2_2 lo2_2.length co2_2].toArray :: cells b3 4 [.bool r7].toArray :: cells b4 26 [.int .i64 r8, .int .i64 r9].toArray :: cells b5 26 [.int .i64 r10, .int .i64 r11].toArray :: L) w' S ∧ Keep S w w'
set_option maxHeartbeats 8000000 in
set_option maxRecDepth 100000 in
theorem sight_lane_all_i1.slcalls (k : Nat) (a0_0 : Int) (a0_1 : Int) (a0_2 : Int) (a0_3 : Int) (b0 : Nat) (b1 : Nat) (s1_0 : Int) (s1_1 : Int) (s1_2 : Int) (s1_3 : Int) (b2 : Nat) (s2_0 : Int) (s2_1 : Int) (Ao2_2 : Option Addr) (co2_2 : Nat) (lo2_2 : List Bool) (b3 : Nat) (s3_0 : Bool) (b4 : Nat) (s4_0 : Int) (s4_1 : Int) (b5 : Nat) (s5_0 : Int) (s5_1 : Int) (r1 : Int) (r2 : Int) (r3 : Int) (r4 : Int) (r5 : Int) (r6 : Int) (r7 : Bool) (r8 : Int) (r9 : Int) (r10 : Int) (r11 : Int) (S : Nat → Prop) (L : List Asr) (w : World) (hf : Fresh S w) (hs : SL (cells b0 46 [.func (.func 40) #[] #[.pointer (some ⟨b1, 0, none⟩), .pointer (some ⟨b2, 0, none⟩)]].toArray :: cells b1 43 [.int .i64 s1_0, .int .i64 s1_1, .int .i64 s1_2, .int .i64 s1_3].toArray :: cells b2 24 [.int .i64 s2_0, .int .i64 s2_1, .slice Ao2_2 lo2_2.length co2_2].toArray :: cells b3 4 [.bool s3_0].toArray :: cells b4 26 [.int .i64 s4_0, .int .i64 s4_1].toArray :: cells b5 26 [.int .i64 s5_0, .int .i64 s5_1].toArray :: L) w S) (hro2_2 : RO S w (fun w_ => Kd.C Kd.bool w_ Ao2_2 lo2_2.length lo2_2)) (hco2_2 : lo2_2.length ≤ co2_2) (h : sight_lane_all_i1.f k a0_0 a0_1 a0_2 a0_3 s1_0 s1_1 s1_2 s1_3 s2_0 s2_1 lo2_2 s3_0 s4_0 s4_1 s5_0 s5_1 = some (r1, r2, r3, r4, r5, r6, r7, r8, r9, r10, r11)) :
    Calls Try.prog 25 #[.agg #[.int .i64 a0_0, .int .i64 a0_1, .int .i64 a0_2, .int .i64 a0_3], .func (.func 26) #[] #[.pointer (some ⟨b0, 0, none⟩), .pointer (some ⟨b3, 0, none⟩), .pointer (some ⟨b4, 0, none⟩), .pointer (some ⟨b5, 0, none⟩)]] w (sight_lane_all_i1.Post b0 b1 b2 Ao2_2 co2_2 lo2_2 b3 b4 b5 r1 r2 r3 r4 r5 r6 r7 r8 r9 r10 r11 S L w) := by
  have HRo2_2 := Aside0.mk hro2_2
  have HCo2_2 := Aside0.mk hco2_2
  clear hro2_2 hco2_2
  have HF := Aside0.mk hf
  have HS := Aside0.mk hs
  have HK := Aside0.mk (Keep.refl S w)
  clear hf hs
  have hu26 := Try.underlying26
  have hu43 := Try.underlying43
  have H : ((sight_lane_reach.f a0_0 a0_1 a0_2 a0_3).bind fun t172 => ((some (mn a0_1 a0_3 : Int)).bind fun j173 => (sight_lane_all_i1.l0 k a0_0 a0_1 a0_2 a0_3 lo2_2 t172 j173 s1_0 s1_1 s1_2 s1_3 s2_0 s2_1 s3_0 s4_0 s4_1 s5_0 s5_1))) = some (r1, r2, r3, r4, r5, r6, r7, r8, r9, r10, r11) := h
  clear h
  replace H := Option.bind_eq_some_iff.1 H
  obtain ⟨t172, Hc10, H⟩ := H
  try dsimp only at H
  have Hc1 := Aside0.mk Hc10
  clear Hc10
  replace H := Option.bind_eq_some_iff.1 H
  obtain ⟨j173, hj1730, H⟩ := H
  try dsimp only at H
  have hj173 := Option.some.inj hj1730
  clear hj1730
  have hj173_ : (if a0_3 < a0_1 then a0_3 else a0_1) = j173 := hj173
  have H' := Aside0.mk H
  clear H
  go_enter Try.func25, Try.ntmps25
  try go_wp2_with (first | ((with_reducible refine gate_dst (N := 2) rfl ?_); refine wpList_plain rfl (fun K_ hK_ => ?_); refine op_box (S := S) (cs := #[.int .i64 a0_0, .int .i64 a0_1, .int .i64 a0_2, .int .i64 a0_3]) (t := 43) (HF.out.keep HK.out) HS.out (by first | (go_simp; done) | (go_simp; rfl)) ?_; intro g3000022 w2 hs_ hk_; refine hK_ _ _ ?_; clear hK_ K_; replace HS := Aside0.mk (hs_); replace HK := Aside0.mk (HK.out.trans hk_); have hb_ := SL.at_ HS.out; have hz3000022_0_1 := ((blk_cell hb_ 0).trans rfl : _ = some (.int .i64 a0_0)); have hz3000022_1_1 := ((blk_cell hb_ 1).trans rfl : _ = some (.int .i64 a0_1)); have hz3000022_2_1 := ((blk_cell hb_ 2).trans rfl : _ = some (.int .i64 a0_2)); have hz3000022_3_1 := ((blk_cell hb_ 3).trans rfl : _ = some (.int .i64 a0_3)); clear hb_) | ((with_reducible refine gate_dst (N := 10) rfl ?_); refine goesL_ (some 10) rfl rfl Try.func41 (by kernel_rfl) rfl #[.agg #[.int .i64 a0_0, .int .i64 a0_1, .int .i64 a0_2, .int .i64 a0_3]] rfl (by (try simp only [List.map_toArray, List.map_cons, List.map_nil]); first | done | rfl | (simp; done)) ?_; (with_reducible refine (sight_lane_reach.calls _ _ _ _ _ _  Hc1.out).mono ?_); rintro e_ w3 ⟨rfl, hb_⟩; refine ⟨_, rfl, ?_⟩; replace HS := Aside0.mk (HS.out.below hb_); replace HK := Aside0.mk (HK.out.trans (Keep.below hb_)); (try clear hz3000022_0_1 hz3000022_1_1 hz3000022_2_1 hz3000022_3_1); have hb_ := SL.at_ HS.out; have hz3000022_0_2 := ((blk_cell hb_ 0).trans rfl : _ = some (.int .i64 a0_0)); have hz3000022_1_2 := ((blk_cell hb_ 1).trans rfl : _ = some (.int .i64 a0_1)); have hz3000022_2_2 := ((blk_cell hb_ 2).trans rfl : _ = some (.int .i64 a0_2)); have hz3000022_3_2 := ((blk_cell hb_ 3).trans rfl : _ = some (.int .i64 a0_3)); clear hb_))
  go_step3
  try go_wp2_with (first | ((with_reducible refine gate_dst (N := 2) rfl ?_); refine wpList_plain rfl (fun K_ hK_ => ?_); refine op_box (S := S) (cs := #[.int .i64 a0_0, .int .i64 a0_1, .int .i64 a0_2, .int .i64 a0_3]) (t := 43) (HF.out.keep HK.out) HS.out (by first | (go_simp; done) | (go_simp; rfl)) ?_; intro g3000022 w2 hs_ hk_; refine hK_ _ _ ?_; clear hK_ K_; replace HS := Aside0.mk (hs_); replace HK := Aside0.mk (HK.out.trans hk_); have hb_ := SL.at_ HS.out; have hz3000022_0_1 := ((blk_cell hb_ 0).trans rfl : _ = some (.int .i64 a0_0)); have hz3000022_1_1 := ((blk_cell hb_ 1).trans rfl : _ = some (.int .i64 a0_1)); have hz3000022_2_1 := ((blk_cell hb_ 2).trans rfl : _ = some (.int .i64 a0_2)); have hz3000022_3_1 := ((blk_cell hb_ 3).trans rfl : _ = some (.int .i64 a0_3)); clear hb_) | ((with_reducible refine gate_dst (N := 10) rfl ?_); refine goesL_ (some 10) rfl rfl Try.func41 (by kernel_rfl) rfl #[.agg #[.int .i64 a0_0, .int .i64 a0_1, .int .i64 a0_2, .int .i64 a0_3]] rfl (by (try simp only [List.map_toArray, List.map_cons, List.map_nil]); first | done | rfl | (simp; done)) ?_; (with_reducible refine (sight_lane_reach.calls _ _ _ _ _ _  Hc1.out).mono ?_); rintro e_ w3 ⟨rfl, hb_⟩; refine ⟨_, rfl, ?_⟩; replace HS := Aside0.mk (HS.out.below hb_); replace HK := Aside0.mk (HK.out.trans (Keep.below hb_)); (try clear hz3000022_0_1 hz3000022_1_1 hz3000022_2_1 hz3000022_3_1); have hb_ := SL.at_ HS.out; have hz3000022_0_2 := ((blk_cell hb_ 0).trans rfl : _ = some (.int .i64 a0_0)); have hz3000022_1_2 := ((blk_cell hb_ 1).trans rfl : _ = some (.int .i64 a0_1)); have hz3000022_2_2 := ((blk_cell hb_ 2).trans rfl : _ = some (.int .i64 a0_2)); have hz3000022_3_2 := ((blk_cell hb_ 3).trans rfl : _ = some (.int .i64 a0_3)); clear hb_))
  go_step3
  try go_wp2_with (first | ((with_reducible refine gate_dst (N := 2) rfl ?_); refine wpList_plain rfl (fun K_ hK_ => ?_); refine op_box (S := S) (cs := #[.int .i64 a0_0, .int .i64 a0_1, .int .i64 a0_2, .int .i64 a0_3]) (t := 43) (HF.out.keep HK.out) HS.out (by first | (go_simp; done) | (go_simp; rfl)) ?_; intro g3000022 w2 hs_ hk_; refine hK_ _ _ ?_; clear hK_ K_; replace HS := Aside0.mk (hs_); replace HK := Aside0.mk (HK.out.trans hk_); have hb_ := SL.at_ HS.out; have hz3000022_0_1 := ((blk_cell hb_ 0).trans rfl : _ = some (.int .i64 a0_0)); have hz3000022_1_1 := ((blk_cell hb_ 1).trans rfl : _ = some (.int .i64 a0_1)); have hz3000022_2_1 := ((blk_cell hb_ 2).trans rfl : _ = some (.int .i64 a0_2)); have hz3000022_3_1 := ((blk_cell hb_ 3).trans rfl : _ = some (.int .i64 a0_3)); clear hb_) | ((with_reducible refine gate_dst (N := 10) rfl ?_); refine goesL_ (some 10) rfl rfl Try.func41 (by kernel_rfl) rfl #[.agg #[.int .i64 a0_0, .int .i64 a0_1, .int .i64 a0_2, .int .i64 a0_3]] rfl (by (try simp only [List.map_toArray, List.map_cons, List.map_nil]); first | done | rfl | (simp; done)) ?_; (with_reducible refine (sight_lane_reach.calls _ _ _ _ _ _  Hc1.out).mono ?_); rintro e_ w3 ⟨rfl, hb_⟩; refine ⟨_, rfl, ?_⟩; replace HS := Aside0.mk (HS.out.below hb_); replace HK := Aside0.mk (HK.out.trans (Keep.below hb_)); (try clear hz3000022_0_1 hz3000022_1_1 hz3000022_2_1 hz3000022_3_1); have hb_ := SL.at_ HS.out; have hz3000022_0_2 := ((blk_cell hb_ 0).trans rfl : _ = some (.int .i64 a0_0)); have hz3000022_1_2 := ((blk_cell hb_ 1).trans rfl : _ = some (.int .i64 a0_1)); have hz3000022_2_2 := ((blk_cell hb_ 2).trans rfl : _ = some (.int .i64 a0_2)); have hz3000022_3_2 := ((blk_cell hb_ 3).trans rfl : _ = some (.int .i64 a0_3)); clear hb_))
  try simp only [Exit.noGoto_ret, Exit.noGoto_normal, Exit.noGoto_exit]
  go_loopg [5] k (fun kq v5 w' => ∃ (x1_0_0 : Int) (x1_1_0 : Int) (x1_2_0 : Int) (x1_3_0 : Int) (x2_0_0 : Int) (x2_1_0 : Int) (x3_0_0 : Bool) (x4_0_0 : Int) (x4_1_0 : Int) (x5_0_0 : Int) (x5_1_0 : Int) (x5_0 : Int), v5 = .int .i64 x5_0 ∧ Aside0 (sight_lane_all_i1.l0 kq a0_0 a0_1 a0_2 a0_3 lo2_2 t172 x5_0 x1_0_0 x1_1_0 x1_2_0 x1_3_0 x2_0_0 x2_1_0 x3_0_0 x4_0_0 x4_1_0 x5_0_0 x5_1_0 = some (r1, r2, r3, r4, r5, r6, r7, r8, r9, r10, r11)) ∧ Aside0 (kq ≤ k) ∧ Aside0 (SL (cells g3000022 43 [.int .i64 a0_0, .int .i64 a0_1, .int .i64 a0_2, .int .i64 a0_3].toArray :: cells b0 46 [.func (.func 40) #[] #[.pointer (some ⟨b1, 0, none⟩), .pointer (some ⟨b2, 0, none⟩)]].toArray :: cells b1 43 [.int .i64 x1_0_0, .int .i64 x1_1_0, .int .i64 x1_2_0, .int .i64 x1_3_0].toArray :: cells b2 24 [.int .i64 x2_0_0, .int .i64 x2_1_0, .slice Ao2_2 lo2_2.length co2_2].toArray :: cells b3 4 [.bool x3_0_0].toArray :: cells b4 26 [.int .i64 x4_0_0, .int .i64 x4_1_0].toArray :: cells b5 26 [.int .i64 x5_0_0, .int .i64 x5_1_0].toArray :: L) w' S) ∧ Aside0 (Keep S w w'))
  case atStart => exact ⟨(s1_0), (s1_1), (s1_2), (s1_3), (s2_0), (s2_1), (s3_0), (s4_0), (s4_1), (s5_0), (s5_1), (j173), (by first | rfl | (simp; done) | (simp [*]; done)), H', ⟨Nat.le_refl _⟩, HS, HK⟩
  case round =>
    clear H' HS HK
    try clear hz3000022_0_0 hz3000022_1_0 hz3000022_2_0 hz3000022_3_0
    try clear hz3000022_0_0 hz3000022_1_0 hz3000022_2_0 hz3000022_3_0
    try clear hz3000022_0_0 hz3000022_1_0 hz3000022_2_0 hz3000022_3_0
    obtain ⟨x1_0_0, x1_1_0, x1_2_0, x1_3_0, x2_0_0, x2_1_0, x3_0_0, x4_0_0, x4_1_0, x5_0_0, x5_1_0, x5_0, rfl, HA, HQ1, HS, HK⟩ := hrel
    cases gk with
    | zero => exact absurd HA.out (by simp [sight_lane_all_i1.l0])
    | succ k1 =>
      have H := HA.out
      clear HA
      simp only [sight_lane_all_i1.l0] at H
      replace H := Option.bind_eq_some_iff.1 H
      obtain ⟨j224, hj2240, H⟩ := H
      try dsimp only at H
      have hj224 := Option.some.inj hj2240
      clear hj2240
      have hj224_ : (if a0_1 < a0_3 then a0_3 else a0_1) = j224 := hj224
      by_cases c4 : x5_0 ≤ j224
      · rw [if_pos c4] at H
        have c4b0 : decide (x5_0 ≤ j224) = true := decide_eq_true c4
        clear c4
        replace H := Option.bind_eq_some_iff.1 H
        obtain ⟨j225, hj2250, H⟩ := H
        try dsimp only at H
        have hj225 := Option.some.inj hj2250
        clear hj2250
        have hj225_ : (if a0_2 < a0_0 then a0_2 else a0_0) = j225 := hj225
        have H' := Aside0.mk H
        clear H
        have hb_ := SL.at_ HS.out
        have hz3000022_0_0 := ((blk_cell hb_ 0).trans rfl : _ = some (.int .i64 a0_0))
        have hz3000022_1_0 := ((blk_cell hb_ 1).trans rfl : _ = some (.int .i64 a0_1))
        have hz3000022_2_0 := ((blk_cell hb_ 2).trans rfl : _ = some (.int .i64 a0_2))
        have hz3000022_3_0 := ((blk_cell hb_ 3).trans rfl : _ = some (.int .i64 a0_3))
        clear hb_
        go_wp2
        try simp only [Exit.noGoto_ret, Exit.noGoto_normal, Exit.noGoto_exit]
        go_loopg [6, 7] k1 (fun kq v6 v7 w' => ∃ (x1_0_1 : Int) (x1_1_1 : Int) (x1_2_1 : Int) (x1_3_1 : Int) (x2_0_1 : Int) (x2_1_1 : Int) (x3_0_1 : Bool) (x4_0_1 : Int) (x4_1_1 : Int) (x5_0_1 : Int) (x5_1_1 : Int) (x6_1 : Bool) (x7_1 : Int), v6 = .bool x6_1 ∧ v7 = .int .i64 x7_1 ∧ Aside0 (sight_lane_all_i1.l1 kq a0_0 a0_1 a0_2 a0_3 lo2_2 t172 x5_0 x6_1 x7_1 x1_0_1 x1_1_1 x1_2_1 x1_3_1 x2_0_1 x2_1_1 x3_0_1 x4_0_1 x4_1_1 x5_0_1 x5_1_1 = some (r1, r2, r3, r4, r5, r6, r7, r8, r9, r10, r11)) ∧ Aside0 (kq ≤ k1) ∧ Aside0 (SL (cells g3000022 43 [.int .i64 a0_0, .int .i64 a0_1, .int .i64 a0_2, .int .i64 a0_3].toArray :: cells b0 46 [.func (.func 40) #[] #[.pointer (some ⟨b1, 0, none⟩), .pointer (some ⟨b2, 0, none⟩)]].toArray :: cells b1 43 [.int .i64 x1_0_1, .int .i64 x1_1_1, .int .i64 x1_2_1, .int .i64 x1_3_1].toArray :: cells b2 24 [.int .i64 x2_0_1, .int .i64 x2_1_1, .slice Ao2_2 lo2_2.length co2_2].toArray :: cells b3 4 [.bool x3_0_1].toArray :: cells b4 26 [.int .i64 x4_0_1, .int .i64 x4_1_1].toArray :: cells b5 26 [.int .i64 x5_0_1, .int .i64 x5_1_1].toArray :: L) w' S) ∧ Aside0 (Keep S w w'))
        case atStart => exact ⟨(x1_0_0), (x1_1_0), (x1_2_0), (x1_3_0), (x2_0_0), (x2_1_0), (x3_0_0), (x4_0_0), (x4_1_0), (x5_0_0), (x5_1_0), (false), (j225), (by first | rfl | (simp; done) | (simp [*]; done)), (by first | rfl | (simp; done) | (simp [*]; done)), H', ⟨Nat.le_refl _⟩, HS, HK⟩
        case round =>
          clear H' HS HK
          try clear hz3000022_0_0 hz3000022_1_0 hz3000022_2_0 hz3000022_3_0
          try clear hz3000022_0_0 hz3000022_1_0 hz3000022_2_0 hz3000022_3_0
          try clear hz3000022_0_0 hz3000022_1_0 hz3000022_2_0 hz3000022_3_0
          try clear hz3000022_0_0 hz3000022_1_0 hz3000022_2_0 hz3000022_3_0
          obtain ⟨x1_0_1, x1_1_1, x1_2_1, x1_3_1, x2_0_1, x2_1_1, x3_0_1, x4_0_1, x4_1_1, x5_0_1, x5_1_1, x6_1, x7_1, rfl, rfl, HA, HQ2, HS, HK⟩ := hrel
          cases gk with
          | zero => exact absurd HA.out (by simp [sight_lane_all_i1.l1])
          | succ k2 =>
            have H := HA.out
            clear HA
            simp only [sight_lane_all_i1.l1] at H
            replace H := Option.bind_eq_some_iff.1 H
            obtain ⟨j226, hj2260, H⟩ := H
            try dsimp only at H
            have hj226 := Option.some.inj hj2260
            clear hj2260
            have hj226_ : (if a0_0 < a0_2 then a0_2 else a0_0) = j226 := hj226
            by_cases c5 : x7_1 ≤ j226
            · rw [if_pos c5] at H
              have c5b0 : decide (x7_1 ≤ j226) = true := decide_eq_true c5
              clear c5
              replace H := Option.bind_eq_some_iff.1 H
              obtain ⟨t227, Hc60, H⟩ := H
              try dsimp only at H
              have Hc6 := Aside0.mk Hc60
              clear Hc60
              have H' := Aside0.mk H
              clear H
              have hb_ := SL.at_ HS.out
              have hz3000022_0_0 := ((blk_cell hb_ 0).trans rfl : _ = some (.int .i64 a0_0))
              have hz3000022_1_0 := ((blk_cell hb_ 1).trans rfl : _ = some (.int .i64 a0_1))
              have hz3000022_2_0 := ((blk_cell hb_ 2).trans rfl : _ = some (.int .i64 a0_2))
              have hz3000022_3_0 := ((blk_cell hb_ 3).trans rfl : _ = some (.int .i64 a0_3))
              clear hb_
              go_wp2_with (first | ((with_reducible refine gate_dst (N := 8) rfl ?_); refine wpList_plain rfl (fun K_ hK_ => ?_); refine op_box (S := S) (cs := #[.int .i64 0, .int .i64 0]) (t := 26) (HF.out.keep HK.out) HS.out (by first | (go_simp; done) | (go_simp; rfl)) ?_; intro g3000023 w7 hs_ hk_; refine hK_ _ _ ?_; clear hK_ K_; replace HS := Aside0.mk (hs_); replace HK := Aside0.mk (HK.out.trans hk_); (try clear hz3000022_0_0 hz3000022_1_0 hz3000022_2_0 hz3000022_3_0)) | ((with_reducible refine gate_store (t := 26) (p := 8) (v := (.tmp 49)) rfl ?_); refine wpList_plain rfl (fun K_ hK_ => ?_); refine op_store (S := S) 26 (.tmp 8) (.tmp 49) rfl g3000023 0 (.agg #[.int .i64 x7_1, .int .i64 x5_0]) [.int .i64 x7_1, .int .i64 x5_0] rfl rfl rfl (by kernel_rfl) (by simp [Value.oneCell']) HS.out (by simp) ?_; intro w8 hs_ hk_; refine hK_ _ _ ?_; clear hK_ K_; replace HS := Aside0.mk ((show SL (cells g3000023 26 [.int .i64 x7_1, .int .i64 x5_0].toArray :: _) _ _ from hs_)); replace HK := Aside0.mk (HK.out.trans hk_); have hb_ := SL.at_ HS.out; have hz3000023_0_2 := ((blk_cell hb_ 0).trans rfl : _ = some (.int .i64 x7_1)); have hz3000023_1_2 := ((blk_cell hb_ 1).trans rfl : _ = some (.int .i64 x5_0)); clear hb_; have hb_ := SL.at_ (SL.get1 HS.out); have hz3000022_0_2 := ((blk_cell hb_ 0).trans rfl : _ = some (.int .i64 a0_0)); have hz3000022_1_2 := ((blk_cell hb_ 1).trans rfl : _ = some (.int .i64 a0_1)); have hz3000022_2_2 := ((blk_cell hb_ 2).trans rfl : _ = some (.int .i64 a0_2)); have hz3000022_3_2 := ((blk_cell hb_ 3).trans rfl : _ = some (.int .i64 a0_3)); clear hb_) | ((with_reducible refine gate_dst (N := 53) rfl ?_); refine goesL_ (some 53) rfl rfl Try.func42 (by kernel_rfl) rfl #[.agg #[.int .i64 a0_0, .int .i64 a0_1, .int .i64 a0_2, .int .i64 a0_3], .agg #[.int .i64 x7_1, .int .i64 x5_0]] rfl (by (try simp only [List.map_toArray, List.map_cons, List.map_nil]); first | done | rfl | (simp; done)) ?_; (with_reducible refine (sight_lane_beside.calls _ _ _ _ _ _ _ _  Hc6.out).mono ?_); rintro e_ w9 ⟨rfl, hb_⟩; refine ⟨_, rfl, ?_⟩; replace HS := Aside0.mk (HS.out.below hb_); replace HK := Aside0.mk (HK.out.trans (Keep.below hb_)); (try clear hz3000022_0_2 hz3000022_1_2 hz3000022_2_2 hz3000022_3_2); (try clear hz3000023_0_2 hz3000023_1_2); refine stop_ ?_; intro G_ hG_))
              try simp only [Exit.noGoto_ret, Exit.noGoto_normal, Exit.noGoto_exit]
              have H := H'.out
              clear H'
              by_cases c10 : t227 ≤ t172
              · rw [if_pos c10] at H
                have c10b0 : decide (t227 ≤ t172) = true := decide_eq_true c10
                clear c10
                replace H := Option.bind_eq_some_iff.1 H
                obtain ⟨⟨t228, t229, t230, t231, t232, t233, t234, t235, t236, t237, t238, t239⟩, Hc110, H⟩ := H
                try dsimp only at H
                have Hc11 := Aside0.mk Hc110
                clear Hc110
                by_cases c12 : t228 = true
                · subst c12
                  rw [if_pos rfl] at H
                  have H' := Aside0.mk H
                  clear H
                  have hb_ := SL.at_ HS.out
                  have hz3000023_0_0 := ((blk_cell hb_ 0).trans rfl : _ = some (.int .i64 x7_1))
                  have hz3000023_1_0 := ((blk_cell hb_ 1).trans rfl : _ = some (.int .i64 x5_0))
                  clear hb_
                  refine hG_.out ?_
                  try simp only [c10b0]
                  go_wp2_with (first | ((with_reducible refine gate_dst (N := 58) rfl ?_); refine goesLc_ (some 58) rfl (by with_unfolding_all rfl) rfl Try.func26 (by kernel_rfl) rfl #[.agg #[.int .i64 x7_1, .int .i64 x5_0], .pointer (some ⟨b0, 0, none⟩), .pointer (some ⟨b3, 0, none⟩), .pointer (some ⟨b4, 0, none⟩), .pointer (some ⟨b5, 0, none⟩)] rfl (by (try simp only [List.map_toArray, List.map_cons, List.map_nil]); first | done | rfl | (simp; done)) ?_; have hs0_ := (SL.get7 (SL.get7 (SL.get7 (SL.get7 (SL.get7 (SL.get7 HS.out)))))); (with_reducible refine (sight_First_1_i1.slcalls k2 _ _ _ _ _ _ _ _ _ _ _ _ _ _ _ _ _ _ _ _ _ _ _ _ _ _ _ _ _ _ _ _ _ _ _ _ _ (HF.out.keep HK.out) hs0_ (HRo2_2.out.keep HK.out) HCo2_2.out Hc11.out).mono ?_); rintro e_ w13 ⟨rfl, hsr_, hkr_⟩; refine ⟨_, rfl, ?_⟩; replace HS := Aside0.mk (hsr_); replace HK := Aside0.mk (HK.out.trans hkr_); (try clear hz3000023_0_0 hz3000023_1_0)))
                  try simp only [Exit.noGoto_ret, Exit.noGoto_normal, Exit.noGoto_exit]
                  replace HS := Aside0.mk (SL.get6 (SL.get5 (SL.get5 (SL.get5 (SL.get5 (SL.get5 (SL.get5 (SL.tail (SL.get6 HS.out)))))))))
                  go_roundg k2
                  case measure => have := HQ1.out; have := HQ2.out; omega
                  case rel => exact ⟨(t229), (t230), (t231), (t232), (t233), (t234), (t235), (t236), (t237), (t238), (t239), (true), (wrap64 (x7_1 + 1)), (by first | rfl | (simp; done) | (simp [*]; done)), (by first | rfl | (simp; done) | (simp [*]; done)), H', ⟨by have := HQ1.out; have := HQ2.out; omega⟩, HS, HK⟩
                · replace c12 := Bool.eq_false_iff.mpr c12
                  subst c12
                  rw [if_neg (show ¬ (false = true) by decide)] at H
                  simp only [Option.some.injEq, Prod.mk.injEq] at H
                  obtain ⟨rfl, rfl, rfl, rfl, rfl, rfl, rfl, rfl, rfl, rfl, rfl⟩ := H
                  have hb_ := SL.at_ HS.out
                  have hz3000023_0_0 := ((blk_cell hb_ 0).trans rfl : _ = some (.int .i64 x7_1))
                  have hz3000023_1_0 := ((blk_cell hb_ 1).trans rfl : _ = some (.int .i64 x5_0))
                  clear hb_
                  refine hG_.out ?_
                  try simp only [c10b0]
                  go_wp2_with (first | ((with_reducible refine gate_dst (N := 58) rfl ?_); refine goesLc_ (some 58) rfl (by with_unfolding_all rfl) rfl Try.func26 (by kernel_rfl) rfl #[.agg #[.int .i64 x7_1, .int .i64 x5_0], .pointer (some ⟨b0, 0, none⟩), .pointer (some ⟨b3, 0, none⟩), .pointer (some ⟨b4, 0, none⟩), .pointer (some ⟨b5, 0, none⟩)] rfl (by (try simp only [List.map_toArray, List.map_cons, List.map_nil]); first | done | rfl | (simp; done)) ?_; have hs0_ := (SL.get7 (SL.get7 (SL.get7 (SL.get7 (SL.get7 (SL.get7 HS.out)))))); (with_reducible refine (sight_First_1_i1.slcalls k2 _ _ _ _ _ _ _ _ _ _ _ _ _ _ _ _ _ _ _ _ _ _ _ _ _ _ _ _ _ _ _ _ _ _ _ _ _ (HF.out.keep HK.out) hs0_ (HRo2_2.out.keep HK.out) HCo2_2.out Hc11.out).mono ?_); rintro e_ w14 ⟨rfl, hsr_, hkr_⟩; refine ⟨_, rfl, ?_⟩; replace HS := Aside0.mk (hsr_); replace HK := Aside0.mk (HK.out.trans hkr_); (try clear hz3000023_0_0 hz3000023_1_0)))
                  try simp only [Exit.noGoto_ret, Exit.noGoto_normal, Exit.noGoto_exit]
                  first | go_end0 | ((try simp only [Exit.inBlock, Exit.then]); refine bodyPost_ret (results_none rfl _ _ _) rfl ?_)
                  replace HS := Aside0.mk (SL.tail (SL.get6 (SL.tail (SL.get6 HS.out))))
                  unfold sight_lane_all_i1.Post
                  exact ⟨by first | rfl | (simp; done) | (simp [*]; done) | (simp at c10b0 ⊢; first | exact c10b0 | (simp [c10b0]; done)), HS.out, HK.out⟩
              · rw [if_neg c10] at H
                have c10b0 : decide (t227 ≤ t172) = false := decide_eq_false c10
                clear c10
                by_cases c15 : x6_1 = true
                · subst c15
                  rw [if_pos rfl] at H
                  have H' := Aside0.mk H
                  clear H
                  refine hG_.out ?_
                  try simp only [c10b0]
                  go_wp2
                  try simp only [Exit.noGoto_ret, Exit.noGoto_normal, Exit.noGoto_exit]
                  replace HS := Aside0.mk (SL.tail HS.out)
                  go_roundg k2
                  case measure => have := HQ1.out; have := HQ2.out; omega
                  case rel => exact ⟨(x1_0_1), (x1_1_1), (x1_2_1), (x1_3_1), (x2_0_1), (x2_1_1), (x3_0_1), (x4_0_1), (x4_1_1), (x5_0_1), (x5_1_1), (wrap64 (x5_0 + 1)), (by first | rfl | (simp; done) | (simp [*]; done)), H', ⟨by have := HQ1.out; have := HQ2.out; omega⟩, HS, HK⟩
                · replace c15 := Bool.eq_false_iff.mpr c15
                  subst c15
                  rw [if_neg (show ¬ (false = true) by decide)] at H
                  have H' := Aside0.mk H
                  clear H
                  refine hG_.out ?_
                  try simp only [c10b0]
                  go_wp2
                  try simp only [Exit.noGoto_ret, Exit.noGoto_normal, Exit.noGoto_exit]
                  replace HS := Aside0.mk (SL.tail HS.out)
                  go_roundg k2
                  case measure => have := HQ1.out; have := HQ2.out; omega
                  case rel => exact ⟨(x1_0_1), (x1_1_1), (x1_2_1), (x1_3_1), (x2_0_1), (x2_1_1), (x3_0_1), (x4_0_1), (x4_1_1), (x5_0_1), (x5_1_1), (false), (wrap64 (x7_1 + 1)), (by first | rfl | (simp; done) | (simp [*]; done)), (by first | rfl | (simp; done) | (simp [*]; done)), H', ⟨by have := HQ1.out; have := HQ2.out; omega⟩, HS, HK⟩
            · rw [if_neg c5] at H
              have c5b0 : decide (x7_1 ≤ j226) = false := decide_eq_false c5
              clear c5
              have H' := Aside0.mk H
              clear H
              have hb_ := SL.at_ HS.out
              have hz3000022_0_0 := ((blk_cell hb_ 0).trans rfl : _ = some (.int .i64 a0_0))
              have hz3000022_1_0 := ((blk_cell hb_ 1).trans rfl : _ = some (.int .i64 a0_1))
              have hz3000022_2_0 := ((blk_cell hb_ 2).trans rfl : _ = some (.int .i64 a0_2))
              have hz3000022_3_0 := ((blk_cell hb_ 3).trans rfl : _ = some (.int .i64 a0_3))
              clear hb_
              go_wp2
              try simp only [Exit.noGoto_ret, Exit.noGoto_normal, Exit.noGoto_exit]
              go_roundg k2
              case measure => have := HQ1.out; have := HQ2.out; omega
              case rel => exact ⟨(x1_0_1), (x1_1_1), (x1_2_1), (x1_3_1), (x2_0_1), (x2_1_1), (x3_0_1), (x4_0_1), (x4_1_1), (x5_0_1), (x5_1_1), (wrap64 (x5_0 + 1)), (by first | rfl | (simp; done) | (simp [*]; done)), H', ⟨by have := HQ1.out; have := HQ2.out; omega⟩, HS, HK⟩
      · rw [if_neg c4] at H
        have c4b0 : decide (x5_0 ≤ j224) = false := decide_eq_false c4
        clear c4
        simp only [Option.some.injEq, Prod.mk.injEq] at H
        obtain ⟨rfl, rfl, rfl, rfl, rfl, rfl, rfl, rfl, rfl, rfl, rfl⟩ := H
        have hb_ := SL.at_ HS.out
        have hz3000022_0_0 := ((blk_cell hb_ 0).trans rfl : _ = some (.int .i64 a0_0))
        have hz3000022_1_0 := ((blk_cell hb_ 1).trans rfl : _ = some (.int .i64 a0_1))
        have hz3000022_2_0 := ((blk_cell hb_ 2).trans rfl : _ = some (.int .i64 a0_2))
        have hz3000022_3_0 := ((blk_cell hb_ 3).trans rfl : _ = some (.int .i64 a0_3))
        clear hb_
        go_wp2
        try simp only [Exit.noGoto_ret, Exit.noGoto_normal, Exit.noGoto_exit]
        first | go_end0 | ((try simp only [Exit.inBlock, Exit.then]); refine bodyPost_ret (results_none rfl _ _ _) rfl ?_)
        replace HS := Aside0.mk (SL.tail HS.out)
        unfold sight_lane_all_i1.Post
        exact ⟨by first | rfl | (simp; done) | (simp [*]; done) | (simp at c4b0 ⊢; first | exact c4b0 | (simp [c4b0]; done)), HS.out, HK.out⟩

/-! ### sight_First: function 9 -/
def sight_First.f (k : Nat) (a0_0 : Int) (a0_1 : Int) (l0_2 : List Bool) (a1_0 : Int) (a1_1 : Int) (a2_0 : Int) (a2_1 : Int) : Option (Int × Int × Bool) := (sight_between.f a0_0 a0_1 l0_2 a1_0 a1_1 a2_0 a2_1).bind fun bt161 => (if bt161.2.2.2.2 = true then ((sight_lane_walls.f bt161.1 bt161.2.1 bt161.2.2.1 bt161.2.2.2.1 a0_0 a0_1 l0_2).bind fun bt166 => ((sight_lane_all_i1.f k bt161.1 bt161.2.1 bt161.2.2.1 bt161.2.2.2.1 bt166.1 bt166.2.1 bt166.2.2.1 bt166.2.2.2.1 bt166.2.2.2.2.1 bt166.2.2.2.2.2 l0_2 false a1_0 a1_1 0 0).bind fun bt240 => (some (bt240.2.2.2.2.2.2.2.2.2.1, bt240.2.2.2.2.2.2.2.2.2.2, bt240.2.2.2.2.2.2.1)))) else (some (0, 0, false)))
theorem sight_First.mono : ∀ a0 a1 a2 a3 a4 a5 a6 k, LeO (sight_First.f k a0 a1 a2 a3 a4 a5 a6) (sight_First.f (k + 1) a0 a1 a2 a3 a4 a5 a6) := by
  intro a0 a1 a2 a3 a4 a5 a6 k
  unfold sight_First.f
  repeat' first
      | (with_reducible exact sight_lane_all_i1.mono _ _ _ _ _ _ _ _ _ _ _ _ _ _ _ _ _)
      | (with_reducible exact LeO.refl _)
      | (with_reducible exact LeO.none _)
      | (with_reducible refine LeO.ite ?_ ?_)
      | (with_reducible refine everyOf_le (fun _ => ?_))
      | (with_reducible refine LeO.bind ?_ (fun _ => ?_))
      | exact sight_lane_all_i1.mono _ _ _ _ _ _ _ _ _ _ _ _ _ _ _ _ _
      | exact LeO.none _
      | refine LeO.ite ?_ ?_
      | refine LeO.bind ?_ (fun _ => ?_)
def sight_First.Post (r1 : Int) (r2 : Int) (r3 : Bool) (S : Nat → Prop) (L : List Asr) (w : World) (e : Ending) (w' : World) : Prop := e = .returned (.tuple #[.agg #[.int .i64 r1, .int .i64 r2], .bool r3]) ∧ SL (L) w' S ∧ Keep S w w'
set_option maxHeartbeats 8000000 in
set_option maxRecDepth 100000 in
theorem sight_First.slcalls (k : Nat) (a0_0 : Int) (a0_1 : Int) (A0_2 : Option Addr) (c0_2 : Nat) (l0_2 : List Bool) (a1_0 : Int) (a1_1 : Int) (a2_0 : Int) (a2_1 : Int) (r1 : Int) (r2 : Int) (r3 : Bool) (S : Nat → Prop) (L : List Asr) (w : World) (hf : Fresh S w) (hs : SL (L) w S) (hr0_2 : RO S w (fun w_ => Kd.C Kd.bool w_ A0_2 l0_2.length l0_2)) (hc0_2 : l0_2.length ≤ c0_2) (h : sight_First.f k a0_0 a0_1 l0_2 a1_0 a1_1 a2_0 a2_1 = some (r1, r2, r3)) :
    Calls Try.prog 9 #[.agg #[.int .i64 a0_0, .int .i64 a0_1, .slice A0_2 l0_2.length c0_2], .agg #[.int .i64 a1_0, .int .i64 a1_1], .agg #[.int .i64 a2_0, .int .i64 a2_1]] w (sight_First.Post r1 r2 r3 S L w) := by
  have HR0_2 := Aside0.mk hr0_2
  have HC0_2 := Aside0.mk hc0_2
  clear hr0_2 hc0_2
  have HF := Aside0.mk hf
  have HS := Aside0.mk hs
  have HK := Aside0.mk (Keep.refl S w)
  clear hf hs
  have hu24 := Try.underlying24
  have hu26 := Try.underlying26
  have hu43 := Try.underlying43
  have H : ((sight_between.f a0_0 a0_1 l0_2 a1_0 a1_1 a2_0 a2_1).bind fun bt161 => (if bt161.2.2.2.2 = true then ((sight_lane_walls.f bt161.1 bt161.2.1 bt161.2.2.1 bt161.2.2.2.1 a0_0 a0_1 l0_2).bind fun bt166 => ((sight_lane_all_i1.f k bt161.1 bt161.2.1 bt161.2.2.1 bt161.2.2.2.1 bt166.1 bt166.2.1 bt166.2.2.1 bt166.2.2.2.1 bt166.2.2.2.2.1 bt166.2.2.2.2.2 l0_2 false a1_0 a1_1 0 0).bind fun bt240 => (some (bt240.2.2.2.2.2.2.2.2.2.1, bt240.2.2.2.2.2.2.2.2.2.2, bt240.2.2.2.2.2.2.1)))) else (some (0, 0, false)))) = some (r1, r2, r3) := h
  clear h
  replace H := Option.bind_eq_some_iff.1 H
  obtain ⟨⟨t161, t162, t163, t164, t165⟩, Hc10, H⟩ := H
  try dsimp only at H
  have Hc1 := Aside0.mk Hc10
  clear Hc10
  have H' := Aside0.mk H
  clear H
  go_enter Try.func9, Try.ntmps9
  go_wp2_with (first | ((with_reducible refine gate_dst (N := 3) rfl ?_); refine wpList_plain rfl (fun K_ hK_ => ?_); refine op_box (S := S) (cs := #[.int .i64 a0_0, .int .i64 a0_1, .slice A0_2 l0_2.length c0_2]) (t := 24) (HF.out.keep HK.out) HS.out (by first | (go_simp; done) | (go_simp; rfl)) ?_; intro g3000013 w2 hs_ hk_; refine hK_ _ _ ?_; clear hK_ K_; replace HS := Aside0.mk (hs_); replace HK := Aside0.mk (HK.out.trans hk_)) | ((with_reducible refine gate_dst (N := 4) rfl ?_); refine wpList_plain rfl (fun K_ hK_ => ?_); refine op_box (S := S) (cs := #[.int .i64 a1_0, .int .i64 a1_1]) (t := 26) (HF.out.keep HK.out) HS.out (by first | (go_simp; done) | (go_simp; rfl)) ?_; intro g3000014 w3 hs_ hk_; refine hK_ _ _ ?_; clear hK_ K_; replace HS := Aside0.mk (hs_); replace HK := Aside0.mk (HK.out.trans hk_)) | ((with_reducible refine gate_dst (N := 5) rfl ?_); refine wpList_plain rfl (fun K_ hK_ => ?_); refine op_box (S := S) (cs := #[.int .i64 a2_0, .int .i64 a2_1]) (t := 26) (HF.out.keep HK.out) HS.out (by first | (go_simp; done) | (go_simp; rfl)) ?_; intro g3000015 w4 hs_ hk_; refine hK_ _ _ ?_; clear hK_ K_; replace HS := Aside0.mk (hs_); replace HK := Aside0.mk (HK.out.trans hk_)) | ((with_reducible refine gate_dst (N := 6) rfl ?_); refine wpList_plain rfl (fun K_ hK_ => ?_); refine op_box (S := S) (cs := #[.int .i64 0, .int .i64 0]) (t := 26) (HF.out.keep HK.out) HS.out (by first | (go_simp; done) | (go_simp; rfl)) ?_; intro g3000016 w5 hs_ hk_; refine hK_ _ _ ?_; clear hK_ K_; replace HS := Aside0.mk (hs_); replace HK := Aside0.mk (HK.out.trans hk_)) | ((with_reducible refine gate_dst (N := 7) rfl ?_); refine wpList_plain rfl (fun K_ hK_ => ?_); refine op_box (S := S) (cs := #[.bool false]) (t := 4) (HF.out.keep HK.out) HS.out (by first | (go_simp; done) | (go_simp; rfl)) ?_; intro g3000017 w6 hs_ hk_; refine hK_ _ _ ?_; clear hK_ K_; replace HS := Aside0.mk (hs_); replace HK := Aside0.mk (HK.out.trans hk_); have hb_ := SL.at_ (SL.get2 HS.out); have hz3000015_0_5 := ((blk_cell hb_ 0).trans rfl : _ = some (.int .i64 a2_0)); have hz3000015_1_5 := ((blk_cell hb_ 1).trans rfl : _ = some (.int .i64 a2_1)); clear hb_; have hb_ := SL.at_ (SL.get3 HS.out); have hz3000014_0_5 := ((blk_cell hb_ 0).trans rfl : _ = some (.int .i64 a1_0)); have hz3000014_1_5 := ((blk_cell hb_ 1).trans rfl : _ = some (.int .i64 a1_1)); clear hb_; have hb_ := SL.at_ (SL.get4 HS.out); have hz3000013_0_5 := ((blk_cell hb_ 0).trans rfl : _ = some (.int .i64 a0_0)); have hz3000013_1_5 := ((blk_cell hb_ 1).trans rfl : _ = some (.int .i64 a0_1)); have hz3000013_2_5 := ((blk_cell hb_ 2).trans rfl : _ = some (.slice A0_2 l0_2.length c0_2)); clear hb_) | ((with_reducible refine gate_dst (N := 15) rfl ?_); refine goesL_ (some 15) rfl rfl Try.func23 (by kernel_rfl) rfl #[.agg #[.int .i64 a0_0, .int .i64 a0_1, .slice A0_2 l0_2.length c0_2], .agg #[.int .i64 a1_0, .int .i64 a1_1], .agg #[.int .i64 a2_0, .int .i64 a2_1]] rfl (by (try simp only [List.map_toArray, List.map_cons, List.map_nil]); first | done | rfl | (simp; done)) ?_; (with_reducible refine (sight_between.calls _ _ _ _ _ _ _ _ _ _ _ _ _ _ _ (RO.at_ HR0_2.out HK.out) HC0_2.out Hc1.out).mono ?_); rintro e_ w7 ⟨rfl, hb_⟩; refine ⟨_, rfl, ?_⟩; replace HS := Aside0.mk (HS.out.below hb_); replace HK := Aside0.mk (HK.out.trans (Keep.below hb_)); (try clear hz3000013_0_5 hz3000013_1_5 hz3000013_2_5); (try clear hz3000014_0_5 hz3000014_1_5); (try clear hz3000015_0_5 hz3000015_1_5)) | ((with_reducible refine gate_dst (N := 8) rfl ?_); refine wpList_plain rfl (fun K_ hK_ => ?_); refine op_box (S := S) (cs := #[.int .i64 0, .int .i64 0, .int .i64 0, .int .i64 0]) (t := 43) (HF.out.keep HK.out) HS.out (by first | (go_simp; done) | (go_simp; rfl)) ?_; intro g3000018 w8 hs_ hk_; refine hK_ _ _ ?_; clear hK_ K_; replace HS := Aside0.mk (hs_); replace HK := Aside0.mk (HK.out.trans hk_)) | ((with_reducible refine gate_store (t := 43) (p := 8) (v := (.tmp 16)) rfl ?_); refine wpList_plain rfl (fun K_ hK_ => ?_); refine op_store (S := S) 43 (.tmp 8) (.tmp 16) rfl g3000018 0 (.agg #[.int .i64 t161, .int .i64 t162, .int .i64 t163, .int .i64 t164]) [.int .i64 t161, .int .i64 t162, .int .i64 t163, .int .i64 t164] rfl rfl rfl (by kernel_rfl) (by simp [Value.oneCell']) HS.out (by simp) ?_; intro w9 hs_ hk_; refine hK_ _ _ ?_; clear hK_ K_; replace HS := Aside0.mk ((show SL (cells g3000018 43 [.int .i64 t161, .int .i64 t162, .int .i64 t163, .int .i64 t164].toArray :: _) _ _ from hs_)); replace HK := Aside0.mk (HK.out.trans hk_); refine stop_ ?_; intro G_ hG_))
  have H := H'.out
  clear H'
  by_cases c10 : t165 = true
  · subst c10
    rw [if_pos rfl] at H
    replace H := Option.bind_eq_some_iff.1 H
    obtain ⟨⟨t166, t167, t168, t169, t170, t171⟩, Hc110, H⟩ := H
    try dsimp only at H
    have Hc11 := Aside0.mk Hc110
    clear Hc110
    replace H := Option.bind_eq_some_iff.1 H
    obtain ⟨⟨t240, t241, t242, t243, t244, t245, t246, t247, t248, t249, t250⟩, Hc120, H⟩ := H
    try dsimp only at H
    have Hc12 := Aside0.mk Hc120
    clear Hc120
    simp only [Option.some.injEq, Prod.mk.injEq] at H
    obtain ⟨rfl, rfl, rfl⟩ := H
    have hb_ := SL.at_ HS.out
    have hz3000018_0_0 := ((blk_cell hb_ 0).trans rfl : _ = some (.int .i64 t161))
    have hz3000018_1_0 := ((blk_cell hb_ 1).trans rfl : _ = some (.int .i64 t162))
    have hz3000018_2_0 := ((blk_cell hb_ 2).trans rfl : _ = some (.int .i64 t163))
    have hz3000018_3_0 := ((blk_cell hb_ 3).trans rfl : _ = some (.int .i64 t164))
    clear hb_
    have hb_ := SL.at_ (SL.get5 HS.out)
    have hz3000013_0_0 := ((blk_cell hb_ 0).trans rfl : _ = some (.int .i64 a0_0))
    have hz3000013_1_0 := ((blk_cell hb_ 1).trans rfl : _ = some (.int .i64 a0_1))
    have hz3000013_2_0 := ((blk_cell hb_ 2).trans rfl : _ = some (.slice A0_2 l0_2.length c0_2))
    clear hb_
    refine hG_.out ?_
    try go_wp2_with (first | ((with_reducible refine gate_dst (N := 23) rfl ?_); refine goesL_ (some 23) rfl rfl Try.func24 (by kernel_rfl) rfl #[.agg #[.int .i64 t161, .int .i64 t162, .int .i64 t163, .int .i64 t164], .agg #[.int .i64 a0_0, .int .i64 a0_1, .slice A0_2 l0_2.length c0_2]] rfl (by (try simp only [List.map_toArray, List.map_cons, List.map_nil]); first | done | rfl | (simp; done)) ?_; have hs0_ := HS.out; (with_reducible refine (sight_lane_walls.slcalls _ _ _ _ _ _ _ _ _ _ _ _ _ _ _ _ _ _ (HF.out.keep HK.out) hs0_ (HR0_2.out.keep HK.out) HC0_2.out Hc11.out).mono ?_); rintro e_ w13 ⟨g3000019, g3000020, rfl, hsr_, hkr_⟩; refine ⟨_, rfl, ?_⟩; replace HS := Aside0.mk (hsr_); replace HK := Aside0.mk (HK.out.trans hkr_); (try clear hz3000013_0_0 hz3000013_1_0 hz3000013_2_0); (try clear hz3000018_0_0 hz3000018_1_0 hz3000018_2_0 hz3000018_3_0)) | ((with_reducible refine gate_dst (N := 10) rfl ?_); refine wpList_plain rfl (fun K_ hK_ => ?_); refine op_box (S := S) (cs := #[.nilFunc]) (t := 46) (HF.out.keep HK.out) HS.out (by first | (go_simp; done) | (go_simp; rfl)) ?_; intro g3000021 w14 hs_ hk_; refine hK_ _ _ ?_; clear hK_ K_; replace HS := Aside0.mk (hs_); replace HK := Aside0.mk (HK.out.trans hk_)) | ((with_reducible refine gate_store (t := 46) (p := 10) (v := (.tmp 23)) rfl ?_); refine wpList_plain rfl (fun K_ hK_ => ?_); refine op_store (S := S) 46 (.tmp 10) (.tmp 23) rfl g3000021 0 (.func (.func 40) #[] #[.pointer (some ⟨g3000019, 0, none⟩), .pointer (some ⟨g3000020, 0, none⟩)]) [.func (.func 40) #[] #[.pointer (some ⟨g3000019, 0, none⟩), .pointer (some ⟨g3000020, 0, none⟩)]] rfl rfl rfl (by kernel_rfl) (by simp [Value.oneCell']) HS.out (by simp) ?_; intro w15 hs_ hk_; refine hK_ _ _ ?_; clear hK_ K_; replace HS := Aside0.mk ((show SL (cells g3000021 46 [.func (.func 40) #[] #[.pointer (some ⟨g3000019, 0, none⟩), .pointer (some ⟨g3000020, 0, none⟩)]].toArray :: _) _ _ from hs_)); replace HK := Aside0.mk (HK.out.trans hk_); have hb_ := SL.at_ (SL.get3 HS.out); have hz3000018_0_3 := ((blk_cell hb_ 0).trans rfl : _ = some (.int .i64 t161)); have hz3000018_1_3 := ((blk_cell hb_ 1).trans rfl : _ = some (.int .i64 t162)); have hz3000018_2_3 := ((blk_cell hb_ 2).trans rfl : _ = some (.int .i64 t163)); have hz3000018_3_3 := ((blk_cell hb_ 3).trans rfl : _ = some (.int .i64 t164)); clear hb_) | ((with_reducible refine gate_dst (N := 26) rfl ?_); refine goesL_ (some 26) rfl rfl Try.func25 (by kernel_rfl) rfl #[.agg #[.int .i64 t161, .int .i64 t162, .int .i64 t163, .int .i64 t164], .func (.func 26) #[] #[.pointer (some ⟨g3000021, 0, none⟩), .pointer (some ⟨g3000017, 0, none⟩), .pointer (some ⟨g3000014, 0, none⟩), .pointer (some ⟨g3000016, 0, none⟩)]] rfl (by (try simp only [List.map_toArray, List.map_cons, List.map_nil]); first | done | rfl | (simp; done)) ?_; have hs0_ := (SL.get5 (SL.get5 (SL.get5 (SL.get6 (SL.get7 (SL.get5 HS.out)))))); (with_reducible refine (sight_lane_all_i1.slcalls k _ _ _ _ _ _ _ _ _ _ _ _ _ _ _ _ _ _ _ _ _ _ _ _ _ _ _ _ _ _ _ _ _ _ _ _ _ _ (HF.out.keep HK.out) hs0_ (HR0_2.out.keep HK.out) HC0_2.out Hc12.out).mono ?_); rintro e_ w16 ⟨rfl, hsr_, hkr_⟩; refine ⟨_, rfl, ?_⟩; replace HS := Aside0.mk (hsr_); replace HK := Aside0.mk (HK.out.trans hkr_); (try clear hz3000018_0_3 hz3000018_1_3 hz3000018_2_3 hz3000018_3_3)))
    refine start_ (n := 4) (S := fun w' => w'.cell? ⟨g3000016, 0, none⟩ = some (.int .i64 t249) ∧ w'.cell? ⟨g3000016, 1, none⟩ = some (.int .i64 t250) ∧ w'.cell? ⟨g3000017, 0, none⟩ = some (.bool t246)) (ds := []) #[false, false, false, false] (by kernel_rfl) rfl rfl ⟨(((blk_cell (SL.at_ (SL.get5 HS.out)) 0).trans rfl)), (((blk_cell (SL.at_ (SL.get5 HS.out)) 1).trans rfl)), (((blk_cell (SL.at_ (SL.get3 HS.out)) 0).trans rfl))⟩ (fun hHeld => ?_)
    replace HK := Aside0.mk (Keep.drew HK.out)
    replace HS := Aside0.mk (SL.drew HS.out)
    refine take_ (i := 0) (N := some 27) (v := ?_) (a' := ?_) #[true, false, false, false] rfl rfl (by kernel_rfl) (fun _ _ _ h => h) (Or.inl ⟨by rfl, ?_⟩) hHeld ?_ ?_; rotate_left
    · rintro w' ⟨s0, s1, s2⟩
      go_simp
      with_reducible rfl
    rotate_left; · (simp only [Act.put, sT, sZ, sS, i64_w, i32_w]; rfl)
    refine take_ (i := 1) (N := some 28) (v := ?_) (a' := ?_) #[true, true, false, false] rfl rfl (by kernel_rfl) (fun _ _ _ h => h) (Or.inl ⟨by rfl, ?_⟩) hHeld ?_ ?_; rotate_left
    · rintro w' ⟨s0, s1, s2⟩
      go_simp
      with_reducible rfl
    rotate_left; · (simp only [Act.put, sT, sZ, sS, i64_w, i32_w]; rfl)
    refine one_ (i := 2) (N := none) #[true, true, true, false] rfl rfl (by kernel_rfl) (by decide) (fun K hK => ?_)
    refine st_of (by rfl) ?_
    refine op_store (S := S) 26 (.tmp 6) (.tmp 27) rfl g3000016 0 (.agg #[.int .i64 t249, .int .i64 t250]) [.int .i64 t249, .int .i64 t250] rfl rfl rfl (by kernel_rfl) (by simp [Value.oneCell']) (SL.get5 HS.out) (by simp) ?_
    intro w17 hs_ hk_
    replace HS := Aside0.mk ((SL.back5 (show SL (cells g3000016 26 [.int .i64 t249, .int .i64 t250].toArray :: _) _ _ from hs_)))
    replace HK := Aside0.mk (HK.out.trans hk_)
    refine hK.out _ _ ⟨(((blk_cell (SL.at_ (SL.get5 HS.out)) 0).trans rfl)), (((blk_cell (SL.at_ (SL.get5 HS.out)) 1).trans rfl)), (((blk_cell (SL.at_ (SL.get3 HS.out)) 0).trans rfl))⟩ (fun hHeld => ?_)
    clear hK K
    refine one_ (i := 3) (N := none) #[true, true, true, true] rfl rfl (by kernel_rfl) (by decide) (fun K hK => ?_)
    refine st_of (by rfl) ?_
    refine op_store (S := S) 4 (.tmp 7) (.tmp 28) rfl g3000017 0 (.bool t246) [.bool t246] rfl rfl rfl (by kernel_rfl) (by simp [Value.oneCell']) (SL.get3 HS.out) (by simp) ?_
    intro w18 hs_ hk_
    replace HS := Aside0.mk ((SL.back3 (show SL (cells g3000017 4 [.bool t246].toArray :: _) _ _ from hs_)))
    replace HK := Aside0.mk (HK.out.trans hk_)
    refine hK.out _ _ ⟨(((blk_cell (SL.at_ (SL.get5 HS.out)) 0).trans rfl)), (((blk_cell (SL.at_ (SL.get5 HS.out)) 1).trans rfl)), (((blk_cell (SL.at_ (SL.get3 HS.out)) 0).trans rfl))⟩ (fun hHeld => ?_)
    clear hK K
    refine done_ (by kernel_rfl) ?_
    try go_wp2
    refine bodyPost_ret (results_list2 (rs := [.cell 6 26, .cell 7 4]) rfl (by simp) (.cell g3000016 26 #[.int .i64 t249, .int .i64 t250] (0, 0) _ rfl (SL.at_ (SL.get5 HS.out)) Try.underlying26 rfl (by kernel_rfl) (.one g3000017 4 (.bool t246) (0, 0) _ rfl (SL.at_ (SL.get3 HS.out)) Try.underlying4 rfl .nil))) rfl ?_
    replace HS := Aside0.mk (SL.tail (SL.tail (SL.tail (SL.tail (SL.tail (SL.tail (SL.tail (SL.tail (SL.tail HS.out)))))))))
    unfold sight_First.Post
    exact ⟨by first | rfl | (simp; done) | (simp [*]; done), HS.out, HK.out⟩
  · replace c10 := Bool.eq_false_iff.mpr c10
    subst c10
    rw [if_neg (show ¬ (false = true) by decide)] at H
    simp only [Option.some.injEq, Prod.mk.injEq] at H
    obtain ⟨rfl, rfl, rfl⟩ := H
    have hb_ := SL.at_ (SL.get2 HS.out)
    have hz3000016_0_0 := ((blk_cell hb_ 0).trans rfl : _ = some (.int .i64 0))
    have hz3000016_1_0 := ((blk_cell hb_ 1).trans rfl : _ = some (.int .i64 0))
    clear hb_
    refine hG_.out ?_
    go_wp2_with (first | ((with_reducible refine gate_store (t := 26) (p := 6) (v := (.tmp 20)) rfl ?_); refine wpList_plain rfl (fun K_ hK_ => ?_); refine op_store (S := S) 26 (.tmp 6) (.tmp 20) rfl g3000016 0 (.agg #[.int .i64 0, .int .i64 0]) [.int .i64 0, .int .i64 0] rfl rfl rfl (by kernel_rfl) (by simp [Value.oneCell']) (SL.get2 HS.out) (by simp) ?_; intro w19 hs_ hk_; refine hK_ _ _ ?_; clear hK_ K_; replace HS := Aside0.mk ((SL.back2 (show SL (cells g3000016 26 [.int .i64 0, .int .i64 0].toArray :: _) _ _ from hs_))); replace HK := Aside0.mk (HK.out.trans hk_); (try clear hz3000016_0_0 hz3000016_1_0)) | ((with_reducible refine gate_store (t := 4) (p := 7) (v := (.const (.bool false))) rfl ?_); refine wpList_plain rfl (fun K_ hK_ => ?_); refine op_store (S := S) 4 (.tmp 7) (.const (.bool false)) rfl g3000017 0 (.bool false) [.bool false] rfl rfl rfl (by kernel_rfl) (by simp [Value.oneCell']) (SL.get1 HS.out) (by simp) ?_; intro w20 hs_ hk_; refine hK_ _ _ ?_; clear hK_ K_; replace HS := Aside0.mk ((SL.back1 (show SL (cells g3000017 4 [.bool false].toArray :: _) _ _ from hs_))); replace HK := Aside0.mk (HK.out.trans hk_)))
    refine bodyPost_ret (results_list2 (rs := [.cell 6 26, .cell 7 4]) rfl (by simp) (.cell g3000016 26 #[.int .i64 0, .int .i64 0] (0, 0) _ rfl (SL.at_ (SL.get2 HS.out)) Try.underlying26 rfl (by kernel_rfl) (.one g3000017 4 (.bool false) (0, 0) _ rfl (SL.at_ (SL.get1 HS.out)) Try.underlying4 rfl .nil))) rfl ?_
    replace HS := Aside0.mk (SL.tail (SL.tail (SL.tail (SL.tail (SL.tail (SL.tail HS.out))))))
    unfold sight_First.Post
    exact ⟨by first | rfl | (simp; done) | (simp [*]; done), HS.out, HK.out⟩
theorem sight_First.calls (k : Nat) (a0_0 : Int) (a0_1 : Int) (A0_2 : Option Addr) (c0_2 : Nat) (l0_2 : List Bool) (a1_0 : Int) (a1_1 : Int) (a2_0 : Int) (a2_1 : Int) (r1 : Int) (r2 : Int) (r3 : Bool) (w : World) (hr0_2 : Kd.C Kd.bool w A0_2 l0_2.length l0_2) (hc0_2 : l0_2.length ≤ c0_2) (h : sight_First.f k a0_0 a0_1 l0_2 a1_0 a1_1 a2_0 a2_1 = some (r1, r2, r3)) :
    Calls Try.prog 9 #[.agg #[.int .i64 a0_0, .int .i64 a0_1, .slice A0_2 l0_2.length c0_2], .agg #[.int .i64 a1_0, .int .i64 a1_1], .agg #[.int .i64 a2_0, .int .i64 a2_1]] w fun e w' => e = .returned (.tuple #[.agg #[.int .i64 r1, .int .i64 r2], .bool r3]) ∧ Below w.heap.size w w' :=
  (sight_First.slcalls k a0_0 a0_1 A0_2 c0_2 l0_2 a1_0 a1_1 a2_0 a2_1 r1 r2 r3 (news w) [] w (fresh_news w) trivial (RO.top hr0_2) hc0_2 h).mono fun _ _ h => ⟨h.1, h.2.2.to_below⟩

end Go.Proofs.Ytljmecjciifceaa.XSW
