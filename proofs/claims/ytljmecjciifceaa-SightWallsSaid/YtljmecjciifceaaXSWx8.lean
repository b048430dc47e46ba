-- Written by xprint.py (a program of this session) for this claim
import Derived.Test.YtljmecjciifceaaSL5
import Derived.Test.YtljmecjciifceaaXSWx0
import Derived.Test.YtljmecjciifceaaXSWx2
import Derived.Test.YtljmecjciifceaaXSWx3
import Derived.Test.YtljmecjciifceaaXSWx7
namespace Go.Proofs.Ytljmecjciifceaa.XSW
open Go.Proofs.YtljmecjciifceaaV Go.Proofs.YtljmecjciifceaaS
open Go.RowKit Go.Proofs.YtljmecjciifceaaW.PrintWords Go.Proofs.YtljmecjciifceaaW.PrintLast Go.Proofs.YtljmecjciifceaaW.PrintMore
attribute [local go_sem] max2_int min2_int max_two min_two max_three min_three max_four min_four   -- for this text's walks alone
set_option linter.unusedVariables false
set_option linter.unusedSimpArgs false

/-! ### sight_lane_all_i3: function 25 -/
mutual
def sight_lane_all_i3.l0 : Nat → Int → Int → Int → Int → (List Bool) → Int → Int → Int → Int → Int → Int → Int → Int → Bool → Option (Int × Int × Int × Int × Int × Int × Bool)
  | 0, _, _, _, _, _, _, _, _, _, _, _, _, _, _ => none
  | k + 1, a0_0, a0_1, a0_2, a0_3, lo2_2, t319, x5_0, x1_0_0, x1_1_0, x1_2_0, x1_3_0, x2_0_0, x2_1_0, x3_0_0 => (some (mx a0_1 a0_3 : Int)).bind fun j350 => (if x5_0 ≤ j350 then ((some (mn a0_0 a0_2 : Int)).bind fun j351 => (sight_lane_all_i3.l1 k a0_0 a0_1 a0_2 a0_3 lo2_2 t319 x5_0 false j351 x1_0_0 x1_1_0 x1_2_0 x1_3_0 x2_0_0 x2_1_0 x3_0_0)) else (some (x1_0_0, x1_1_0, x1_2_0, x1_3_0, x2_0_0, x2_1_0, x3_0_0)))
def sight_lane_all_i3.l1 : Nat → Int → Int → Int → Int → (List Bool) → Int → Int → Bool → Int → Int → Int → Int → Int → Int → Int → Bool → Option (Int × Int × Int × Int × Int × Int × Bool)
  | 0, _, _, _, _, _, _, _, _, _, _, _, _, _, _, _, _ => none
  | k + 1, a0_0, a0_1, a0_2, a0_3, lo2_2, t319, x5_0, x6_1, x7_1, x1_0_1, x1_1_1, x1_2_1, x1_3_1, x2_0_1, x2_1_1, x3_0_1 => (some (mx a0_0 a0_2 : Int)).bind fun j352 => (if x7_1 ≤ j352 then ((sight_lane_beside.f a0_0 a0_1 a0_2 a0_3 x7_1 x5_0).bind fun t353 => (if t353 ≤ t319 then ((sight_Sees_1_i1.f x7_1 x5_0 x1_0_1 x1_1_1 x1_2_1 x1_3_1 x2_0_1 x2_1_1 lo2_2 x3_0_1).bind fun bt354 => (if bt354.1 = true then (sight_lane_all_i3.l1 k a0_0 a0_1 a0_2 a0_3 lo2_2 t319 x5_0 true (wrap64 (x7_1 + 1)) bt354.2.1 bt354.2.2.1 bt354.2.2.2.1 bt354.2.2.2.2.1 bt354.2.2.2.2.2.1 bt354.2.2.2.2.2.2.1 bt354.2.2.2.2.2.2.2) else (some (bt354.2.1, bt354.2.2.1, bt354.2.2.2.1, bt354.2.2.2.2.1, bt354.2.2.2.2.2.1, bt354.2.2.2.2.2.2.1, bt354.2.2.2.2.2.2.2)))) else (if x6_1 = true then (sight_lane_all_i3.l0 k a0_0 a0_1 a0_2 a0_3 lo2_2 t319 (wrap64 (x5_0 + 1)) x1_0_1 x1_1_1 x1_2_1 x1_3_1 x2_0_1 x2_1_1 x3_0_1) else (sight_lane_all_i3.l1 k a0_0 a0_1 a0_2 a0_3 lo2_2 t319 x5_0 false (wrap64 (x7_1 + 1)) x1_0_1 x1_1_1 x1_2_1 x1_3_1 x2_0_1 x2_1_1 x3_0_1)))) else (sight_lane_all_i3.l0 k a0_0 a0_1 a0_2 a0_3 lo2_2 t319 (wrap64 (x5_0 + 1)) x1_0_1 x1_1_1 x1_2_1 x1_3_1 x2_0_1 x2_1_1 x3_0_1))
end
def sight_lane_all_i3.f (k : Nat) (a0_0 : Int) (a0_1 : Int) (a0_2 : Int) (a0_3 : Int) (s1_0 : Int) (s1_1 : Int) (s1_2 : Int) (s1_3 : Int) (s2_0 : Int) (s2_1 : Int) (lo2_2 : List Bool) (s3_0 : Bool) : Option (Int × Int × Int × Int × Int × Int × Bool) := (sight_lane_reach.f a0_0 a0_1 a0_2 a0_3).bind fun t319 => ((some (mn a0_1 a0_3 : Int)).bind fun j320 => (sight_lane_all_i3.l0 k a0_0 a0_1 a0_2 a0_3 lo2_2 t319 j320 s1_0 s1_1 s1_2 s1_3 s2_0 s2_1 s3_0))
theorem sight_lane_all_i3.mono_l : ∀ k, (∀ y0 y1 y2 y3 y4 y5 y6 y7 y8 y9 y10 y11 y12 y13, LeO (sight_lane_all_i3.l0 k y0 y1 y2 y3 y4 y5 y6 y7 y8 y9 y10 y11 y12 y13) (sight_lane_all_i3.l0 (k + 1) y0 y1 y2 y3 y4 y5 y6 y7 y8 y9 y10 y11 y12 y13)) ∧ (∀ y0 y1 y2 y3 y4 y5 y6 y7 y8 y9 y10 y11 y12 y13 y14 y15, LeO (sight_lane_all_i3.l1 k y0 y1 y2 y3 y4 y5 y6 y7 y8 y9 y10 y11 y12 y13 y14 y15) (sight_lane_all_i3.l1 (k + 1) y0 y1 y2 y3 y4 y5 y6 y7 y8 y9 y10 y11 y12 y13 y14 y15))
  | 0 => ⟨fun _ _ _ _ _ _ _ _ _ _ _ _ _ _ r h => by simp [sight_lane_all_i3.l0] at h, fun _ _ _ _ _ _ _ _ _ _ _ _ _ _ _ _ r h => by simp [sight_lane_all_i3.l1] at h⟩
  | k + 1 => by
    obtain ⟨ih0, ih1⟩ := sight_lane_all_i3.mono_l k
    refine ⟨?_, ?_⟩
    · intro y0 y1 y2 y3 y4 y5 y6 y7 y8 y9 y10 y11 y12 y13
      unfold sight_lane_all_i3.l0
      repeat' first
      | (with_reducible exact ih0 _ _ _ _ _ _ _ _ _ _ _ _ _ _)
      | (with_reducible exact ih1 _ _ _ _ _ _ _ _ _ _ _ _ _ _ _ _)
      | (with_reducible exact LeO.refl _)
      | (with_reducible exact LeO.none _)
      | (with_reducible refine LeO.ite ?_ ?_)
      | (with_reducible refine everyOf_le (fun _ => ?_))
      | (with_reducible refine LeO.bind ?_ (fun _ => ?_))
      | exact ih0 _ _ _ _ _ _ _ _ _ _ _ _ _ _
      | exact ih1 _ _ _ _ _ _ _ _ _ _ _ _ _ _ _ _
      | exact LeO.none _
      | refine LeO.ite ?_ ?_
      | refine LeO.bind ?_ (fun _ => ?_)
    · intro y0 y1 y2 y3 y4 y5 y6 y7 y8 y9 y10 y11 y12 y13 y14 y15
      unfold sight_lane_all_i3.l1
      repeat' first
      | (with_reducible exact ih0 _ _ _ _ _ _ _ _ _ _ _ _ _ _)
      | (with_reducible exact ih1 _ _ _ _ _ _ _ _ _ _ _ _ _ _ _ _)
      | (with_reducible exact LeO.refl _)
      | (with_reducible exact LeO.none _)
      | (with_reducible refine LeO.ite ?_ ?_)
      | (with_reducible refine everyOf_le (fun _ => ?_))
      | (with_reducible refine LeO.bind ?_ (fun _ => ?_))
      | exact ih0 _ _ _ _ _ _ _ _ _ _ _ _ _ _
      | exact ih1 _ _ _ _ _ _ _ _ _ _ _ _ _ _ _ _
      | exact LeO.none _
      | refine LeO.ite ?_ ?_
      | refine LeO.bind ?_ (fun _ => ?_)
theorem sight_lane_all_i3.mono : ∀ a0 a1 a2 a3 a4 a5 a6 a7 a8 a9 a10 a11 k, LeO (sight_lane_all_i3.f k a0 a1 a2 a3 a4 a5 a6 a7 a8 a9 a10 a11) (sight_lane_all_i3.f (k + 1) a0 a1 a2 a3 a4 a5 a6 a7 a8 a9 a10 a11) := by
  intro a0 a1 a2 a3 a4 a5 a6 a7 a8 a9 a10 a11 k
  obtain ⟨ih0, ih1⟩ := sight_lane_all_i3.mono_l k
  unfold sight_lane_all_i3.f
  repeat' first
      | (with_reducible exact ih0 _ _ _ _ _ _ _ _ _ _ _ _ _ _)
      | (with_reducible exact ih1 _ _ _ _ _ _ _ _ _ _ _ _ _ _ _ _)
      | (with_reducible exact LeO.refl _)
      | (with_reducible exact LeO.none _)
      | (with_reducible refine LeO.ite ?_ ?_)
      | (with_reducible refine everyOf_le (fun _ => ?_))
      | (with_reducible refine LeO.bind ?_ (fun _ => ?_))
      | exact ih0 _ _ _ _ _ _ _ _ _ _ _ _ _ _
      | exact ih1 _ _ _ _ _ _ _ _ _ _ _ _ _ _ _ _
      | exact LeO.none _
      | refine LeO.ite ?_ ?_
      | refine LeO.bind ?_ (fun _ => ?_)
def sight_lane_all_i3.Post (b0 : Nat) (b1 : Nat) (b2 : Nat) (Ao2_2 : Option Addr) (co2_2 : Nat) (lo2_2 : List Bool) (b3 : Nat) (r1 : Int) (r2 : Int) (r3 : Int) (r4 : Int) (r5 : Int) (r6 : Int) (r7 : Bool) (S : Nat → Prop) (L : List Asr) (w : World) (e : Ending) (w' : World) : Prop := e = .returned (.tuple #[]) ∧ SL (cells b0 46 [.func (.func 40) #[] #[.pointer (some ⟨b1, 0, none⟩), .pointer (some ⟨b2, 0, none⟩)]].toArray :: cells b1 43 [.int .i64 r1, .int .i64 r2, .int .i64 r3, .int .i64 r4].toArray :: cells b2 24 [.int .i64 r5, .int .i64 r6, .slice Ao2_2 lo2_2.length co2_2].toArray :: cells b3 4 [.bool r7].toArray :: L) w' S ∧ Keep S w w'
set_option maxHeartbeats 8000000 in
set_option maxRecDepth 100000 in
theorem sight_lane_all_i3.slcalls (k : Nat) (a0_0 : Int) (a0_1 : Int) (a0_2 : Int) (a0_3 : Int) (b0 : Nat) (b1 : Nat) (s1_0 : Int) (s1_1 : Int) (s1_2 : Int) (s1_3 : Int) (b2 : Nat) (s2_0 : Int) (s2_1 : Int) (Ao2_2 : Option Addr) (co2_2 : Nat) (lo2_2 : List Bool) (b3 : Nat) (s3_0 : Bool) (r1 : Int) (r2 : Int) (r3 : Int) (r4 : Int) (r5 : Int) (r6 : Int) (r7 : Bool) (S : Nat → Prop) (L : List Asr) (w : World) (hf : Fresh S w) (hs : SL (cells b0 46 [.func (.func 40) #[] #[.pointer (some ⟨b1, 0, none⟩), .pointer (some ⟨b2, 0, none⟩)]].toArray :: cells b1 43 [.int .i64 s1_0, .int .i64 s1_1, .int .i64 s1_2, .int .i64 s1_3].toArray :: cells b2 24 [.int .i64 s2_0, .int .i64 s2_1, .slice Ao2_2 lo2_2.length co2_2].toArray :: cells b3 4 [.bool s3_0].toArray :: L) w S) (hro2_2 : RO S w (fun w_ => Kd.C Kd.bool w_ Ao2_2 lo2_2.length lo2_2)) (hco2_2 : lo2_2.length ≤ co2_2) (h : sight_lane_all_i3.f k a0_0 a0_1 a0_2 a0_3 s1_0 s1_1 s1_2 s1_3 s2_0 s2_1 lo2_2 s3_0 = some (r1, r2, r3, r4, r5, r6, r7)) :
    Calls Try.prog 25 #[.agg #[.int .i64 a0_0, .int .i64 a0_1, .int .i64 a0_2, .int .i64 a0_3], .func (.func 33) #[] #[.pointer (some ⟨b0, 0, none⟩), .pointer (some ⟨b3, 0, none⟩)]] w (sight_lane_all_i3.Post b0 b1 b2 Ao2_2 co2_2 lo2_2 b3 r1 r2 r3 r4 r5 r6 r7 S L w) := by
  have HRo2_2 := Aside0.mk hro2_2
  have HCo2_2 := Aside0.mk hco2_2
  clear hro2_2 hco2_2
  have HF := Aside0.mk hf
  have HS := Aside0.mk hs
  have HK := Aside0.mk (Keep.refl S w)
  clear hf hs
  have hu26 := Try.underlying26
  have hu43 := Try.underlying43
  have H : ((sight_lane_reach.f a0_0 a0_1 a0_2 a0_3).bind fun t319 => ((some (mn a0_1 a0_3 : Int)).bind fun j320 => (sight_lane_all_i3.l0 k a0_0 a0_1 a0_2 a0_3 lo2_2 t319 j320 s1_0 s1_1 s1_2 s1_3 s2_0 s2_1 s3_0))) = some (r1, r2, r3, r4, r5, r6, r7) := h
  clear h
  replace H := Option.bind_eq_some_iff.1 H
  obtain ⟨t319, Hc10, H⟩ := H
  try dsimp only at H
  have Hc1 := Aside0.mk Hc10
  clear Hc10
  replace H := Option.bind_eq_some_iff.1 H
  obtain ⟨j320, hj3200, H⟩ := H
  try dsimp only at H
  have hj320 := Option.some.inj hj3200
  clear hj3200
  have hj320_ : (if a0_3 < a0_1 then a0_3 else a0_1) = j320 := hj320
  have H' := Aside0.mk H
  clear H
  go_enter Try.func25, Try.ntmps25
  try go_wp2_with (first | ((with_reducible refine gate_dst (N := 2) rfl ?_); refine wpList_plain rfl (fun K_ hK_ => ?_); refine op_box (S := S) (cs := #[.int .i64 a0_0, .int .i64 a0_1, .int .i64 a0_2, .int .i64 a0_3]) (t := 43) (HF.out.keep HK.out) HS.out (by first | (go_simp; done) | (go_simp; rfl)) ?_; intro g3000022 w2 hs_ hk_; refine hK_ _ _ ?_; clear hK_ K_; replace HS := Aside0.mk (hs_); replace HK := Aside0.mk (HK.out.trans hk_); have hb_ := SL.at_ HS.out; have hz3000022_0_1 := ((blk_cell hb_ 0).trans rfl : _ = some (.int .i64 a0_0)); have hz3000022_1_1 := ((blk_cell hb_ 1).trans rfl : _ = some (.int .i64 a0_1)); have hz3000022_2_1 := ((blk_cell hb_ 2).trans rfl : _ = some (.int .i64 a0_2)); have hz3000022_3_1 := ((blk_cell hb_ 3).trans rfl : _ = some (.int .i64 a0_3)); clear hb_) | ((with_reducible refine gate_dst (N := 10) rfl ?_); refine goesL_ (some 10) rfl rfl Try.func41 (by kernel_rfl) rfl #[.agg #[.int .i64 a0_0, .int .i64 a0_1, .int .i64 a0_2, .int .i64 a0_3]] rfl (by (try simp only [List.map_toArray, List.map_cons, List.map_nil]); first | done | rfl | (simp; done)) ?_; (with_reducible refine (sight_lane_reach.calls _ _ _ _ _ _  Hc1.out).mono ?_); rintro e_ w3 ⟨rfl, hb_⟩; refine ⟨_, rfl, ?_⟩; replace HS := Aside0.mk (HS.out.below hb_); replace HK := Aside0.mk (HK.out.trans (Keep.below hb_)); (try clear hz3000022_0_1 hz3000022_1_1 hz3000022_2_1 hz3000022_3_1); have hb_ := SL.at_ HS.out; have hz3000022_0_2 := ((blk_cell hb_ 0).trans rfl : _ = some (.int .i64 a0_0)); have hz3000022_1_2 := ((blk_cell hb_ 1).trans rfl : _ = some (.int .i64 a0_1)); have hz3000022_2_2 := ((blk_cell hb_ 2).trans rfl : _ = some (.int .i64 a0_2)); have hz3000022_3_2 := ((blk_cell hb_ 3).trans rfl : _ = some (.int .i64 a0_3)); clear hb_))
  go_step3
  try go_wp2_with (first | ((with_reducible refine gate_dst (N := 2) rfl ?_); refine wpList_plain rfl (fun K_ hK_ => ?_); refine op_box (S := S) (cs := #[.int .i64 a0_0, .int .i64 a0_1, .int .i64 a0_2, .int .i64 a0_3]) (t := 43) (HF.out.keep HK.out) HS.out (by first | (go_simp; done) | (go_simp; rfl)) ?_; intro g3000022 w2 hs_ hk_; refine hK_ _ _ ?_; clear hK_ K_; replace HS := Aside0.mk (hs_); replace HK := Aside0.mk (HK.out.trans hk_); have hb_ := SL.at_ HS.out; have hz3000022_0_1 := ((blk_cell hb_ 0).trans rfl : _ = some (.int .i64 a0_0)); have hz3000022_1_1 := ((blk_cell hb_ 1).trans rfl : _ = some (.int .i64 a0_1)); have hz3000022_2_1 := ((blk_cell hb_ 2).trans rfl : _ = some (.int .i64 a0_2)); have hz3000022_3_1 := ((blk_cell hb_ 3).trans rfl : _ = some (.int .i64 a0_3)); clear hb_) | ((with_reducible refine gate_dst (N := 10) rfl ?_); refine goesL_ (some 10) rfl rfl Try.func41 (by kernel_rfl) rfl #[.agg #[.int .i64 a0_0, .int .i64 a0_1, .int .i64 a0_2, .int .i64 a0_3]] rfl (by (try simp only [List.map_toArray, List.map_cons, List.map_nil]); first | done | rfl | (simp; done)) ?_; (with_reducible refine (sight_lane_reach.calls _ _ _ _ _ _  Hc1.out).mono ?_); rintro e_ w3 ⟨rfl, hb_⟩; refine ⟨_, rfl, ?_⟩; replace HS := Aside0.mk (HS.out.below hb_); replace HK := Aside0.mk (HK.out.trans (Keep.below hb_)); (try clear hz3000022_0_1 hz3000022_1_1 hz3000022_2_1 hz3000022_3_1); have hb_ := SL.at_ HS.out; have hz3000022_0_2 := ((blk_cell hb_ 0).trans rfl : _ = some (.int .i64 a0_0)); have hz3000022_1_2 := ((blk_cell hb_ 1).trans rfl : _ = some (.int .i64 a0_1)); have hz3000022_2_2 := ((blk_cell hb_ 2).trans rfl : _ = some (.int .i64 a0_2)); have hz3000022_3_2 := ((blk_cell hb_ 3).trans rfl : _ = some (.int .i64 a0_3)); clear hb_))
  go_step3
  try go_wp2_with (first | ((with_reducible refine gate_dst (N := 2) rfl ?_); refine wpList_plain rfl (fun K_ hK_ => ?_); refine op_box (S := S) (cs := #[.int .i64 a0_0, .int .i64 a0_1, .int .i64 a0_2, .int .i64 a0_3]) (t := 43) (HF.out.keep HK.out) HS.out (by first | (go_simp; done) | (go_simp; rfl)) ?_; intro g3000022 w2 hs_ hk_; refine hK_ _ _ ?_; clear hK_ K_; replace HS := Aside0.mk (hs_); replace HK := Aside0.mk (HK.out.trans hk_); have hb_ := SL.at_ HS.out; have hz3000022_0_1 := ((blk_cell hb_ 0).trans rfl : _ = some (.int .i64 a0_0)); have hz3000022_1_1 := ((blk_cell hb_ 1).trans rfl : _ = some (.int .i64 a0_1)); have hz3000022_2_1 := ((blk_cell hb_ 2).trans rfl : _ = some (.int .i64 a0_2)); have hz3000022_3_1 := ((blk_cell hb_ 3).trans rfl : _ = some (.int .i64 a0_3)); clear hb_) | ((with_reducible refine gate_dst (N := 10) rfl ?_); refine goesL_ (some 10) rfl rfl Try.func41 (by kernel_rfl) rfl #[.agg #[.int .i64 a0_0, .int .i64 a0_1, .int .i64 a0_2, .int .i64 a0_3]] rfl (by (try simp only [List.map_toArray, List.map_cons, List.map_nil]); first | done | rfl | (simp; done)) ?_; (with_reducible refine (sight_lane_reach.calls _ _ _ _ _ _  Hc1.out).mono ?_); rintro e_ w3 ⟨rfl, hb_⟩; refine ⟨_, rfl, ?_⟩; replace HS := Aside0.mk (HS.out.below hb_); replace HK := Aside0.mk (HK.out.trans (Keep.below hb_)); (try clear hz3000022_0_1 hz3000022_1_1 hz3000022_2_1 hz3000022_3_1); have hb_ := SL.at_ HS.out; have hz3000022_0_2 := ((blk_cell hb_ 0).trans rfl : _ = some (.int .i64 a0_0)); have hz3000022_1_2 := ((blk_cell hb_ 1).trans rfl : _ = some (.int .i64 a0_1)); have hz3000022_2_2 := ((blk_cell hb_ 2).trans rfl : _ = some (.int .i64 a0_2)); have hz3000022_3_2 := ((blk_cell hb_ 3).trans rfl : _ = some (.int .i64 a0_3)); clear hb_))
  try simp only [Exit.noGoto_ret, Exit.noGoto_normal, Exit.noGoto_exit]
  go_loopg [5] k (fun kq v5 w' => ∃ (x1_0_0 : Int) (x1_1_0 : Int) (x1_2_0 : Int) (x1_3_0 : Int) (x2_0_0 : Int) (x2_1_0 : Int) (x3_0_0 : Bool) (x5_0 : Int), v5 = .int .i64 x5_0 ∧ Aside0 (sight_lane_all_i3.l0 kq a0_0 a0_1 a0_2 a0_3 lo2_2 t319 x5_0 x1_0_0 x1_1_0 x1_2_0 x1_3_0 x2_0_0 x2_1_0 x3_0_0 = some (r1, r2, r3, r4, r5, r6, r7)) ∧ Aside0 (kq ≤ k) ∧ Aside0 (SL (cells g3000022 43 [.int .i64 a0_0, .int .i64 a0_1, .int .i64 a0_2, .int .i64 a0_3].toArray :: cells b0 46 [.func (.func 40) #[] #[.pointer (some ⟨b1, 0, none⟩), .pointer (some ⟨b2, 0, none⟩)]].toArray :: cells b1 43 [.int .i64 x1_0_0, .int .i64 x1_1_0, .int .i64 x1_2_0, .int .i64 x1_3_0].toArray :: cells b2 24 [.int .i64 x2_0_0, .int .i64 x2_1_0, .slice Ao2_2 lo2_2.length co2_2].toArray :: cells b3 4 [.bool x3_0_0].toArray :: L) w' S) ∧ Aside0 (Keep S w w'))
  case atStart => exact ⟨(s1_0), (s1_1), (s1_2), (s1_3), (s2_0), (s2_1), (s3_0), (j320), (by first | rfl | (simp; done) | (simp [*]; done)), H', ⟨Nat.le_refl _⟩, HS, HK⟩
  case round =>
    clear H' HS HK
    try clear hz3000022_0_0 hz3000022_1_0 hz3000022_2_0 hz3000022_3_0
    try clear hz3000022_0_0 hz3000022_1_0 hz3000022_2_0 hz3000022_3_0
    try clear hz3000022_0_0 hz3000022_1_0 hz3000022_2_0 hz3000022_3_0
    obtain ⟨x1_0_0, x1_1_0, x1_2_0, x1_3_0, x2_0_0, x2_1_0, x3_0_0, x5_0, rfl, HA, HQ1, HS, HK⟩ := hrel
    cases gk with
    | zero => exact absurd HA.out (by simp [sight_lane_all_i3.l0])
    | succ k1 =>
      have H := HA.out
      clear HA
      simp only [sight_lane_all_i3.l0] at H
      replace H := Option.bind_eq_some_iff.1 H
      obtain ⟨j350, hj3500, H⟩ := H
      try dsimp only at H
      have hj350 := Option.some.inj hj3500
      clear hj3500
      have hj350_ : (if a0_1 < a0_3 then a0_3 else a0_1) = j350 := hj350
      by_cases c4 : x5_0 ≤ j350
      · rw [if_pos c4] at H
        have c4b0 : decide (x5_0 ≤ j350) = true := decide_eq_true c4
        clear c4
        replace H := Option.bind_eq_some_iff.1 H
        obtain ⟨j351, hj3510, H⟩ := H
        try dsimp only at H
        have hj351 := Option.some.inj hj3510
        clear hj3510
        have hj351_ : (if a0_2 < a0_0 then a0_2 else a0_0) = j351 := hj351
        have H' := Aside0.mk H
        clear H
        have hb_ := SL.at_ HS.out
        have hz3000022_0_0 := ((blk_cell hb_ 0).trans rfl : _ = some (.int .i64 a0_0))
        have hz3000022_1_0 := ((blk_cell hb_ 1).trans rfl : _ = some (.int .i64 a0_1))
        have hz3000022_2_0 := ((blk_cell hb_ 2).trans rfl : _ = some (.int .i64 a0_2))
        have hz3000022_3_0 := ((blk_cell hb_ 3).trans rfl : _ = some (.int .i64 a0_3))
        clear hb_
        go_wp2
        try simp only [Exit.noGoto_ret, Exit.noGoto_normal, Exit.noGoto_exit]
        go_loopg [6, 7] k1 (fun kq v6 v7 w' => ∃ (x1_0_1 : Int) (x1_1_1 : Int) (x1_2_1 : Int) (x1_3_1 : Int) (x2_0_1 : Int) (x2_1_1 : Int) (x3_0_1 : Bool) (x6_1 : Bool) (x7_1 : Int), v6 = .bool x6_1 ∧ v7 = .int .i64 x7_1 ∧ Aside0 (sight_lane_all_i3.l1 kq a0_0 a0_1 a0_2 a0_3 lo2_2 t319 x5_0 x6_1 x7_1 x1_0_1 x1_1_1 x1_2_1 x1_3_1 x2_0_1 x2_1_1 x3_0_1 = some (r1, r2, r3, r4, r5, r6, r7)) ∧ Aside0 (kq ≤ k1) ∧ Aside0 (SL (cells g3000022 43 [.int .i64 a0_0, .int .i64 a0_1, .int .i64 a0_2, .int .i64 a0_3].toArray :: cells b0 46 [.func (.func 40) #[] #[.pointer (some ⟨b1, 0, none⟩), .pointer (some ⟨b2, 0, none⟩)]].toArray :: cells b1 43 [.int .i64 x1_0_1, .int .i64 x1_1_1, .int .i64 x1_2_1, .int .i64 x1_3_1].toArray :: cells b2 24 [.int .i64 x2_0_1, .int .i64 x2_1_1, .slice Ao2_2 lo2_2.length co2_2].toArray :: cells b3 4 [.bool x3_0_1].toArray :: L) w' S) ∧ Aside0 (Keep S w w'))
        case atStart => exact ⟨(x1_0_0), (x1_1_0), (x1_2_0), (x1_3_0), (x2_0_0), (x2_1_0), (x3_0_0), (false), (j351), (by first | rfl | (simp; done) | (simp [*]; done)), (by first | rfl | (simp; done) | (simp [*]; done)), H', ⟨Nat.le_refl _⟩, HS, HK⟩
        case round =>
          clear H' HS HK
          try clear hz3000022_0_0 hz3000022_1_0 hz3000022_2_0 hz3000022_3_0
          try clear hz3000022_0_0 hz3000022_1_0 hz3000022_2_0 hz3000022_3_0
          try clear hz3000022_0_0 hz3000022_1_0 hz3000022_2_0 hz3000022_3_0
          try clear hz3000022_0_0 hz3000022_1_0 hz3000022_2_0 hz3000022_3_0
          obtain ⟨x1_0_1, x1_1_1, x1_2_1, x1_3_1, x2_0_1, x2_1_1, x3_0_1, x6_1, x7_1, rfl, rfl, HA, HQ2, HS, HK⟩ := hrel
          cases gk with
          | zero => exact absurd HA.out (by simp [sight_lane_all_i3.l1])
          | succ k2 =>
            have H := HA.out
            clear HA
            simp only [sight_lane_all_i3.l1] at H
            replace H := Option.bind_eq_some_iff.1 H
            obtain ⟨j352, hj3520, H⟩ := H
            try dsimp only at H
            have hj352 := Option.some.inj hj3520
            clear hj3520
            have hj352_ : (if a0_0 < a0_2 then a0_2 else a0_0) = j352 := hj352
            by_cases c5 : x7_1 ≤ j352
            · rw [if_pos c5] at H
              have c5b0 : decide (x7_1 ≤ j352) = true := decide_eq_true c5
              clear c5
              replace H := Option.bind_eq_some_iff.1 H
              obtain ⟨t353, Hc60, H⟩ := H
              try dsimp only at H
              have Hc6 := Aside0.mk Hc60
              clear Hc60
              have H' := Aside0.mk H
              clear H
              have hb_ := SL.at_ HS.out
              have hz3000022_0_0 := ((blk_cell hb_ 0).trans rfl : _ = some (.int .i64 a0_0))
              have hz3000022_1_0 := ((blk_cell hb_ 1).trans rfl : _ = some (.int .i64 a0_1))
              have hz3000022_2_0 := ((blk_cell hb_ 2).trans rfl : _ = some (.int .i64 a0_2))
              have hz3000022_3_0 := ((blk_cell hb_ 3).trans rfl : _ = some (.int .i64 a0_3))
              clear hb_
              go_wp2_with (first | ((with_reducible refine gate_dst (N := 8) rfl ?_); refine wpList_plain rfl (fun K_ hK_ => ?_); refine op_box (S := S) (cs := #[.int .i64 0, .int .i64 0]) (t := 26) (HF.out.keep HK.out) HS.out (by first | (go_simp; done) | (go_simp; rfl)) ?_; intro g3000023 w7 hs_ hk_; refine hK_ _ _ ?_; clear hK_ K_; replace HS := Aside0.mk (hs_); replace HK := Aside0.mk (HK.out.trans hk_); (try clear hz3000022_0_0 hz3000022_1_0 hz3000022_2_0 hz3000022_3_0)) | ((with_reducible refine gate_store (t := 26) (p := 8) (v := (.tmp 49)) rfl ?_); refine wpList_plain rfl (fun K_ hK_ => ?_); refine op_store (S := S) 26 (.tmp 8) (.tmp 49) rfl g3000023 0 (.agg #[.int .i64 x7_1, .int .i64 x5_0]) [.int .i64 x7_1, .int .i64 x5_0] rfl rfl rfl (by kernel_rfl) (by simp [Value.oneCell']) HS.out (by simp) ?_; intro w8 hs_ hk_; refine hK_ _ _ ?_; clear hK_ K_; replace HS := Aside0.mk ((show SL (cells g3000023 26 [.int .i64 x7_1, .int .i64 x5_0].toArray :: _) _ _ from hs_)); replace HK := Aside0.mk (HK.out.trans hk_); have hb_ := SL.at_ HS.out; have hz3000023_0_2 := ((blk_cell hb_ 0).trans rfl : _ = some (.int .i64 x7_1)); have hz3000023_1_2 := ((blk_cell hb_ 1).trans rfl : _ = some (.int .i64 x5_0)); clear hb_; have hb_ := SL.at_ (SL.get1 HS.out); have hz3000022_0_2 := ((blk_cell hb_ 0).trans rfl : _ = some (.int .i64 a0_0)); have hz3000022_1_2 := ((blk_cell hb_ 1).trans rfl : _ = some (.int .i64 a0_1)); have hz3000022_2_2 := ((blk_cell hb_ 2).trans rfl : _ = some (.int .i64 a0_2)); have hz3000022_3_2 := ((blk_cell hb_ 3).trans rfl : _ = some (.int .i64 a0_3)); clear hb_) | ((with_reducible refine gate_dst (N := 53) rfl ?_); refine goesL_ (some 53) rfl rfl Try.func42 (by kernel_rfl) rfl #[.agg #[.int .i64 a0_0, .int .i64 a0_1, .int .i64 a0_2, .int .i64 a0_3], .agg #[.int .i64 x7_1, .int .i64 x5_0]] rfl (by (try simp only [List.map_toArray, List.map_cons, List.map_nil]); first | done | rfl | (simp; done)) ?_; (with_reducible refine (sight_lane_beside.calls _ _ _ _ _ _ _ _  Hc6.out).mono ?_); rintro e_ w9 ⟨rfl, hb_⟩; refine ⟨_, rfl, ?_⟩; replace HS := Aside0.mk (HS.out.below hb_); replace HK := Aside0.mk (HK.out.trans (Keep.below hb_)); (try clear hz3000022_0_2 hz3000022_1_2 hz3000022_2_2 hz3000022_3_2); (try clear hz3000023_0_2 hz3000023_1_2); refine stop_ ?_; intro G_ hG_))
              try simp only [Exit.noGoto_ret, Exit.noGoto_normal, Exit.noGoto_exit]
              have H := H'.out
              clear H'
              by_cases c10 : t353 ≤ t319
              · rw [if_pos c10] at H
                have c10b0 : decide (t353 ≤ t319) = true := decide_eq_true c10
                clear c10
                replace H := Option.bind_eq_some_iff.1 H
                obtain ⟨⟨t354, t355, t356, t357, t358, t359, t360, t361⟩, Hc110, H⟩ := H
                try dsimp only at H
                have Hc11 := Aside0.mk Hc110
                clear Hc110
                by_cases c12 : t354 = true
                · subst c12
                  rw [if_pos rfl] at H
                  have H' := Aside0.mk H
                  clear H
                  have hb_ := SL.at_ HS.out
                  have hz3000023_0_0 := ((blk_cell hb_ 0).trans rfl : _ = some (.int .i64 x7_1))
                  have hz3000023_1_0 := ((blk_cell hb_ 1).trans rfl : _ = some (.int .i64 x5_0))
                  clear hb_
                  refine hG_.out ?_
                  try simp only [c10b0]
                  go_wp2_with (first | ((with_reducible refine gate_dst (N := 58) rfl ?_); refine goesLc_ (some 58) rfl (by with_unfolding_all rfl) rfl Try.func33 (by kernel_rfl) rfl #[.agg #[.int .i64 x7_1, .int .i64 x5_0], .pointer (some ⟨b0, 0, none⟩), .pointer (some ⟨b3, 0, none⟩)] rfl (by (try simp only [List.map_toArray, List.map_cons, List.map_nil]); first | done | rfl | (simp; done)) ?_; have hs0_ := (SL.get5 (SL.get5 (SL.get5 (SL.get5 HS.out)))); (with_reducible refine (sight_Sees_1_i1.slcalls _ _ _ _ _ _ _ _ _ _ _ _ _ _ _ _ _ _ _ _ _ _ _ _ _ _ _ (HF.out.keep HK.out) hs0_ (HRo2_2.out.keep HK.out) HCo2_2.out Hc11.out).mono ?_); rintro e_ w13 ⟨rfl, hsr_, hkr_⟩; refine ⟨_, rfl, ?_⟩; replace HS := Aside0.mk (hsr_); replace HK := Aside0.mk (HK.out.trans hkr_); (try clear hz3000023_0_0 hz3000023_1_0)))
                  try simp only [Exit.noGoto_ret, Exit.noGoto_normal, Exit.noGoto_exit]
                  replace HS := Aside0.mk (SL.get4 (SL.get3 (SL.get3 (SL.get3 (SL.get3 (SL.tail (SL.get4 HS.out)))))))
                  go_roundg k2
                  case measure => have := HQ1.out; have := HQ2.out; omega
                  case rel => exact ⟨(t355), (t356), (t357), (t358), (t359), (t360), (t361), (true), (wrap64 (x7_1 + 1)), (by first | rfl | (simp; done) | (simp [*]; done)), (by first | rfl | (simp; done) | (simp [*]; done)), H', ⟨by have := HQ1.out; have := HQ2.out; omega⟩, HS, HK⟩
                · replace c12 := Bool.eq_false_iff.mpr c12
                  subst c12
                  rw [if_neg (show ¬ (false = true) by decide)] at H
                  simp only [Option.some.injEq, Prod.mk.injEq] at H
                  obtain ⟨rfl, rfl, rfl, rfl, rfl, rfl, rfl⟩ := H
                  have hb_ := SL.at_ HS.out
                  have hz3000023_0_0 := ((blk_cell hb_ 0).trans rfl : _ = some (.int .i64 x7_1))
                  have hz3000023_1_0 := ((blk_cell hb_ 1).trans rfl : _ = some (.int .i64 x5_0))
                  clear hb_
                  refine hG_.out ?_
                  try simp only [c10b0]
                  go_wp2_with (first | ((with_reducible refine gate_dst (N := 58) rfl ?_); refine goesLc_ (some 58) rfl (by with_unfolding_all rfl) rfl Try.func33 (by kernel_rfl) rfl #[.agg #[.int .i64 x7_1, .int .i64 x5_0], .pointer (some ⟨b0, 0, none⟩), .pointer (some ⟨b3, 0, none⟩)] rfl (by (try simp only [List.map_toArray, List.map_cons, List.map_nil]); first | done | rfl | (simp; done)) ?_; have hs0_ := (SL.get5 (SL.get5 (SL.get5 (SL.get5 HS.out)))); (with_reducible refine (sight_Sees_1_i1.slcalls _ _ _ _ _ _ _ _ _ _ _ _ _ _ _ _ _ _ _ _ _ _ _ _ _ _ _ (HF.out.keep HK.out) hs0_ (HRo2_2.out.keep HK.out) HCo2_2.out Hc11.out).mono ?_); rintro e_ w14 ⟨rfl, hsr_, hkr_⟩; refine ⟨_, rfl, ?_⟩; replace HS := Aside0.mk (hsr_); replace HK := Aside0.mk (HK.out.trans hkr_); (try clear hz3000023_0_0 hz3000023_1_0)))
                  try simp only [Exit.noGoto_ret, Exit.noGoto_normal, Exit.noGoto_exit]
                  first | go_end0 | ((try simp only [Exit.inBlock, Exit.then]); refine bodyPost_ret (results_none rfl _ _ _) rfl ?_)
                  replace HS := Aside0.mk (SL.tail (SL.get4 (SL.tail (SL.get4 HS.out))))
                  unfold sight_lane_all_i3.Post
                  exact ⟨by first | rfl | (simp; done) | (simp [*]; done) | (simp at c10b0 ⊢; first | exact c10b0 | (simp [c10b0]; done)), HS.out, HK.out⟩
              · rw [if_neg c10] at H
                have c10b0 : decide (t353 ≤ t319) = false := decide_eq_false c10
                clear c10
                by_cases c15 : x6_1 = true
                · subst c15
                  rw [if_pos rfl] at H
                  have H' := Aside0.mk H
                  clear H
                  refine hG_.out ?_
                  try simp only [c10b0]
                  go_wp2
                  try simp only [Exit.noGoto_ret, Exit.noGoto_normal, Exit.noGoto_exit]
                  replace HS := Aside0.mk (SL.tail HS.out)
                  go_roundg k2
                  case measure => have := HQ1.out; have := HQ2.out; omega
                  case rel => exact ⟨(x1_0_1), (x1_1_1), (x1_2_1), (x1_3_1), (x2_0_1), (x2_1_1), (x3_0_1), (wrap64 (x5_0 + 1)), (by first | rfl | (simp; done) | (simp [*]; done)), H', ⟨by have := HQ1.out; have := HQ2.out; omega⟩, HS, HK⟩
                · replace c15 := Bool.eq_false_iff.mpr c15
                  subst c15
                  rw [if_neg (show ¬ (false = true) by decide)] at H
                  have H' := Aside0.mk H
                  clear H
                  refine hG_.out ?_
                  try simp only [c10b0]
                  go_wp2
                  try simp only [Exit.noGoto_ret, Exit.noGoto_normal, Exit.noGoto_exit]
                  replace HS := Aside0.mk (SL.tail HS.out)
                  go_roundg k2
                  case measure => have := HQ1.out; have := HQ2.out; omega
                  case rel => exact ⟨(x1_0_1), (x1_1_1), (x1_2_1), (x1_3_1), (x2_0_1), (x2_1_1), (x3_0_1), (false), (wrap64 (x7_1 + 1)), (by first | rfl | (simp; done) | (simp [*]; done)), (by first | rfl | (simp; done) | (simp [*]; done)), H', ⟨by have := HQ1.out; have := HQ2.out; omega⟩, HS, HK⟩
            · rw [if_neg c5] at H
              have c5b0 : decide (x7_1 ≤ j352) = false := decide_eq_false c5
              clear c5
              have H' := Aside0.mk H
              clear H
              have hb_ := SL.at_ HS.out
              have hz3000022_0_0 := ((blk_cell hb_ 0).trans rfl : _ = some (.int .i64 a0_0))
              have hz3000022_1_0 := ((blk_cell hb_ 1).trans rfl : _ = some (.int .i64 a0_1))
              have hz3000022_2_0 := ((blk_cell hb_ 2).trans rfl : _ = some (.int .i64 a0_2))
              have hz3000022_3_0 := ((blk_cell hb_ 3).trans rfl : _ = some (.int .i64 a0_3))
              clear hb_
              go_wp2
              try simp only [Exit.noGoto_ret, Exit.noGoto_normal, Exit.noGoto_exit]
              go_roundg k2
              case measure => have := HQ1.out; have := HQ2.out; omega
              case rel => exact ⟨(x1_0_1), (x1_1_1), (x1_2_1), (x1_3_1), (x2_0_1), (x2_1_1), (x3_0_1), (wrap64 (x5_0 + 1)), (by first | rfl | (simp; done) | (simp [*]; done)), H', ⟨by have := HQ1.out; have := HQ2.out; omega⟩, HS, HK⟩
      · rw [if_neg c4] at H
        have c4b0 : decide (x5_0 ≤ j350) = false := decide_eq_false c4
        clear c4
        simp only [Option.some.injEq, Prod.mk.injEq] at H
        obtain ⟨rfl, rfl, rfl, rfl, rfl, rfl, rfl⟩ := H
        have hb_ := SL.at_ HS.out
        have hz3000022_0_0 := ((blk_cell hb_ 0).trans rfl : _ = some (.int .i64 a0_0))
        have hz3000022_1_0 := ((blk_cell hb_ 1).trans rfl : _ = some (.int .i64 a0_1))
        have hz3000022_2_0 := ((blk_cell hb_ 2).trans rfl : _ = some (.int .i64 a0_2))
        have hz3000022_3_0 := ((blk_cell hb_ 3).trans rfl : _ = some (.int .i64 a0_3))
        clear hb_
        go_wp2
        try simp only [Exit.noGoto_ret, Exit.noGoto_normal, Exit.noGoto_exit]
        first | go_end0 | ((try simp only [Exit.inBlock, Exit.then]); refine bodyPost_ret (results_none rfl _ _ _) rfl ?_)
        replace HS := Aside0.mk (SL.tail HS.out)
        unfold sight_lane_all_i3.Post
        exact ⟨by first | rfl | (simp; done) | (simp [*]; done) | (simp at c4b0 ⊢; first | exact c4b0 | (simp [c4b0]; done)), HS.out, HK.out⟩

/-! ### sight_Sees: function 14 -/
def sight_Sees.f (k : Nat) (a0_0 : Int) (a0_1 : Int) (l0_2 : List Bool) (a1_0 : Int) (a1_1 : Int) (a2_0 : Int) (a2_1 : Int) : Option (Bool) := (sight_between.f a0_0 a0_1 l0_2 a1_0 a1_1 a2_0 a2_1).bind fun bt308 => (if bt308.2.2.2.2 = true then ((sight_lane_walls.f bt308.1 bt308.2.1 bt308.2.2.1 bt308.2.2.2.1 a0_0 a0_1 l0_2).bind fun bt313 => ((sight_lane_all_i3.f k bt308.1 bt308.2.1 bt308.2.2.1 bt308.2.2.2.1 bt313.1 bt313.2.1 bt313.2.2.1 bt313.2.2.2.1 bt313.2.2.2.2.1 bt313.2.2.2.2.2 l0_2 bt308.2.2.2.2).bind fun bt362 => (some bt362.2.2.2.2.2.2))) else (some false))
theorem sight_Sees.mono : ∀ a0 a1 a2 a3 a4 a5 a6 k, LeO (sight_Sees.f k a0 a1 a2 a3 a4 a5 a6) (sight_Sees.f (k + 1) a0 a1 a2 a3 a4 a5 a6) := by
  intro a0 a1 a2 a3 a4 a5 a6 k
  unfold sight_Sees.f
  repeat' first
      | (with_reducible exact sight_lane_all_i3.mono _ _ _ _ _ _ _ _ _ _ _ _ _)
      | (with_reducible exact LeO.refl _)
      | (with_reducible exact LeO.none _)
      | (with_reducible refine LeO.ite ?_ ?_)
      | (with_reducible refine everyOf_le (fun _ => ?_))
      | (with_reducible refine LeO.bind ?_ (fun _ => ?_))
      | exact sight_lane_all_i3.mono _ _ _ _ _ _ _ _ _ _ _ _ _
      | exact LeO.none _
      | refine LeO.ite ?_ ?_
      | refine LeO.bind ?_ (fun _ => ?_)
def sight_Sees.Post (r : Bool) (S : Nat → Prop) (L : List Asr) (w : World) (e : Ending) (w' : World) : Prop := e = .returned (.bool r) ∧ SL (L) w' S ∧ Keep S w w'
set_option maxHeartbeats 8000000 in
set_option maxRecDepth 100000 in
theorem sight_Sees.slcalls (k : Nat) (a0_0 : Int) (a0_1 : Int) (A0_2 : Option Addr) (c0_2 : Nat) (l0_2 : List Bool) (a1_0 : Int) (a1_1 : Int) (a2_0 : Int) (a2_1 : Int) (r : Bool) (S : Nat → Prop) (L : List Asr) (w : World) (hf : Fresh S w) (hs : SL (L) w S) (hr0_2 : RO S w (fun w_ => Kd.C Kd.bool w_ A0_2 l0_2.length l0_2)) (hc0_2 : l0_2.length ≤ c0_2) (h : sight_Sees.f k a0_0 a0_1 l0_2 a1_0 a1_1 a2_0 a2_1 = some r) :
    Calls Try.prog 14 #[.agg #[.int .i64 a0_0, .int .i64 a0_1, .slice A0_2 l0_2.length c0_2], .agg #[.int .i64 a1_0, .int .i64 a1_1], .agg #[.int .i64 a2_0, .int .i64 a2_1]] w (sight_Sees.Post r S L w) := by
  have HR0_2 := Aside0.mk hr0_2
  have HC0_2 := Aside0.mk hc0_2
  clear hr0_2 hc0_2
  have HF := Aside0.mk hf
  have HS := Aside0.mk hs
  have HK := Aside0.mk (Keep.refl S w)
  clear hf hs
  have hu24 := Try.underlying24
  have hu26 := Try.underlying26
  have hu43 := Try.underlying43
  have H : ((sight_between.f a0_0 a0_1 l0_2 a1_0 a1_1 a2_0 a2_1).bind fun bt308 => (if bt308.2.2.2.2 = true then ((sight_lane_walls.f bt308.1 bt308.2.1 bt308.2.2.1 bt308.2.2.2.1 a0_0 a0_1 l0_2).bind fun bt313 => ((sight_lane_all_i3.f k bt308.1 bt308.2.1 bt308.2.2.1 bt308.2.2.2.1 bt313.1 bt313.2.1 bt313.2.2.1 bt313.2.2.2.1 bt313.2.2.2.2.1 bt313.2.2.2.2.2 l0_2 bt308.2.2.2.2).bind fun bt362 => (some bt362.2.2.2.2.2.2))) else (some false))) = some r := h
  clear h
  replace H := Option.bind_eq_some_iff.1 H
  obtain ⟨⟨t308, t309, t310, t311, t312⟩, Hc10, H⟩ := H
  try dsimp only at H
  have Hc1 := Aside0.mk Hc10
  clear Hc10
  have H' := Aside0.mk H
  clear H
  go_enter Try.func14, Try.ntmps14
  go_wp2_with (first | ((with_reducible refine gate_dst (N := 3) rfl ?_); refine wpList_plain rfl (fun K_ hK_ => ?_); refine op_box (S := S) (cs := #[.int .i64 a0_0, .int .i64 a0_1, .slice A0_2 l0_2.length c0_2]) (t := 24) (HF.out.keep HK.out) HS.out (by first | (go_simp; done) | (go_simp; rfl)) ?_; intro g3000035 w2 hs_ hk_; refine hK_ _ _ ?_; clear hK_ K_; replace HS := Aside0.mk (hs_); replace HK := Aside0.mk (HK.out.trans hk_)) | ((with_reducible refine gate_dst (N := 4) rfl ?_); refine wpList_plain rfl (fun K_ hK_ => ?_); refine op_box (S := S) (cs := #[.int .i64 a1_0, .int .i64 a1_1]) (t := 26) (HF.out.keep HK.out) HS.out (by first | (go_simp; done) | (go_simp; rfl)) ?_; intro g3000036 w3 hs_ hk_; refine hK_ _ _ ?_; clear hK_ K_; replace HS := Aside0.mk (hs_); replace HK := Aside0.mk (HK.out.trans hk_)) | ((with_reducible refine gate_dst (N := 5) rfl ?_); refine wpList_plain rfl (fun K_ hK_ => ?_); refine op_box (S := S) (cs := #[.int .i64 a2_0, .int .i64 a2_1]) (t := 26) (HF.out.keep HK.out) HS.out (by first | (go_simp; done) | (go_simp; rfl)) ?_; intro g3000037 w4 hs_ hk_; refine hK_ _ _ ?_; clear hK_ K_; replace HS := Aside0.mk (hs_); replace HK := Aside0.mk (HK.out.trans hk_); have hb_ := SL.at_ HS.out; have hz3000037_0_3 := ((blk_cell hb_ 0).trans rfl : _ = some (.int .i64 a2_0)); have hz3000037_1_3 := ((blk_cell hb_ 1).trans rfl : _ = some (.int .i64 a2_1)); clear hb_; have hb_ := SL.at_ (SL.get1 HS.out); have hz3000036_0_3 := ((blk_cell hb_ 0).trans rfl : _ = some (.int .i64 a1_0)); have hz3000036_1_3 := ((blk_cell hb_ 1).trans rfl : _ = some (.int .i64 a1_1)); clear hb_; have hb_ := SL.at_ (SL.get2 HS.out); have hz3000035_0_3 := ((blk_cell hb_ 0).trans rfl : _ = some (.int .i64 a0_0)); have hz3000035_1_3 := ((blk_cell hb_ 1).trans rfl : _ = some (.int .i64 a0_1)); have hz3000035_2_3 := ((blk_cell hb_ 2).trans rfl : _ = some (.slice A0_2 l0_2.length c0_2)); clear hb_) | ((with_reducible refine gate_dst (N := 14) rfl ?_); refine goesL_ (some 14) rfl rfl Try.func23 (by kernel_rfl) rfl #[.agg #[.int .i64 a0_0, .int .i64 a0_1, .slice A0_2 l0_2.length c0_2], .agg #[.int .i64 a1_0, .int .i64 a1_1], .agg #[.int .i64 a2_0, .int .i64 a2_1]] rfl (by (try simp only [List.map_toArray, List.map_cons, List.map_nil]); first | done | rfl | (simp; done)) ?_; (with_reducible refine (sight_between.calls _ _ _ _ _ _ _ _ _ _ _ _ _ _ _ (RO.at_ HR0_2.out HK.out) HC0_2.out Hc1.out).mono ?_); rintro e_ w5 ⟨rfl, hb_⟩; refine ⟨_, rfl, ?_⟩; replace HS := Aside0.mk (HS.out.below hb_); replace HK := Aside0.mk (HK.out.trans (Keep.below hb_)); (try clear hz3000035_0_3 hz3000035_1_3 hz3000035_2_3); (try clear hz3000036_0_3 hz3000036_1_3); (try clear hz3000037_0_3 hz3000037_1_3)) | ((with_reducible refine gate_dst (N := 7) rfl ?_); refine wpList_plain rfl (fun K_ hK_ => ?_); refine op_box (S := S) (cs := #[.int .i64 0, .int .i64 0, .int .i64 0, .int .i64 0]) (t := 43) (HF.out.keep HK.out) HS.out (by first | (go_simp; done) | (go_simp; rfl)) ?_; intro g3000038 w6 hs_ hk_; refine hK_ _ _ ?_; clear hK_ K_; replace HS := Aside0.mk (hs_); replace HK := Aside0.mk (HK.out.trans hk_)) | ((with_reducible refine gate_dst (N := 8) rfl ?_); refine wpList_plain rfl (fun K_ hK_ => ?_); refine op_box (S := S) (cs := #[.bool false]) (t := 4) (HF.out.keep HK.out) HS.out (by first | (go_simp; done) | (go_simp; rfl)) ?_; intro g3000039 w7 hs_ hk_; refine hK_ _ _ ?_; clear hK_ K_; replace HS := Aside0.mk (hs_); replace HK := Aside0.mk (HK.out.trans hk_)) | ((with_reducible refine gate_store (t := 43) (p := 7) (v := (.tmp 15)) rfl ?_); refine wpList_plain rfl (fun K_ hK_ => ?_); refine op_store (S := S) 43 (.tmp 7) (.tmp 15) rfl g3000038 0 (.agg #[.int .i64 t308, .int .i64 t309, .int .i64 t310, .int .i64 t311]) [.int .i64 t308, .int .i64 t309, .int .i64 t310, .int .i64 t311] rfl rfl rfl (by kernel_rfl) (by simp [Value.oneCell']) (SL.get1 HS.out) (by simp) ?_; intro w8 hs_ hk_; refine hK_ _ _ ?_; clear hK_ K_; replace HS := Aside0.mk ((SL.back1 (show SL (cells g3000038 43 [.int .i64 t308, .int .i64 t309, .int .i64 t310, .int .i64 t311].toArray :: _) _ _ from hs_))); replace HK := Aside0.mk (HK.out.trans hk_)) | ((with_reducible refine gate_store (t := 4) (p := 8) (v := (.tmp 16)) rfl ?_); refine wpList_plain rfl (fun K_ hK_ => ?_); refine op_store (S := S) 4 (.tmp 8) (.tmp 16) rfl g3000039 0 (.bool t312) [.bool t312] rfl rfl rfl (by kernel_rfl) (by simp [Value.oneCell']) HS.out (by simp) ?_; intro w9 hs_ hk_; refine hK_ _ _ ?_; clear hK_ K_; replace HS := Aside0.mk ((show SL (cells g3000039 4 [.bool t312].toArray :: _) _ _ from hs_)); replace HK := Aside0.mk (HK.out.trans hk_); have hb_ := SL.at_ HS.out; have hz3000039_0_8 := ((blk_cell hb_ 0).trans rfl : _ = some (.bool t312)); clear hb_; refine stop_ ?_; intro G_ hG_))
  have H := H'.out
  clear H'
  by_cases c10 : t312 = true
  · subst c10
    rw [if_pos rfl] at H
    replace H := Option.bind_eq_some_iff.1 H
    obtain ⟨⟨t313, t314, t315, t316, t317, t318⟩, Hc110, H⟩ := H
    try dsimp only at H
    have Hc11 := Aside0.mk Hc110
    clear Hc110
    replace H := Option.bind_eq_some_iff.1 H
    obtain ⟨⟨t362, t363, t364, t365, t366, t367, t368⟩, Hc120, H⟩ := H
    try dsimp only at H
    have Hc12 := Aside0.mk Hc120
    clear Hc120
    obtain rfl := Option.some.inj H
    have hb_ := SL.at_ (SL.get1 HS.out)
    have hz3000038_0_0 := ((blk_cell hb_ 0).trans rfl : _ = some (.int .i64 t308))
    have hz3000038_1_0 := ((blk_cell hb_ 1).trans rfl : _ = some (.int .i64 t309))
    have hz3000038_2_0 := ((blk_cell hb_ 2).trans rfl : _ = some (.int .i64 t310))
    have hz3000038_3_0 := ((blk_cell hb_ 3).trans rfl : _ = some (.int .i64 t311))
    clear hb_
    have hb_ := SL.at_ (SL.get4 HS.out)
    have hz3000035_0_0 := ((blk_cell hb_ 0).trans rfl : _ = some (.int .i64 a0_0))
    have hz3000035_1_0 := ((blk_cell hb_ 1).trans rfl : _ = some (.int .i64 a0_1))
    have hz3000035_2_0 := ((blk_cell hb_ 2).trans rfl : _ = some (.slice A0_2 l0_2.length c0_2))
    clear hb_
    refine hG_.out ?_
    go_wp2_with (first | ((with_reducible refine gate_dst (N := 21) rfl ?_); refine goesL_ (some 21) rfl rfl Try.func24 (by kernel_rfl) rfl #[.agg #[.int .i64 t308, .int .i64 t309, .int .i64 t310, .int .i64 t311], .agg #[.int .i64 a0_0, .int .i64 a0_1, .slice A0_2 l0_2.length c0_2]] rfl (by (try simp only [List.map_toArray, List.map_cons, List.map_nil]); first | done | rfl | (simp; done)) ?_; have hs0_ := HS.out; (with_reducible refine (sight_lane_walls.slcalls _ _ _ _ _ _ _ _ _ _ _ _ _ _ _ _ _ _ (HF.out.keep HK.out) hs0_ (HR0_2.out.keep HK.out) HC0_2.out Hc11.out).mono ?_); rintro e_ w13 ⟨g3000040, g3000041, rfl, hsr_, hkr_⟩; refine ⟨_, rfl, ?_⟩; replace HS := Aside0.mk (hsr_); replace HK := Aside0.mk (HK.out.trans hkr_); (try clear hz3000035_0_0 hz3000035_1_0 hz3000035_2_0); (try clear hz3000038_0_0 hz3000038_1_0 hz3000038_2_0 hz3000038_3_0)) | ((with_reducible refine gate_dst (N := 9) rfl ?_); refine wpList_plain rfl (fun K_ hK_ => ?_); refine op_box (S := S) (cs := #[.nilFunc]) (t := 46) (HF.out.keep HK.out) HS.out (by first | (go_simp; done) | (go_simp; rfl)) ?_; intro g3000042 w14 hs_ hk_; refine hK_ _ _ ?_; clear hK_ K_; replace HS := Aside0.mk (hs_); replace HK := Aside0.mk (HK.out.trans hk_)) | ((with_reducible refine gate_store (t := 46) (p := 9) (v := (.tmp 21)) rfl ?_); refine wpList_plain rfl (fun K_ hK_ => ?_); refine op_store (S := S) 46 (.tmp 9) (.tmp 21) rfl g3000042 0 (.func (.func 40) #[] #[.pointer (some ⟨g3000040, 0, none⟩), .pointer (some ⟨g3000041, 0, none⟩)]) [.func (.func 40) #[] #[.pointer (some ⟨g3000040, 0, none⟩), .pointer (some ⟨g3000041, 0, none⟩)]] rfl rfl rfl (by kernel_rfl) (by simp [Value.oneCell']) HS.out (by simp) ?_; intro w15 hs_ hk_; refine hK_ _ _ ?_; clear hK_ K_; replace HS := Aside0.mk ((show SL (cells g3000042 46 [.func (.func 40) #[] #[.pointer (some ⟨g3000040, 0, none⟩), .pointer (some ⟨g3000041, 0, none⟩)]].toArray :: _) _ _ from hs_)); replace HK := Aside0.mk (HK.out.trans hk_); have hb_ := SL.at_ (SL.get4 HS.out); have hz3000038_0_3 := ((blk_cell hb_ 0).trans rfl : _ = some (.int .i64 t308)); have hz3000038_1_3 := ((blk_cell hb_ 1).trans rfl : _ = some (.int .i64 t309)); have hz3000038_2_3 := ((blk_cell hb_ 2).trans rfl : _ = some (.int .i64 t310)); have hz3000038_3_3 := ((blk_cell hb_ 3).trans rfl : _ = some (.int .i64 t311)); clear hb_) | ((with_reducible refine gate_dst (N := 24) rfl ?_); refine goesL_ (some 24) rfl rfl Try.func25 (by kernel_rfl) rfl #[.agg #[.int .i64 t308, .int .i64 t309, .int .i64 t310, .int .i64 t311], .func (.func 33) #[] #[.pointer (some ⟨g3000042, 0, none⟩), .pointer (some ⟨g3000039, 0, none⟩)]] rfl (by (try simp only [List.map_toArray, List.map_cons, List.map_nil]); first | done | rfl | (simp; done)) ?_; have hs0_ := (SL.get3 (SL.get3 (SL.get3 (SL.get3 HS.out)))); (with_reducible refine (sight_lane_all_i3.slcalls k _ _ _ _ _ _ _ _ _ _ _ _ _ _ _ _ _ _ _ _ _ _ _ _ _ _ _ _ (HF.out.keep HK.out) hs0_ (HR0_2.out.keep HK.out) HC0_2.out Hc12.out).mono ?_); rintro e_ w16 ⟨rfl, hsr_, hkr_⟩; refine ⟨_, rfl, ?_⟩; replace HS := Aside0.mk (hsr_); replace HK := Aside0.mk (HK.out.trans hkr_); (try clear hz3000038_0_3 hz3000038_1_3 hz3000038_2_3 hz3000038_3_3); have hb_ := SL.at_ (SL.get3 HS.out); have hz3000039_0_4 := ((blk_cell hb_ 0).trans rfl : _ = some (.bool t368)); clear hb_))
    go_ret
    replace HS := Aside0.mk (SL.tail (SL.tail (SL.tail (SL.tail (SL.tail (SL.tail (SL.tail (SL.tail HS.out))))))))
    unfold sight_Sees.Post
    exact ⟨by first | rfl | (simp; done) | (simp [*]; done), HS.out, HK.out⟩
  · replace c10 := Bool.eq_false_iff.mpr c10
    subst c10
    rw [if_neg (show ¬ (false = true) by decide)] at H
    obtain rfl := Option.some.inj H
    refine hG_.out ?_
    go_wp2
    go_ret
    replace HS := Aside0.mk (SL.tail (SL.tail (SL.tail (SL.tail (SL.tail HS.out)))))
    unfold sight_Sees.Post
    exact ⟨by first | rfl | (simp; done) | (simp [*]; done), HS.out, HK.out⟩
theorem sight_Sees.calls (k : Nat) (a0_0 : Int) (a0_1 : Int) (A0_2 : Option Addr) (c0_2 : Nat) (l0_2 : List Bool) (a1_0 : Int) (a1_1 : Int) (a2_0 : Int) (a2_1 : Int) (r : Bool) (w : World) (hr0_2 : Kd.C Kd.bool w A0_2 l0_2.length l0_2) (hc0_2 : l0_2.length ≤ c0_2) (h : sight_Sees.f k a0_0 a0_1 l0_2 a1_0 a1_1 a2_0 a2_1 = some r) :
    Calls Try.prog 14 #[.agg #[.int .i64 a0_0, .int .i64 a0_1, .slice A0_2 l0_2.length c0_2], .agg #[.int .i64 a1_0, .int .i64 a1_1], .agg #[.int .i64 a2_0, .int .i64 a2_1]] w fun e w' => e = .returned (.bool r) ∧ Below w.heap.size w w' :=
  (sight_Sees.slcalls k a0_0 a0_1 A0_2 c0_2 l0_2 a1_0 a1_1 a2_0 a2_1 r (news w) [] w (fresh_news w) trivial (RO.top hr0_2) hc0_2 h).mono fun _ _ h => ⟨h.1, h.2.2.to_below⟩

/-! ### grid_wall: function 37 -/
def grid_wall.f (a0_0 : Int) (a0_1 : Int) (l0_2 : List Bool) (a1_0 : Int) (a1_1 : Int) : Option (Bool) := if 0 ≤ (wrap64 ((wrap64 (a1_1 * a0_0)) + a1_0)) then (if (wrap64 ((wrap64 (a1_1 * a0_0)) + a1_0)) < (l0_2.length : Int) then (some (rdOf false l0_2 (wrap64 ((wrap64 (a1_1 * a0_0)) + a1_0)))) else (none)) else (none)
set_option maxHeartbeats 8000000 in
set_option maxRecDepth 100000 in
theorem grid_wall.calls (a0_0 : Int) (a0_1 : Int) (A0_2 : Option Addr) (c0_2 : Nat) (l0_2 : List Bool) (a1_0 : Int) (a1_1 : Int) (r : Bool) (w : World) (hr0_2 : Kd.C Kd.bool w A0_2 l0_2.length l0_2) (hc0_2 : l0_2.length ≤ c0_2) (h : grid_wall.f a0_0 a0_1 l0_2 a1_0 a1_1 = some r) :
    Calls Try.prog 37 #[.agg #[.int .i64 a0_0, .int .i64 a0_1, .slice A0_2 l0_2.length c0_2], .agg #[.int .i64 a1_0, .int .i64 a1_1]] w fun e w' => e = .returned (.bool r) ∧ Below w.heap.size w w' := by
  have hu24 := Try.underlying24
  have hu26 := Try.underlying26
  have HR0_2 := Aside0.mk hr0_2
  have HC0_2 := Aside0.mk hc0_2
  clear hr0_2 hc0_2
  have HB := Aside0.mk (Below.refl w.heap.size w)
  have H : (if 0 ≤ (wrap64 ((wrap64 (a1_1 * a0_0)) + a1_0)) then (if (wrap64 ((wrap64 (a1_1 * a0_0)) + a1_0)) < (l0_2.length : Int) then (some (rdOf false l0_2 (wrap64 ((wrap64 (a1_1 * a0_0)) + a1_0)))) else (none)) else (none)) = some r := h
  clear h
  obtain ⟨ji3, hji3⟩ : ∃ j_ : Int, (wrap64 ((wrap64 (a1_1 * a0_0)) + a1_0)) = j_ := ⟨_, rfl⟩
  replace H : (if 0 ≤ (ji3) then (if (ji3) < (l0_2.length : Int) then (some (rdOf false l0_2 (ji3))) else (none)) else (none)) = some r := by first | (rw [hji3] at H; exact H) | (simp only [hji3] at H ⊢; exact H)
  have hji3w : (IntKind.i64.wrap ((wrap64 (a1_1 * a0_0)) + a1_0)) = ji3 := (i64_w _).trans hji3
  by_cases c4 : 0 ≤ (ji3)
  · rw [if_pos c4] at H
    have c4b0 : decide (0 ≤ (ji3)) = true := decide_eq_true c4
    clear c4
    by_cases c5 : (ji3) < (l0_2.length : Int)
    · rw [if_pos c5] at H
      have c5b0 : decide ((ji3) < (l0_2.length : Int)) = true := decide_eq_true c5
      clear c5
      obtain rfl := Option.some.inj H
      go_enter Try.func37, Try.ntmps37
      go_wp2_with (first | ((with_reducible refine gate_dst (N := 2) rfl ?_); refine box_event ?hg (N := 2) ?hd (cs := #[.int .i64 a0_0, .int .i64 a0_1, .slice A0_2 l0_2.length c0_2]) (t := 24) ?hr ?_; (case hd => rfl); (case hg => rfl); (case hr => first | (go_simp; done) | (go_simp; rfl)); intro gb443 hg w6 hbox hb; have n0_ := Aside0.mk (below_step (by repeat (first | (with_reducible first | exact HB.out | apply below_alloc | apply pw_below_drewN | apply below_drew1) | exact HB.out)) hb); have n1_ := Aside0.mk (hbox); have n2_ := Aside0.mk ((by rw [hg]; exact (below_size (by repeat (first | (with_reducible first | exact HB.out | apply below_alloc | apply pw_below_drewN | apply below_drew1) | exact HB.out))) : w.heap.size ≤ gb443)); have n3_ := Aside0.mk ((by rw [hg]; exact (below_size (by repeat (first | (with_reducible first | exact HB.out | apply below_alloc | apply pw_below_drewN | apply below_drew1) | exact HB.out))) : w.heap.size ≤ gb443)); clear HB; have HB := n0_; have BK443 := n1_; have GW443 := n2_; have GE443 := n3_; clear n0_ n1_ n2_ n3_; clear hb hbox hg) | ((with_reducible refine gate_dst (N := 3) rfl ?_); refine box_event ?hg (N := 3) ?hd (cs := #[.int .i64 a1_0, .int .i64 a1_1]) (t := 26) ?hr ?_; (case hd => rfl); (case hg => rfl); (case hr => first | (go_simp; done) | (go_simp; rfl)); intro gb444 hg w7 hbox hb; have n0_ := Aside0.mk (blk_below (g := gb443) (o := .cells #[.int .i64 a0_0, .int .i64 a0_1, .slice A0_2 l0_2.length c0_2] 24 (0, 0)) (by (with_reducible repeat (first | refine blk_drewN ?_ _ | refine blk_drew ?_ | refine blk_alloc ?_ _)); exact BK443.out) hb); have n1_ := Aside0.mk (below_step (by repeat (first | (with_reducible first | exact HB.out | apply below_alloc | apply pw_below_drewN | apply below_drew1 | refine below_set ?_ GE443.out) | exact HB.out)) hb); have n2_ := Aside0.mk (hbox); have n3_ := Aside0.mk ((by rw [hg]; exact (below_size (by repeat (first | (with_reducible first | exact HB.out | apply below_alloc | apply pw_below_drewN | apply below_drew1 | refine below_set ?_ GE443.out) | exact HB.out))) : w.heap.size ≤ gb444)); have n4_ := Aside0.mk ((by rw [hg]; exact (below_size (by repeat (first | (with_reducible first | exact HB.out | apply below_alloc | apply pw_below_drewN | apply below_drew1 | refine below_set ?_ GE443.out) | exact HB.out))) : w.heap.size ≤ gb444)); have n5_ := Aside0.mk ((by rw [hg]; exact Nat.ne_of_lt (blk_lt (g := gb443) (o := .cells #[.int .i64 a0_0, .int .i64 a0_1, .slice A0_2 l0_2.length c0_2] 24 (0, 0)) (by (with_reducible repeat (first | refine blk_drewN ?_ _ | refine blk_drew ?_ | refine blk_alloc ?_ _)); exact BK443.out)) : gb443 ≠ gb444)); have n6_ := Aside0.mk ((by rw [hg]; exact Nat.ne_of_gt (blk_lt (g := gb443) (o := .cells #[.int .i64 a0_0, .int .i64 a0_1, .slice A0_2 l0_2.length c0_2] 24 (0, 0)) (by (with_reducible repeat (first | refine blk_drewN ?_ _ | refine blk_drew ?_ | refine blk_alloc ?_ _)); exact BK443.out)) : gb444 ≠ gb443)); clear BK443; clear HB; have BK443 := n0_; have HB := n1_; have BK444 := n2_; have GW444 := n3_; have GE444 := n4_; have NB443_444 := n5_; have NB444_443 := n6_; clear n0_ n1_ n2_ n3_ n4_ n5_ n6_; clear hb hbox hg; have hnb8 := NB443_444.out; have hnc8 := NB444_443.out; have hcz9_0 : w7.cell? ⟨gb443, 0, none⟩ = some (.int .i64 a0_0) := (blk_cell BK443.out 0).trans rfl; have hcz9_1 : w7.cell? ⟨gb443, 1, none⟩ = some (.int .i64 a0_1) := (blk_cell BK443.out 1).trans rfl; have hcz9_2 : w7.cell? ⟨gb443, 2, none⟩ = some (.slice A0_2 l0_2.length c0_2) := (blk_cell BK443.out 2).trans rfl; have hfz9_0 := blk_frozen BK443.out 0; have hfz9_1 := blk_frozen BK443.out 1; have hfz9_2 := blk_frozen BK443.out 2; have hcz10_0 : w7.cell? ⟨gb444, 0, none⟩ = some (.int .i64 a1_0) := (blk_cell BK444.out 0).trans rfl; have hcz10_1 : w7.cell? ⟨gb444, 1, none⟩ = some (.int .i64 a1_1) := (blk_cell BK444.out 1).trans rfl; have hfz10_0 := blk_frozen BK444.out 0; have hfz10_1 := blk_frozen BK444.out 1; have p445 : 0 ≤ ((ji3) : Int) := of_decide_eq_true (by first | (with_reducible assumption) | assumption); have q445 : (ji3) < (l0_2.length : Int) := of_decide_eq_true (by first | (with_reducible assumption) | assumption); obtain ⟨ad445, e445, hx445_0⟩ := Kd.at_bool HR0_2.out (ji3) p445 q445; cases e445; replace hx445_0 := (HB.out.cell (World.block_lt_of_cell? w _ hx445_0)).trans hx445_0; replace p445 := eq_true p445; replace q445 := eq_true q445))
      go_ret
      exact ⟨by first | rfl | (simp [errW_none, errW_some] <;> rfl) | (simp only [← hji3]; first | rfl | (simp [errW_none, errW_some] <;> rfl)) | (simp [*, errW_none, errW_some] <;> rfl), by repeat (first | (with_reducible first | exact HB.out | apply below_alloc | apply pw_below_drewN | apply below_drew1 | refine below_set ?_ GE443.out | refine below_set ?_ GE444.out) | exact HB.out)⟩
    · rw [if_neg c5] at H
      exact absurd H (by simp)
  · rw [if_neg c4] at H
    exact absurd H (by simp)

end Go.Proofs.Ytljmecjciifceaa.XSW
