-- Written by xprint.py (a program of this session) for this claim
import Derived.Test.YtiadhonhjnbliaaSq
import Derived.Test.YtiadhonhjnbliaaSL5
import Derived.Test.YtiadhonhjnbliaaXZTx0
import Derived.Test.YtiadhonhjnbliaaXZTx7
namespace Go.Proofs.Ytiadhonhjnbliaa.XZT
open Go.Proofs.YtiadhonhjnbliaaV Go.Proofs.YtiadhonhjnbliaaS
open Go.RowKit Go.Proofs.YtiadhonhjnbliaaW.PrintWords Go.Proofs.YtiadhonhjnbliaaW.PrintLast Go.Proofs.YtiadhonhjnbliaaW.PrintMore
attribute [local go_sem] max2_int min2_int max_two min_two max_three min_three max_four min_four   -- for this text's walks alone
set_option linter.unusedVariables false
set_option linter.unusedSimpArgs false

-- NOT PRINTED: function 46 (zone_hits_1)

/-! ### zone_hits: function 25 -/
def zone_hits.f (a0_0 : Int) (a0_1 : Int) (a0_2 : Int) (a0_3 : Int) (a0_4 : Int) (a0_5 : Int) (a0_6 : Int) (a0_7 : Int) (a0_8 : Int) (a0_9 : Int) (a0_10 : Int) (a0_11 : Int) (a0_12 : Int) (a0_13 : Int) (a0_14 : Int) (a0_15 : Int) : Option (Int × Int × Int × Int × Int × Int × Int × Int × Int × Int × Int × Int × Int × Int × Int × Int) := some (a0_0, a0_1, a0_2, a0_3, a0_4, a0_5, a0_6, a0_7, a0_8, a0_9, a0_10, a0_11, a0_12, a0_13, a0_14, a0_15)
def zone_hits.Post (r1 : Int) (r2 : Int) (r3 : Int) (r4 : Int) (r5 : Int) (r6 : Int) (r7 : Int) (r8 : Int) (r9 : Int) (r10 : Int) (r11 : Int) (r12 : Int) (r13 : Int) (r14 : Int) (r15 : Int) (r16 : Int) (S : Nat → Prop) (L : List Asr) (w : World) (e : Ending) (w' : World) : Prop := ∃ (gr0 : Nat), e = .returned (.func (.func 46) #[] #[.pointer (some ⟨gr0, 0, none⟩)]) ∧ SL (cells gr0 37 [.int .i64 r1, .int .i64 r2, .int .i64 r3, .int .i64 r4, .int .i64 r5, .int .i64 r6, .int .i64 r7, .int .i64 r8, .int .i64 r9, .int .i64 r10, .int .i64 r11, .int .i64 r12, .int .i64 r13, .int .i64 r14, .int .i64 r15, .int .i64 r16].toArray :: L) w' S ∧ Keep S w w'
set_option maxHeartbeats 8000000 in
set_option maxRecDepth 100000 in
theorem zone_hits.slcalls (a0_0 : Int) (a0_1 : Int) (a0_2 : Int) (a0_3 : Int) (a0_4 : Int) (a0_5 : Int) (a0_6 : Int) (a0_7 : Int) (a0_8 : Int) (a0_9 : Int) (a0_10 : Int) (a0_11 : Int) (a0_12 : Int) (a0_13 : Int) (a0_14 : Int) (a0_15 : Int) (r1 : Int) (r2 : Int) (r3 : Int) (r4 : Int) (r5 : Int) (r6 : Int) (r7 : Int) (r8 : Int) (r9 : Int) (r10 : Int) (r11 : Int) (r12 : Int) (r13 : Int) (r14 : Int) (r15 : Int) (r16 : Int) (S : Nat → Prop) (L : List Asr) (w : World) (hf : Fresh S w) (hs : SL (L) w S) (h : zone_hits.f a0_0 a0_1 a0_2 a0_3 a0_4 a0_5 a0_6 a0_7 a0_8 a0_9 a0_10 a0_11 a0_12 a0_13 a0_14 a0_15 = some (r1, r2, r3, r4, r5, r6, r7, r8, r9, r10, r11, r12, r13, r14, r15, r16)) :
  Calls Try.prog 25 #[.agg #[.int .i64 a0_0, .int .i64 a0_1, .int .i64 a0_2, .int .i64 a0_3, .int .i64 a0_4, .int .i64 a0_5, .int .i64 a0_6, .int .i64 a0_7, .int .i64 a0_8, .int .i64 a0_9, .int .i64 a0_10, .int .i64 a0_11, .int .i64 a0_12, .int .i64 a0_13, .int .i64 a0_14, .int .i64 a0_15]] w (zone_hits.Post r1 r2 r3 r4 r5 r6 r7 r8 r9 r10 r11 r12 r13 r14 r15 r16 S L w) := by
 have HF := Aside0.mk hf
 have HS := Aside0.mk hs
 have HK := Aside0.mk (Keep.refl S w)
 clear hf hs
 have hu37 := Try.underlying37
 have H : (some (a0_0, a0_1, a0_2, a0_3, a0_4, a0_5, a0_6, a0_7, a0_8, a0_9, a0_10, a0_11, a0_12, a0_13, a0_14, a0_15)) = some (r1, r2, r3, r4, r5, r6, r7, r8, r9, r10, r11, r12, r13, r14, r15, r16) := h
 clear h
 simp only [Option.some.injEq, Prod.mk.injEq] at H
 obtain ⟨rfl, rfl, rfl, rfl, rfl, rfl, rfl, rfl, rfl, rfl, rfl, rfl, rfl, rfl, rfl, rfl⟩ := H
 go_enter Try.func25, Try.ntmps25
 go_wp2_with (first | ((with_reducible refine gate_dst (N := 1) rfl ?_); refine wpList_plain rfl (fun K_ hK_ => ?_); refine op_box (S := S) (cs := #[.int .i64 a0_0, .int .i64 a0_1, .int .i64 a0_2, .int .i64 a0_3, .int .i64 a0_4, .int .i64 a0_5, .int .i64 a0_6, .int .i64 a0_7, .int .i64 a0_8, .int .i64 a0_9, .int .i64 a0_10, .int .i64 a0_11, .int .i64 a0_12, .int .i64 a0_13, .int .i64 a0_14, .int .i64 a0_15]) (t := 37) (HF.out.keep HK.out) HS.out (by first | (go_simp; done) | (go_simp; rfl)) ?_; intro g3000011 w1 hs_ hk_; refine hK_ _ _ ?_; clear hK_ K_; replace HS := Aside0.mk (hs_); replace HK := Aside0.mk (HK.out.trans hk_)))
 go_ret
 unfold zone_hits.Post
 exact ⟨g3000011, by first | rfl | (simp; done) | (simp [*]; done), HS.out, HK.out⟩

/-! ### zone_hits_1_i1: function 46 -/
def zone_hits_1_i1.f (k : Nat) (a0_0 : Int) (a0_1 : Int) (a0_2 : Int) (a0_3 : Int) (a0_4 : Int) (a0_5 : Int) (a0_6 : Int) (a0_7 : Int) (a0_8 : Int) (a0_9 : Int) (s0_0 : Int) (s0_1 : Int) (s0_2 : Int) (s0_3 : Int) (s0_4 : Int) (s0_5 : Int) (s0_6 : Int) (s0_7 : Int) (s0_8 : Int) (s0_9 : Int) (s0_10 : Int) (s0_11 : Int) (s0_12 : Int) (s0_13 : Int) (s0_14 : Int) (s0_15 : Int) : Option (Bool) := if a0_3 > 0 then (if s0_15 = 0 then ((area_In.f k s0_1 s0_2 s0_3 s0_4 s0_5 s0_6 s0_7 a0_7 a0_8).bind fun t221 => (some t221)) else (if s0_15 = a0_1 then ((area_In.f k s0_1 s0_2 s0_3 s0_4 s0_5 s0_6 s0_7 a0_7 a0_8).bind fun t222 => (some t222)) else (some false))) else (some false)
theorem zone_hits_1_i1.mono : ∀ a0 a1 a2 a3 a4 a5 a6 a7 a8 a9 a10 a11 a12 a13 a14 a15 a16 a17 a18 a19 a20 a21 a22 a23 a24 a25 k, LeO (zone_hits_1_i1.f k a0 a1 a2 a3 a4 a5 a6 a7 a8 a9 a10 a11 a12 a13 a14 a15 a16 a17 a18 a19 a20 a21 a22 a23 a24 a25) (zone_hits_1_i1.f (k + 1) a0 a1 a2 a3 a4 a5 a6 a7 a8 a9 a10 a11 a12 a13 a14 a15 a16 a17 a18 a19 a20 a21 a22 a23 a24 a25) := by
 intro a0 a1 a2 a3 a4 a5 a6 a7 a8 a9 a10 a11 a12 a13 a14 a15 a16 a17 a18 a19 a20 a21 a22 a23 a24 a25 k
 unfold zone_hits_1_i1.f
 repeat' first
   | (with_reducible exact area_In.mono _ _ _ _ _ _ _ _ _ _)
   | (with_reducible exact LeO.refl _)
   | (with_reducible exact LeO.none _)
   | (with_reducible refine LeO.ite ?_ ?_)
   | (with_reducible refine everyOf_le (fun _ => ?_))
   | (with_reducible refine LeO.bind ?_ (fun _ => ?_))
   | exact area_In.mono _ _ _ _ _ _ _ _ _ _
   | exact LeO.none _
   | refine LeO.ite ?_ ?_
   | refine LeO.bind ?_ (fun _ => ?_)
def zone_hits_1_i1.Post (b0 : Nat) (s0_0 : Int) (s0_1 : Int) (s0_2 : Int) (s0_3 : Int) (s0_4 : Int) (s0_5 : Int) (s0_6 : Int) (s0_7 : Int) (s0_8 : Int) (s0_9 : Int) (s0_10 : Int) (s0_11 : Int) (s0_12 : Int) (s0_13 : Int) (s0_14 : Int) (s0_15 : Int) (r : Bool) (S : Nat → Prop) (L : List Asr) (w : World) (e : Ending) (w' : World) : Prop := e = .returned (.bool r) ∧ SL (cells b0 37 [.int .i64 s0_0, .int .i64 s0_1, .int .i64 s0_2, .int .i64 s0_3, .int .i64 s0_4, .int .i64 s0_5, .int .i64 s0_6, .int .i64 s0_7, .int .i64 s0_8, .int .i64 s0_9, .int .i64 s0_10, .int .i64 s0_11, .int .i64 s0_12, .int .i64 s0_13, .int .i64 s0_14, .int .i64 s0_15].toArray :: L) w' S ∧ Keep S w w'
set_option maxHeartbeats 8000000 in
set_option maxRecDepth 100000 in
theorem zone_hits_1_i1.slcalls (k : Nat) (a0_0 : Int) (a0_1 : Int) (a0_2 : Int) (a0_3 : Int) (a0_4 : Int) (a0_5 : Int) (a0_6 : Int) (a0_7 : Int) (a0_8 : Int) (a0_9 : Int) (b0 : Nat) (s0_0 : Int) (s0_1 : Int) (s0_2 : Int) (s0_3 : Int) (s0_4 : Int) (s0_5 : Int) (s0_6 : Int) (s0_7 : Int) (s0_8 : Int) (s0_9 : Int) (s0_10 : Int) (s0_11 : Int) (s0_12 : Int) (s0_13 : Int) (s0_14 : Int) (s0_15 : Int) (r : Bool) (S : Nat → Prop) (L : List Asr) (w : World) (hf : Fresh S w) (hs : SL (cells b0 37 [.int .i64 s0_0, .int .i64 s0_1, .int .i64 s0_2, .int .i64 s0_3, .int .i64 s0_4, .int .i64 s0_5, .int .i64 s0_6, .int .i64 s0_7, .int .i64 s0_8, .int .i64 s0_9, .int .i64 s0_10, .int .i64 s0_11, .int .i64 s0_12, .int .i64 s0_13, .int .i64 s0_14, .int .i64 s0_15].toArray :: L) w S) (h : zone_hits_1_i1.f k a0_0 a0_1 a0_2 a0_3 a0_4 a0_5 a0_6 a0_7 a0_8 a0_9 s0_0 s0_1 s0_2 s0_3 s0_4 s0_5 s0_6 s0_7 s0_8 s0_9 s0_10 s0_11 s0_12 s0_13 s0_14 s0_15 = some r) :
  Calls Try.prog 46 #[.agg #[.int .i64 a0_0, .int .i64 a0_1, .int .i64 a0_2, .int .i64 a0_3, .int .i64 a0_4, .int .i64 a0_5, .int .i64 a0_6, .int .i64 a0_7, .int .i64 a0_8, .int .i64 a0_9], .pointer (some ⟨b0, 0, none⟩)] w (zone_hits_1_i1.Post b0 s0_0 s0_1 s0_2 s0_3 s0_4 s0_5 s0_6 s0_7 s0_8 s0_9 s0_10 s0_11 s0_12 s0_13 s0_14 s0_15 r S L w) := by
 have HF := Aside0.mk hf
 have HS := Aside0.mk hs
 have HK := Aside0.mk (Keep.refl S w)
 clear hf hs
 have hu31 := Try.underlying31
 have hu33 := Try.underlying33
 have hu44 := Try.underlying44
 have H : (if a0_3 > 0 then (if s0_15 = 0 then ((area_In.f k s0_1 s0_2 s0_3 s0_4 s0_5 s0_6 s0_7 a0_7 a0_8).bind fun t221 => (some t221)) else (if s0_15 = a0_1 then ((area_In.f k s0_1 s0_2 s0_3 s0_4 s0_5 s0_6 s0_7 a0_7 a0_8).bind fun t222 => (some t222)) else (some false))) else (some false)) = some r := h
 clear h
 by_cases c1 : a0_3 > 0
 ·rw [if_pos c1] at H
  have c1b0 : decide (0 < a0_3) = true := decide_eq_true c1
  clear c1
  by_cases c2 : s0_15 = 0
  ·rw [if_pos c2] at H
   have c2b0 : (s0_15 == 0) = true := beq_iff_eq.mpr c2
   have c2b1 : (s0_15 != 0) = false := bne_eq_false_iff_eq.mpr c2
   clear c2
   replace H := Option.bind_eq_some_iff.1 H
   obtain ⟨t221, Hc30, H⟩ := H
   try dsimp only at H
   have Hc3 := Aside0.mk Hc30
   clear Hc30
   obtain rfl := Option.some.inj H
   go_enter Try.func46, Try.ntmps46
   go_wp2_with (first | ((with_reducible refine gate_dst (N := 2) rfl ?_); refine wpList_plain rfl (fun K_ hK_ => ?_); refine op_box (S := S) (cs := #[.int .i64 a0_0, .int .i64 a0_1, .int .i64 a0_2, .int .i64 a0_3, .int .i64 a0_4, .int .i64 a0_5, .int .i64 a0_6, .int .i64 a0_7, .int .i64 a0_8, .int .i64 a0_9]) (t := 44) (HF.out.keep HK.out) HS.out (by first | (go_simp; done) | (go_simp; rfl)) ?_; intro g3000015 w4 hs_ hk_; refine hK_ _ _ ?_; clear hK_ K_; replace HS := Aside0.mk (hs_); replace HK := Aside0.mk (HK.out.trans hk_); have hb_ := SL.at_ HS.out; have hz3000015_0_1 := ((blk_cell hb_ 0).trans rfl : _ = some (.int .i64 a0_0)); have hz3000015_1_1 := ((blk_cell hb_ 1).trans rfl : _ = some (.int .i64 a0_1)); have hz3000015_2_1 := ((blk_cell hb_ 2).trans rfl : _ = some (.int .i64 a0_2)); have hz3000015_3_1 := ((blk_cell hb_ 3).trans rfl : _ = some (.int .i64 a0_3)); have hz3000015_4_1 := ((blk_cell hb_ 4).trans rfl : _ = some (.int .i64 a0_4)); have hz3000015_5_1 := ((blk_cell hb_ 5).trans rfl : _ = some (.int .i64 a0_5)); have hz3000015_6_1 := ((blk_cell hb_ 6).trans rfl : _ = some (.int .i64 a0_6)); have hz3000015_7_1 := ((blk_cell hb_ 7).trans rfl : _ = some (.int .i64 a0_7)); have hz3000015_8_1 := ((blk_cell hb_ 8).trans rfl : _ = some (.int .i64 a0_8)); have hz3000015_9_1 := ((blk_cell hb_ 9).trans rfl : _ = some (.int .i64 a0_9)); clear hb_; have hb_ := SL.at_ (SL.get1 HS.out); have hz0_0_1 := ((blk_cell hb_ 0).trans rfl : _ = some (.int .i64 s0_0)); have hz0_1_1 := ((blk_cell hb_ 1).trans rfl : _ = some (.int .i64 s0_1)); have hz0_2_1 := ((blk_cell hb_ 2).trans rfl : _ = some (.int .i64 s0_2)); have hz0_3_1 := ((blk_cell hb_ 3).trans rfl : _ = some (.int .i64 s0_3)); have hz0_4_1 := ((blk_cell hb_ 4).trans rfl : _ = some (.int .i64 s0_4)); have hz0_5_1 := ((blk_cell hb_ 5).trans rfl : _ = some (.int .i64 s0_5)); have hz0_6_1 := ((blk_cell hb_ 6).trans rfl : _ = some (.int .i64 s0_6)); have hz0_7_1 := ((blk_cell hb_ 7).trans rfl : _ = some (.int .i64 s0_7)); have hz0_8_1 := ((blk_cell hb_ 8).trans rfl : _ = some (.int .i64 s0_8)); have hz0_9_1 := ((blk_cell hb_ 9).trans rfl : _ = some (.int .i64 s0_9)); have hz0_10_1 := ((blk_cell hb_ 10).trans rfl : _ = some (.int .i64 s0_10)); have hz0_11_1 := ((blk_cell hb_ 11).trans rfl : _ = some (.int .i64 s0_11)); have hz0_12_1 := ((blk_cell hb_ 12).trans rfl : _ = some (.int .i64 s0_12)); have hz0_13_1 := ((blk_cell hb_ 13).trans rfl : _ = some (.int .i64 s0_13)); have hz0_14_1 := ((blk_cell hb_ 14).trans rfl : _ = some (.int .i64 s0_14)); have hz0_15_1 := ((blk_cell hb_ 15).trans rfl : _ = some (.int .i64 s0_15)); clear hb_) | ((with_reducible refine gate_dst (N := 24) rfl ?_); (try (refine gate_guard (by rfl) ?_; dsimp only)); refine goesL_ (some 24) rfl rfl Try.func24 (by kernel_rfl) rfl #[.agg #[.int .i64 s0_1, .int .i64 s0_2, .int .i64 s0_3, .int .i64 s0_4, .int .i64 s0_5, .int .i64 s0_6, .int .i64 s0_7], .agg #[.int .i64 a0_7, .int .i64 a0_8]] rfl (by (try simp only [List.map_toArray, List.map_cons, List.map_nil]); first | done | rfl | (simp; done)) ?_; (with_reducible refine (area_In.calls k _ _ _ _ _ _ _ _ _ _ _  Hc3.out).mono ?_); rintro e_ w5 ⟨rfl, hb_⟩; refine ⟨_, rfl, ?_⟩; replace HS := Aside0.mk (HS.out.below hb_); replace HK := Aside0.mk (HK.out.trans (Keep.below hb_)); (try clear hz0_0_1 hz0_1_1 hz0_2_1 hz0_3_1 hz0_4_1 hz0_5_1 hz0_6_1 hz0_7_1 hz0_8_1 hz0_9_1 hz0_10_1 hz0_11_1 hz0_12_1 hz0_13_1 hz0_14_1 hz0_15_1); (try clear hz3000015_0_1 hz3000015_1_1 hz3000015_2_1 hz3000015_3_1 hz3000015_4_1 hz3000015_5_1 hz3000015_6_1 hz3000015_7_1 hz3000015_8_1 hz3000015_9_1)))
   go_ret
   replace HS := Aside0.mk (SL.tail HS.out)
   unfold zone_hits_1_i1.Post
   exact ⟨by first | rfl | (simp; done) | (simp [*]; done) | (simp at c2b0 ⊢; first | exact c2b0 | (simp [c2b0]; done)), HS.out, HK.out⟩
  ·rw [if_neg c2] at H
   have c2b0 : (s0_15 == 0) = false := beq_eq_false_iff_ne.mpr c2
   have c2b1 : (s0_15 != 0) = true := bne_iff_ne.mpr c2
   by_cases c6 : s0_15 = a0_1
   ·rw [if_pos c6] at H
    have c6b0 : (s0_15 == a0_1) = true := beq_iff_eq.mpr c6
    have c6b1 : (s0_15 != a0_1) = false := bne_eq_false_iff_eq.mpr c6
    clear c6
    replace H := Option.bind_eq_some_iff.1 H
    obtain ⟨t222, Hc70, H⟩ := H
    try dsimp only at H
    have Hc7 := Aside0.mk Hc70
    clear Hc70
    obtain rfl := Option.some.inj H
    go_enter Try.func46, Try.ntmps46
    go_wp2_with (first | ((with_reducible refine gate_dst (N := 2) rfl ?_); refine wpList_plain rfl (fun K_ hK_ => ?_); refine op_box (S := S) (cs := #[.int .i64 a0_0, .int .i64 a0_1, .int .i64 a0_2, .int .i64 a0_3, .int .i64 a0_4, .int .i64 a0_5, .int .i64 a0_6, .int .i64 a0_7, .int .i64 a0_8, .int .i64 a0_9]) (t := 44) (HF.out.keep HK.out) HS.out (by first | (go_simp; done) | (go_simp; rfl)) ?_; intro g3000015 w8 hs_ hk_; refine hK_ _ _ ?_; clear hK_ K_; replace HS := Aside0.mk (hs_); replace HK := Aside0.mk (HK.out.trans hk_); have hb_ := SL.at_ HS.out; have hz3000015_0_1 := ((blk_cell hb_ 0).trans rfl : _ = some (.int .i64 a0_0)); have hz3000015_1_1 := ((blk_cell hb_ 1).trans rfl : _ = some (.int .i64 a0_1)); have hz3000015_2_1 := ((blk_cell hb_ 2).trans rfl : _ = some (.int .i64 a0_2)); have hz3000015_3_1 := ((blk_cell hb_ 3).trans rfl : _ = some (.int .i64 a0_3)); have hz3000015_4_1 := ((blk_cell hb_ 4).trans rfl : _ = some (.int .i64 a0_4)); have hz3000015_5_1 := ((blk_cell hb_ 5).trans rfl : _ = some (.int .i64 a0_5)); have hz3000015_6_1 := ((blk_cell hb_ 6).trans rfl : _ = some (.int .i64 a0_6)); have hz3000015_7_1 := ((blk_cell hb_ 7).trans rfl : _ = some (.int .i64 a0_7)); have hz3000015_8_1 := ((blk_cell hb_ 8).trans rfl : _ = some (.int .i64 a0_8)); have hz3000015_9_1 := ((blk_cell hb_ 9).trans rfl : _ = some (.int .i64 a0_9)); clear hb_; have hb_ := SL.at_ (SL.get1 HS.out); have hz0_0_1 := ((blk_cell hb_ 0).trans rfl : _ = some (.int .i64 s0_0)); have hz0_1_1 := ((blk_cell hb_ 1).trans rfl : _ = some (.int .i64 s0_1)); have hz0_2_1 := ((blk_cell hb_ 2).trans rfl : _ = some (.int .i64 s0_2)); have hz0_3_1 := ((blk_cell hb_ 3).trans rfl : _ = some (.int .i64 s0_3)); have hz0_4_1 := ((blk_cell hb_ 4).trans rfl : _ = some (.int .i64 s0_4)); have hz0_5_1 := ((blk_cell hb_ 5).trans rfl : _ = some (.int .i64 s0_5)); have hz0_6_1 := ((blk_cell hb_ 6).trans rfl : _ = some (.int .i64 s0_6)); have hz0_7_1 := ((blk_cell hb_ 7).trans rfl : _ = some (.int .i64 s0_7)); have hz0_8_1 := ((blk_cell hb_ 8).trans rfl : _ = some (.int .i64 s0_8)); have hz0_9_1 := ((blk_cell hb_ 9).trans rfl : _ = some (.int .i64 s0_9)); have hz0_10_1 := ((blk_cell hb_ 10).trans rfl : _ = some (.int .i64 s0_10)); have hz0_11_1 := ((blk_cell hb_ 11).trans rfl : _ = some (.int .i64 s0_11)); have hz0_12_1 := ((blk_cell hb_ 12).trans rfl : _ = some (.int .i64 s0_12)); have hz0_13_1 := ((blk_cell hb_ 13).trans rfl : _ = some (.int .i64 s0_13)); have hz0_14_1 := ((blk_cell hb_ 14).trans rfl : _ = some (.int .i64 s0_14)); have hz0_15_1 := ((blk_cell hb_ 15).trans rfl : _ = some (.int .i64 s0_15)); clear hb_) | ((with_reducible refine gate_dst (N := 24) rfl ?_); (try (refine gate_guard (by rfl) ?_; dsimp only)); refine goesL_ (some 24) rfl rfl Try.func24 (by kernel_rfl) rfl #[.agg #[.int .i64 s0_1, .int .i64 s0_2, .int .i64 s0_3, .int .i64 s0_4, .int .i64 s0_5, .int .i64 s0_6, .int .i64 s0_7], .agg #[.int .i64 a0_7, .int .i64 a0_8]] rfl (by (try simp only [List.map_toArray, List.map_cons, List.map_nil]); first | done | rfl | (simp; done)) ?_; (with_reducible refine (area_In.calls k _ _ _ _ _ _ _ _ _ _ _  Hc7.out).mono ?_); rintro e_ w9 ⟨rfl, hb_⟩; refine ⟨_, rfl, ?_⟩; replace HS := Aside0.mk (HS.out.below hb_); replace HK := Aside0.mk (HK.out.trans (Keep.below hb_)); (try clear hz0_0_1 hz0_1_1 hz0_2_1 hz0_3_1 hz0_4_1 hz0_5_1 hz0_6_1 hz0_7_1 hz0_8_1 hz0_9_1 hz0_10_1 hz0_11_1 hz0_12_1 hz0_13_1 hz0_14_1 hz0_15_1); (try clear hz3000015_0_1 hz3000015_1_1 hz3000015_2_1 hz3000015_3_1 hz3000015_4_1 hz3000015_5_1 hz3000015_6_1 hz3000015_7_1 hz3000015_8_1 hz3000015_9_1)))
    go_ret
    replace HS := Aside0.mk (SL.tail HS.out)
    unfold zone_hits_1_i1.Post
    exact ⟨by first | rfl | (simp; done) | (simp [*]; done) | (simp at c6b0 ⊢; first | exact c6b0 | (simp [c6b0]; done)), HS.out, HK.out⟩
   ·rw [if_neg c6] at H
    have c6b0 : (s0_15 == a0_1) = false := beq_eq_false_iff_ne.mpr c6
    have c6b1 : (s0_15 != a0_1) = true := bne_iff_ne.mpr c6
    obtain rfl := Option.some.inj H
    go_enter Try.func46, Try.ntmps46
    go_wp2_with (first | ((with_reducible refine gate_dst (N := 2) rfl ?_); refine wpList_plain rfl (fun K_ hK_ => ?_); refine op_box (S := S) (cs := #[.int .i64 a0_0, .int .i64 a0_1, .int .i64 a0_2, .int .i64 a0_3, .int .i64 a0_4, .int .i64 a0_5, .int .i64 a0_6, .int .i64 a0_7, .int .i64 a0_8, .int .i64 a0_9]) (t := 44) (HF.out.keep HK.out) HS.out (by first | (go_simp; done) | (go_simp; rfl)) ?_; intro g3000015 w10 hs_ hk_; refine hK_ _ _ ?_; clear hK_ K_; replace HS := Aside0.mk (hs_); replace HK := Aside0.mk (HK.out.trans hk_); have hb_ := SL.at_ HS.out; have hz3000015_0_1 := ((blk_cell hb_ 0).trans rfl : _ = some (.int .i64 a0_0)); have hz3000015_1_1 := ((blk_cell hb_ 1).trans rfl : _ = some (.int .i64 a0_1)); have hz3000015_2_1 := ((blk_cell hb_ 2).trans rfl : _ = some (.int .i64 a0_2)); have hz3000015_3_1 := ((blk_cell hb_ 3).trans rfl : _ = some (.int .i64 a0_3)); have hz3000015_4_1 := ((blk_cell hb_ 4).trans rfl : _ = some (.int .i64 a0_4)); have hz3000015_5_1 := ((blk_cell hb_ 5).trans rfl : _ = some (.int .i64 a0_5)); have hz3000015_6_1 := ((blk_cell hb_ 6).trans rfl : _ = some (.int .i64 a0_6)); have hz3000015_7_1 := ((blk_cell hb_ 7).trans rfl : _ = some (.int .i64 a0_7)); have hz3000015_8_1 := ((blk_cell hb_ 8).trans rfl : _ = some (.int .i64 a0_8)); have hz3000015_9_1 := ((blk_cell hb_ 9).trans rfl : _ = some (.int .i64 a0_9)); clear hb_; have hb_ := SL.at_ (SL.get1 HS.out); have hz0_0_1 := ((blk_cell hb_ 0).trans rfl : _ = some (.int .i64 s0_0)); have hz0_1_1 := ((blk_cell hb_ 1).trans rfl : _ = some (.int .i64 s0_1)); have hz0_2_1 := ((blk_cell hb_ 2).trans rfl : _ = some (.int .i64 s0_2)); have hz0_3_1 := ((blk_cell hb_ 3).trans rfl : _ = some (.int .i64 s0_3)); have hz0_4_1 := ((blk_cell hb_ 4).trans rfl : _ = some (.int .i64 s0_4)); have hz0_5_1 := ((blk_cell hb_ 5).trans rfl : _ = some (.int .i64 s0_5)); have hz0_6_1 := ((blk_cell hb_ 6).trans rfl : _ = some (.int .i64 s0_6)); have hz0_7_1 := ((blk_cell hb_ 7).trans rfl : _ = some (.int .i64 s0_7)); have hz0_8_1 := ((blk_cell hb_ 8).trans rfl : _ = some (.int .i64 s0_8)); have hz0_9_1 := ((blk_cell hb_ 9).trans rfl : _ = some (.int .i64 s0_9)); have hz0_10_1 := ((blk_cell hb_ 10).trans rfl : _ = some (.int .i64 s0_10)); have hz0_11_1 := ((blk_cell hb_ 11).trans rfl : _ = some (.int .i64 s0_11)); have hz0_12_1 := ((blk_cell hb_ 12).trans rfl : _ = some (.int .i64 s0_12)); have hz0_13_1 := ((blk_cell hb_ 13).trans rfl : _ = some (.int .i64 s0_13)); have hz0_14_1 := ((blk_cell hb_ 14).trans rfl : _ = some (.int .i64 s0_14)); have hz0_15_1 := ((blk_cell hb_ 15).trans rfl : _ = some (.int .i64 s0_15)); clear hb_))
    go_ret
    replace HS := Aside0.mk (SL.tail HS.out)
    unfold zone_hits_1_i1.Post
    exact ⟨by first | rfl | (simp; done) | (simp [*]; done) | (simp at c6b0 ⊢; first | exact c6b0 | (simp [c6b0]; done)), HS.out, HK.out⟩
 ·rw [if_neg c1] at H
  have c1b0 : decide (0 < a0_3) = false := decide_eq_false c1
  clear c1
  obtain rfl := Option.some.inj H
  go_enter Try.func46, Try.ntmps46
  go_wp2_with (first | ((with_reducible refine gate_dst (N := 2) rfl ?_); refine wpList_plain rfl (fun K_ hK_ => ?_); refine op_box (S := S) (cs := #[.int .i64 a0_0, .int .i64 a0_1, .int .i64 a0_2, .int .i64 a0_3, .int .i64 a0_4, .int .i64 a0_5, .int .i64 a0_6, .int .i64 a0_7, .int .i64 a0_8, .int .i64 a0_9]) (t := 44) (HF.out.keep HK.out) HS.out (by first | (go_simp; done) | (go_simp; rfl)) ?_; intro g3000015 w11 hs_ hk_; refine hK_ _ _ ?_; clear hK_ K_; replace HS := Aside0.mk (hs_); replace HK := Aside0.mk (HK.out.trans hk_); have hb_ := SL.at_ HS.out; have hz3000015_0_1 := ((blk_cell hb_ 0).trans rfl : _ = some (.int .i64 a0_0)); have hz3000015_1_1 := ((blk_cell hb_ 1).trans rfl : _ = some (.int .i64 a0_1)); have hz3000015_2_1 := ((blk_cell hb_ 2).trans rfl : _ = some (.int .i64 a0_2)); have hz3000015_3_1 := ((blk_cell hb_ 3).trans rfl : _ = some (.int .i64 a0_3)); have hz3000015_4_1 := ((blk_cell hb_ 4).trans rfl : _ = some (.int .i64 a0_4)); have hz3000015_5_1 := ((blk_cell hb_ 5).trans rfl : _ = some (.int .i64 a0_5)); have hz3000015_6_1 := ((blk_cell hb_ 6).trans rfl : _ = some (.int .i64 a0_6)); have hz3000015_7_1 := ((blk_cell hb_ 7).trans rfl : _ = some (.int .i64 a0_7)); have hz3000015_8_1 := ((blk_cell hb_ 8).trans rfl : _ = some (.int .i64 a0_8)); have hz3000015_9_1 := ((blk_cell hb_ 9).trans rfl : _ = some (.int .i64 a0_9)); clear hb_))
  go_ret
  replace HS := Aside0.mk (SL.tail HS.out)
  unfold zone_hits_1_i1.Post
  exact ⟨by first | rfl | (simp; done) | (simp [*]; done) | (simp at c1b0 ⊢; first | exact c1b0 | (simp [c1b0]; done)), HS.out, HK.out⟩

end Go.Proofs.Ytiadhonhjnbliaa.XZT
