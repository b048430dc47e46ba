-- Written by xprint.py (a program of this session) for this claim
import Derived.Test.YtiadhonhjnbliaaSq
import Derived.Test.YtiadhonhjnbliaaSL5
import Derived.Test.YtiadhonhjnbliaaSL4
import Derived.Test.YtiadhonhjnbliaaXZTx0
import Derived.Test.YtiadhonhjnbliaaXZTx15
import Derived.Test.YtiadhonhjnbliaaXZTx20
import Derived.Test.YtiadhonhjnbliaaXZTx21
namespace Go.Proofs.Ytiadhonhjnbliaa.XZT
open Go.Proofs.YtiadhonhjnbliaaV Go.Proofs.YtiadhonhjnbliaaS
open Go.RowKit Go.Proofs.YtiadhonhjnbliaaW.PrintWords Go.Proofs.YtiadhonhjnbliaaW.PrintLast Go.Proofs.YtiadhonhjnbliaaW.PrintMore
attribute [local go_sem] max2_int min2_int max_two min_two max_three min_three max_four min_four   -- for this text's walks alone
set_option linter.unusedVariables false
set_option linter.unusedSimpArgs false

/-! ### barrowref33_Add: function 15 -/
def barrowref33_Add.l199 : Nat → (List (S37)) → Int → Int → Int → Int → Int → Int → Int → Int → Int → Int → Int → Int → Int → Int → Int → Bool → Option ((List (S37)) × Int × Int)
 | 0, _, _, _, _, _, _, _, _, _, _, _, _, _, _, _, _, _ => none
 | k + 1, l0, a1_1, a1_2, a1_3, a1_4, a1_5, a1_6, a1_7, a1_9, a1_11, a1_12, a1_13, a1_14, a1_15, a2, a3, x44_199 => if x44_199 = true then (some (([] : List (S37)), 0, 4)) else (if (l0.length : Int) > 0 then ((some (wrap64 ((l0.length : Int) - 1) : Int)).bind fun j552 => (if 0 ≤ j552 then (if j552 < (l0.length : Int) then ((barrowref01_Add.f k ((rd_T37 l0 j552).f0) 1).bind fun t554 => ((barrowref01_Add.f k a2 a3).bind fun t555 => ((barrowref01_Add.f k a2 a1_9).bind fun t556 => ((barrowref33_Copy.f l0).bind fun t557 => ((some (([(⟨t554, (⟨a1_1, (⟨a1_2, a1_3⟩ : S31), (⟨a1_4, a1_5⟩ : S31), a1_6, a1_7⟩ : S33), t555, a1_9, t556, (⟨a1_11, a1_12, a1_13⟩ : S35), a1_14, a1_15⟩ : S37)] : List (S37)) : List (S37))).bind fun y558 => (if t557.length + y558.length < 1099511627776 then ((some (t557 ++ y558 : List (S37))).bind fun y559 => (some (y559, t554, 0))) else (none))))))) else (none)) else (none))) else ((barrowref01_Add.f k a2 a3).bind fun t562 => ((barrowref01_Add.f k a2 a1_9).bind fun t563 => ((barrowref33_Copy.f l0).bind fun t564 => ((some (([(⟨1, (⟨a1_1, (⟨a1_2, a1_3⟩ : S31), (⟨a1_4, a1_5⟩ : S31), a1_6, a1_7⟩ : S33), t562, a1_9, t563, (⟨a1_11, a1_12, a1_13⟩ : S35), a1_14, a1_15⟩ : S37)] : List (S37)) : List (S37))).bind fun y565 => (if t564.length + y565.length < 1099511627776 then ((some (t564 ++ y565 : List (S37))).bind fun y566 => (some (y566, 1, 0))) else (none)))))))
def barrowref33_Add.f (k : Nat) (l0 : List (S37)) (a1_0 : Int) (a1_1 : Int) (a1_2 : Int) (a1_3 : Int) (a1_4 : Int) (a1_5 : Int) (a1_6 : Int) (a1_7 : Int) (a1_8 : Int) (a1_9 : Int) (a1_10 : Int) (a1_11 : Int) (a1_12 : Int) (a1_13 : Int) (a1_14 : Int) (a1_15 : Int) (a2 : Int) (a3 : Int) : Option ((List (S37)) × Int × Int) := (barrowref33_Right.f k l0).bind fun t548 => ((barrowref33_one.f a1_0 a1_1 a1_2 a1_3 a1_4 a1_5 a1_6 a1_7 a1_8 a1_9 a1_10 a1_11 a1_12 a1_13 a1_14 a1_15).bind fun t549 => (if t548 = true then (if a3 < 1 then (some (([] : List (S37)), 0, 1)) else (if t549 = true then (if (l0.length : Int) ≥ 32 then (barrowref33_Add.l199 k l0 a1_1 a1_2 a1_3 a1_4 a1_5 a1_6 a1_7 a1_9 a1_11 a1_12 a1_13 a1_14 a1_15 a2 a3 true) else (if (l0.length : Int) > 0 then ((some (wrap64 ((l0.length : Int) - 1) : Int)).bind fun j550 => (if 0 ≤ j550 then (if j550 < (l0.length : Int) then (barrowref33_Add.l199 k l0 a1_1 a1_2 a1_3 a1_4 a1_5 a1_6 a1_7 a1_9 a1_11 a1_12 a1_13 a1_14 a1_15 a2 a3 (((rd_T37 l0 j550).f0) == 9223372036854775807)) else (none)) else (none))) else (barrowref33_Add.l199 k l0 a1_1 a1_2 a1_3 a1_4 a1_5 a1_6 a1_7 a1_9 a1_11 a1_12 a1_13 a1_14 a1_15 a2 a3 false))) else (some (([] : List (S37)), 0, 1)))) else (some (([] : List (S37)), 0, 1))))
theorem barrowref33_Add.mono_l : ∀ k, (∀ y0 y1 y2 y3 y4 y5 y6 y7 y8 y9 y10 y11 y12 y13 y14 y15 y16, LeO (barrowref33_Add.l199 k y0 y1 y2 y3 y4 y5 y6 y7 y8 y9 y10 y11 y12 y13 y14 y15 y16) (barrowref33_Add.l199 (k + 1) y0 y1 y2 y3 y4 y5 y6 y7 y8 y9 y10 y11 y12 y13 y14 y15 y16))
 | 0 => fun _ _ _ _ _ _ _ _ _ _ _ _ _ _ _ _ _ r h => by simp [barrowref33_Add.l199] at h
 | k + 1 => by
  have ih0 := barrowref33_Add.mono_l k
  ·intro y0 y1 y2 y3 y4 y5 y6 y7 y8 y9 y10 y11 y12 y13 y14 y15 y16
   unfold barrowref33_Add.l199
   repeat' first
   | (with_reducible exact ih0 _ _ _ _ _ _ _ _ _ _ _ _ _ _ _ _ _)
   | (with_reducible exact barrowref01_Add.mono _ _ _)
   | (with_reducible exact barrowref33_Right.mono _ _)
   | (with_reducible exact LeO.refl _)
   | (with_reducible exact LeO.none _)
   | (with_reducible refine LeO.ite ?_ ?_)
   | (with_reducible refine everyOf_le (fun _ => ?_))
   | (with_reducible refine LeO.bind ?_ (fun _ => ?_))
   | exact ih0 _ _ _ _ _ _ _ _ _ _ _ _ _ _ _ _ _
   | exact barrowref01_Add.mono _ _ _
   | exact barrowref33_Right.mono _ _
   | exact LeO.none _
   | refine LeO.ite ?_ ?_
   | refine LeO.bind ?_ (fun _ => ?_)
theorem barrowref33_Add.mono : ∀ a0 a1 a2 a3 a4 a5 a6 a7 a8 a9 a10 a11 a12 a13 a14 a15 a16 a17 a18 k, LeO (barrowref33_Add.f k a0 a1 a2 a3 a4 a5 a6 a7 a8 a9 a10 a11 a12 a13 a14 a15 a16 a17 a18) (barrowref33_Add.f (k + 1) a0 a1 a2 a3 a4 a5 a6 a7 a8 a9 a10 a11 a12 a13 a14 a15 a16 a17 a18) := by
 intro a0 a1 a2 a3 a4 a5 a6 a7 a8 a9 a10 a11 a12 a13 a14 a15 a16 a17 a18 k
 have ih0 := barrowref33_Add.mono_l k
 unfold barrowref33_Add.f
 repeat' first
   | (with_reducible exact ih0 _ _ _ _ _ _ _ _ _ _ _ _ _ _ _ _ _)
   | (with_reducible exact barrowref01_Add.mono _ _ _)
   | (with_reducible exact barrowref33_Right.mono _ _)
   | (with_reducible exact LeO.refl _)
   | (with_reducible exact LeO.none _)
   | (with_reducible refine LeO.ite ?_ ?_)
   | (with_reducible refine everyOf_le (fun _ => ?_))
   | (with_reducible refine LeO.bind ?_ (fun _ => ?_))
   | exact ih0 _ _ _ _ _ _ _ _ _ _ _ _ _ _ _ _ _
   | exact barrowref01_Add.mono _ _ _
   | exact barrowref33_Right.mono _ _
   | exact LeO.none _
   | refine LeO.ite ?_ ?_
   | refine LeO.bind ?_ (fun _ => ?_)
def barrowref33_Add.T12 : Bool × List (List Nat × List Nat) := (true, [([], []), ([0], [0]), ([], []), ([2], [2]), ([1, 3, 1], [1, 3]), ([], []), ([5], [5]), ([4, 4, 0, 1, 2, 3, 4], [4]), ([6, 7, 0, 1, 2, 3, 4, 5, 6, 7], [6]), ([8, 0, 1, 2, 3, 4, 5, 6, 7, 8], [])])
def barrowref33_Add.B12 : List Nat := [0, 1, 0, 4, 15, 0, 32, 31, 255, 511]
theorem barrowref33_Add.tab12 : rtab .any (opsOf Try.f15 12) = barrowref33_Add.T12 := by kernel_rfl
theorem barrowref33_Add.bits12 : waitsOk barrowref33_Add.T12.2 barrowref33_Add.B12 = true := by kernel_rfl
def barrowref33_Add.Post (r1 : List (S37)) (r2 : Int) (r3 : Int) (S : Nat → Prop) (L : List Asr) (w : World) (e : Ending) (w' : World) : Prop := ∃ (Ar1 : Option Addr) (cr1 : Nat), e = .returned (.tuple #[.slice Ar1 r1.length cr1, .int .i64 r2, .int .i64 r3]) ∧ SL (row k37 37 (.slice Ar1 r1.length cr1) r1 :: L) w' S ∧ Keep S w w'
set_option maxHeartbeats 8000000 in
set_option maxRecDepth 100000 in
theorem barrowref33_Add.slcalls (k : Nat) (A0 : Option Addr) (c0 : Nat) (l0 : List (S37)) (a1_0 : Int) (a1_1 : Int) (a1_2 : Int) (a1_3 : Int) (a1_4 : Int) (a1_5 : Int) (a1_6 : Int) (a1_7 : Int) (a1_8 : Int) (a1_9 : Int) (a1_10 : Int) (a1_11 : Int) (a1_12 : Int) (a1_13 : Int) (a1_14 : Int) (a1_15 : Int) (a2 : Int) (a3 : Int) (r1 : List (S37)) (r2 : Int) (r3 : Int) (S : Nat → Prop) (L : List Asr) (w : World) (hf : Fresh S w) (hs : SL (L) w S) (hr0 : RO S w (fun w_ => Kd.C k37 w_ A0 l0.length l0)) (hc0 : l0.length ≤ c0) (h : barrowref33_Add.f k l0 a1_0 a1_1 a1_2 a1_3 a1_4 a1_5 a1_6 a1_7 a1_8 a1_9 a1_10 a1_11 a1_12 a1_13 a1_14 a1_15 a2 a3 = some (r1, r2, r3)) :
  Calls Try.prog 15 #[.slice A0 l0.length c0, .agg #[.int .i64 a1_0, .int .i64 a1_1, .int .i64 a1_2, .int .i64 a1_3, .int .i64 a1_4, .int .i64 a1_5, .int .i64 a1_6, .int .i64 a1_7, .int .i64 a1_8, .int .i64 a1_9, .int .i64 a1_10, .int .i64 a1_11, .int .i64 a1_12, .int .i64 a1_13, .int .i64 a1_14, .int .i64 a1_15], .int .i64 a2, .int .i64 a3] w (barrowref33_Add.Post r1 r2 r3 S L w) := by
 have HR0 := Aside0.mk hr0
 have HC0 := Aside0.mk hc0
 clear hr0 hc0
 have HF := Aside0.mk hf
 have HS := Aside0.mk hs
 have HK := Aside0.mk (Keep.refl S w)
 clear hf hs
 have hu37 := Try.underlying37
 have H : ((barrowref33_Right.f k l0).bind fun t548 => ((barrowref33_one.f a1_0 a1_1 a1_2 a1_3 a1_4 a1_5 a1_6 a1_7 a1_8 a1_9 a1_10 a1_11 a1_12 a1_13 a1_14 a1_15).bind fun t549 => (if t548 = true then (if a3 < 1 then (some (([] : List (S37)), 0, 1)) else (if t549 = true then (if (l0.length : Int) ≥ 32 then (barrowref33_Add.l199 k l0 a1_1 a1_2 a1_3 a1_4 a1_5 a1_6 a1_7 a1_9 a1_11 a1_12 a1_13 a1_14 a1_15 a2 a3 true) else (if (l0.length : Int) > 0 then ((some (wrap64 ((l0.length : Int) - 1) : Int)).bind fun j550 => (if 0 ≤ j550 then (if j550 < (l0.length : Int) then (barrowref33_Add.l199 k l0 a1_1 a1_2 a1_3 a1_4 a1_5 a1_6 a1_7 a1_9 a1_11 a1_12 a1_13 a1_14 a1_15 a2 a3 (((rd_T37 l0 j550).f0) == 9223372036854775807)) else (none)) else (none))) else (barrowref33_Add.l199 k l0 a1_1 a1_2 a1_3 a1_4 a1_5 a1_6 a1_7 a1_9 a1_11 a1_12 a1_13 a1_14 a1_15 a2 a3 false))) else (some (([] : List (S37)), 0, 1)))) else (some (([] : List (S37)), 0, 1))))) = some (r1, r2, r3) := h
 clear h
 replace H := Option.bind_eq_some_iff.1 H
 obtain ⟨t548, Hc10, H⟩ := H
 try dsimp only at H
 have Hc1 := Aside0.mk Hc10
 clear Hc10
 replace H := Option.bind_eq_some_iff.1 H
 obtain ⟨t549, Hc20, H⟩ := H
 try dsimp only at H
 have Hc2 := Aside0.mk Hc20
 clear Hc20
 have H' := Aside0.mk H
 clear H
 go_enter Try.func15, Try.ntmps15
 go_wp2_with (first | ((with_reducible refine gate_dst (N := 5) rfl ?_); refine wpList_plain rfl (fun K_ hK_ => ?_); refine op_box (S := S) (cs := #[.int .i64 a1_0, .int .i64 a1_1, .int .i64 a1_2, .int .i64 a1_3, .int .i64 a1_4, .int .i64 a1_5, .int .i64 a1_6, .int .i64 a1_7, .int .i64 a1_8, .int .i64 a1_9, .int .i64 a1_10, .int .i64 a1_11, .int .i64 a1_12, .int .i64 a1_13, .int .i64 a1_14, .int .i64 a1_15]) (t := 37) (HF.out.keep HK.out) HS.out (by first | (go_simp; done) | (go_simp; rfl)) ?_; intro g3000066 w3 hs_ hk_; refine hK_ _ _ ?_; clear hK_ K_; replace HS := Aside0.mk (hs_); replace HK := Aside0.mk (HK.out.trans hk_)) | ((with_reducible refine gate_dst (N := 14) rfl ?_); refine goesL_ (some 14) rfl rfl Try.func20 (by kernel_rfl) rfl #[.slice A0 l0.length c0] rfl (by (try simp only [List.map_toArray, List.map_cons, List.map_nil]); first | done | rfl | (simp; done)) ?_; (with_reducible refine (barrowref33_Right.calls k _ _ _ _ _ (RO.at_ HR0.out HK.out) HC0.out Hc1.out).mono ?_); rintro e_ w4 ⟨rfl, hb_⟩; refine ⟨_, rfl, ?_⟩; replace HS := Aside0.mk (HS.out.below hb_); replace HK := Aside0.mk (HK.out.trans (Keep.below hb_)); have hb_ := SL.at_ HS.out; have hz3000066_0_2 := ((blk_cell hb_ 0).trans rfl : _ = some (.int .i64 a1_0)); have hz3000066_1_2 := ((blk_cell hb_ 1).trans rfl : _ = some (.int .i64 a1_1)); have hz3000066_2_2 := ((blk_cell hb_ 2).trans rfl : _ = some (.int .i64 a1_2)); have hz3000066_3_2 := ((blk_cell hb_ 3).trans rfl : _ = some (.int .i64 a1_3)); have hz3000066_4_2 := ((blk_cell hb_ 4).trans rfl : _ = some (.int .i64 a1_4)); have hz3000066_5_2 := ((blk_cell hb_ 5).trans rfl : _ = some (.int .i64 a1_5)); have hz3000066_6_2 := ((blk_cell hb_ 6).trans rfl : _ = some (.int .i64 a1_6)); have hz3000066_7_2 := ((blk_cell hb_ 7).trans rfl : _ = some (.int .i64 a1_7)); have hz3000066_8_2 := ((blk_cell hb_ 8).trans rfl : _ = some (.int .i64 a1_8)); have hz3000066_9_2 := ((blk_cell hb_ 9).trans rfl : _ = some (.int .i64 a1_9)); have hz3000066_10_2 := ((blk_cell hb_ 10).trans rfl : _ = some (.int .i64 a1_10)); have hz3000066_11_2 := ((blk_cell hb_ 11).trans rfl : _ = some (.int .i64 a1_11)); have hz3000066_12_2 := ((blk_cell hb_ 12).trans rfl : _ = some (.int .i64 a1_12)); have hz3000066_13_2 := ((blk_cell hb_ 13).trans rfl : _ = some (.int .i64 a1_13)); have hz3000066_14_2 := ((blk_cell hb_ 14).trans rfl : _ = some (.int .i64 a1_14)); have hz3000066_15_2 := ((blk_cell hb_ 15).trans rfl : _ = some (.int .i64 a1_15)); clear hb_) | ((with_reducible refine gate_dst (N := 15) rfl ?_); refine wpList_loadA rfl 37 (.tmp 5) rfl _ rfl [.int .i64 a1_0, .int .i64 a1_1, .int .i64 a1_2, .int .i64 a1_3, .int .i64 a1_4, .int .i64 a1_5, .int .i64 a1_6, .int .i64 a1_7, .int .i64 a1_8, .int .i64 a1_9, .int .i64 a1_10, .int .i64 a1_11, .int .i64 a1_12, .int .i64 a1_13, .int .i64 a1_14, .int .i64 a1_15] _ (cells_at (SL.at_ HS.out) 0 _ rfl) Try.underlying37 rfl (by kernel_rfl) ?_) | ((with_reducible refine gate_dst (N := 16) rfl ?_); refine goesL_ (some 16) rfl rfl Try.func31 (by kernel_rfl) rfl #[.agg #[.int .i64 a1_0, .int .i64 a1_1, .int .i64 a1_2, .int .i64 a1_3, .int .i64 a1_4, .int .i64 a1_5, .int .i64 a1_6, .int .i64 a1_7, .int .i64 a1_8, .int .i64 a1_9, .int .i64 a1_10, .int .i64 a1_11, .int .i64 a1_12, .int .i64 a1_13, .int .i64 a1_14, .int .i64 a1_15]] rfl (by (try simp only [List.map_toArray, List.map_cons, List.map_nil]); first | done | rfl | (simp; done)) ?_; (with_reducible refine (barrowref33_one.calls _ _ _ _ _ _ _ _ _ _ _ _ _ _ _ _ _ _  Hc2.out).mono ?_); rintro e_ w5 ⟨rfl, hb_⟩; refine ⟨_, rfl, ?_⟩; replace HS := Aside0.mk (HS.out.below hb_); replace HK := Aside0.mk (HK.out.trans (Keep.below hb_)); (try clear hz3000066_0_2 hz3000066_1_2 hz3000066_2_2 hz3000066_3_2 hz3000066_4_2 hz3000066_5_2 hz3000066_6_2 hz3000066_7_2 hz3000066_8_2 hz3000066_9_2 hz3000066_10_2 hz3000066_11_2 hz3000066_12_2 hz3000066_13_2 hz3000066_14_2 hz3000066_15_2); refine stop_ ?_; intro G_ hG_))
 have H := H'.out
 clear H'
 by_cases c6 : t548 = true
 ·subst c6
  rw [if_pos rfl] at H
  by_cases c7 : a3 < 1
  ·rw [if_pos c7] at H
   have c7b0 : decide (a3 < 1) = true := decide_eq_true c7
   clear c7
   simp only [Option.some.injEq, Prod.mk.injEq] at H
   obtain ⟨rfl, rfl, rfl⟩ := H
   have n2_ := Aside0.mk (SL.nil_row k37 37 HS.out)
   clear HS
   have HS := n2_
   clear n2_
   refine hG_.out ?_
   try simp only [c7b0]
   go_wp2
   go_ret3
   replace HS := Aside0.mk (SL.tail (SL.get1 HS.out))
   unfold barrowref33_Add.Post
   exact ⟨none, 0, by first | rfl | (simp; done) | (simp [*]; done) | (simp at c7b0 ⊢; first | exact c7b0 | (simp [c7b0]; done)), HS.out, HK.out⟩
  ·rw [if_neg c7] at H
   have c7b0 : decide (a3 < 1) = false := decide_eq_false c7
   clear c7
   by_cases c8 : t549 = true
   ·subst c8
    rw [if_pos rfl] at H
    have H' := Aside0.mk H
    clear H
    refine hG_.out ?_
    try simp only [c7b0]
    try go_upto_region 5 with (fail)
    (try simp only [Act.put, sT, sZ, sS])
    go_cut [44] (fun v44 wc => ∃ (kq : Nat) (x44_199 : Bool), v44 = .bool x44_199 ∧ Aside0 (barrowref33_Add.l199 kq l0 a1_1 a1_2 a1_3 a1_4 a1_5 a1_6 a1_7 a1_9 a1_11 a1_12 a1_13 a1_14 a1_15 a2 a3 x44_199 = some (r1, r2, r3)) ∧ Aside0 (kq ≤ k) ∧ Aside0 (SL (cells g3000066 37 [.int .i64 a1_0, .int .i64 a1_1, .int .i64 a1_2, .int .i64 a1_3, .int .i64 a1_4, .int .i64 a1_5, .int .i64 a1_6, .int .i64 a1_7, .int .i64 a1_8, .int .i64 a1_9, .int .i64 a1_10, .int .i64 a1_11, .int .i64 a1_12, .int .i64 a1_13, .int .i64 a1_14, .int .i64 a1_15].toArray :: L) wc S) ∧ Aside0 (Keep S w wc))
    case first =>
     have H := H'.out
     clear H'
     by_cases c9 : (l0.length : Int) ≥ 32
     ·rw [if_pos c9] at H
      have c9b0 : decide (32 ≤ (l0.length : Int)) = true := decide_eq_true c9
      have c9b1 : decide (32 ≤ l0.length) = true := decide_eq_true (by omega)
      clear c9
      have H' := Aside0.mk H
      clear H
      go_wp2
      go_meet
      case rel => exact ⟨k, (true), (by first | rfl | (simp; done) | (simp [*]; done)), H', ⟨by omega⟩, HS, HK⟩
     ·rw [if_neg c9] at H
      have c9b0 : decide (32 ≤ (l0.length : Int)) = false := decide_eq_false c9
      have c9b1 : decide (32 ≤ l0.length) = false := decide_eq_false (by omega)
      clear c9
      by_cases c10 : (l0.length : Int) > 0
      ·rw [if_pos c10] at H
       have c10b0 : decide (0 < (l0.length : Int)) = true := decide_eq_true c10
       have c10b1 : decide (0 < l0.length) = true := decide_eq_true (by omega)
       clear c10
       replace H := Option.bind_eq_some_iff.1 H
       obtain ⟨j550, hj5500, H⟩ := H
       try dsimp only at H
       have hj550 := Option.some.inj hj5500
       clear hj5500
       have hj550w : (IntKind.i64.wrap ((l0.length : Int) - 1)) = j550 := (i64_w _).trans hj550
       by_cases c11 : 0 ≤ j550
       ·rw [if_pos c11] at H
        have c11b0 : decide (0 ≤ j550) = true := decide_eq_true c11
        clear c11
        by_cases c12 : j550 < (l0.length : Int)
        ·rw [if_pos c12] at H
         have c12b0 : decide (j550 < (l0.length : Int)) = true := decide_eq_true c12
         clear c12
         have H' := Aside0.mk H
         clear H
         have pq551 : 0 ≤ (j550 : Int) := of_decide_eq_true (by first | (with_reducible assumption) | assumption)
         have qq551 : j550 < ((l0.length : Int) : Int) := of_decide_eq_true (by first | (with_reducible assumption) | assumption)
         obtain ⟨adq551, eq551, hxq551_0, hxq551_1, hxq551_2, hxq551_3, hxq551_4, hxq551_5, hxq551_6, hxq551_7, hxq551_8, hxq551_9, hxq551_10, hxq551_11, hxq551_12, hxq551_13, hxq551_14, hxq551_15⟩ := at_T37 (RO.at_ HR0.out HK.out) j550 pq551 qq551
         cases eq551
         replace pq551 := eq_true pq551
         replace qq551 := eq_true qq551
         go_wp2
         go_meet
         case rel => exact ⟨k, ((((rd_T37 l0 j550).f0) == 9223372036854775807)), (by first | rfl | (simp; done) | (simp [*]; done)), H', ⟨by omega⟩, HS, HK⟩
        ·rw [if_neg c12] at H
         exact absurd H (by simp)
       ·rw [if_neg c11] at H
        exact absurd H (by simp)
      ·rw [if_neg c10] at H
       have c10b0 : decide (0 < (l0.length : Int)) = false := decide_eq_false c10
       have c10b1 : decide (0 < l0.length) = false := decide_eq_false (by omega)
       clear c10
       have H' := Aside0.mk H
       clear H
       go_wp2
       go_meet
       case rel => exact ⟨k, (false), (by first | rfl | (simp; done) | (simp [*]; done)), H', ⟨by omega⟩, HS, HK⟩
    case rest =>
     clear H' HS HK
     obtain ⟨kq, x44_199, rfl, HA, HQ1, HS, HK⟩ := hcut
     cases kq with
     | zero => exact absurd HA.out (by simp [barrowref33_Add.l199])
     | succ k1 =>
      have H := HA.out
      clear HA
      simp only [barrowref33_Add.l199] at H
      by_cases c13 : x44_199 = true
      ·subst c13
       rw [if_pos rfl] at H
       simp only [Option.some.injEq, Prod.mk.injEq] at H
       obtain ⟨rfl, rfl, rfl⟩ := H
       have n2_ := Aside0.mk (SL.nil_row k37 37 HS.out)
       clear HS
       have HS := n2_
       clear n2_
       go_wp2
       go_ret3
       replace HS := Aside0.mk (SL.tail (SL.get1 HS.out))
       unfold barrowref33_Add.Post
       exact ⟨none, 0, by first | rfl | (simp; done) | (simp [*]; done) | (simp at c7b0 ⊢; first | exact c7b0 | (simp [c7b0]; done)), HS.out, HK.out⟩
      ·replace c13 := Bool.eq_false_iff.mpr c13
       subst c13
       rw [if_neg (show ¬ (false = true) by decide)] at H
       by_cases c14 : (l0.length : Int) > 0
       ·rw [if_pos c14] at H
        have c14b0 : decide (0 < (l0.length : Int)) = true := decide_eq_true c14
        have c14b1 : decide (0 < l0.length) = true := decide_eq_true (by omega)
        clear c14
        replace H := Option.bind_eq_some_iff.1 H
        obtain ⟨j552, hj5520, H⟩ := H
        try dsimp only at H
        have hj552 := Option.some.inj hj5520
        clear hj5520
        have hj552w : (IntKind.i64.wrap ((l0.length : Int) - 1)) = j552 := (i64_w _).trans hj552
        by_cases c15 : 0 ≤ j552
        ·rw [if_pos c15] at H
         have c15b0 : decide (0 ≤ j552) = true := decide_eq_true c15
         clear c15
         by_cases c16 : j552 < (l0.length : Int)
         ·rw [if_pos c16] at H
          have c16b0 : decide (j552 < (l0.length : Int)) = true := decide_eq_true c16
          clear c16
          replace H := Option.bind_eq_some_iff.1 H
          obtain ⟨t554, Hc170, H⟩ := H
          try dsimp only at H
          have Hc17 := Aside0.mk Hc170
          clear Hc170
          replace H := Option.bind_eq_some_iff.1 H
          obtain ⟨t555, Hc180, H⟩ := H
          try dsimp only at H
          have Hc18 := Aside0.mk Hc180
          clear Hc180
          replace H := Option.bind_eq_some_iff.1 H
          obtain ⟨t556, Hc190, H⟩ := H
          try dsimp only at H
          have Hc19 := Aside0.mk Hc190
          clear Hc190
          replace H := Option.bind_eq_some_iff.1 H
          obtain ⟨t557, Hc200, H⟩ := H
          try dsimp only at H
          have Hc20 := Aside0.mk Hc200
          clear Hc200
          replace H := Option.bind_eq_some_iff.1 H
          obtain ⟨y558, hy5580, H⟩ := H
          try dsimp only at H
          have hy558 := Option.some.inj hy5580
          clear hy5580
          have Ny558 := Aside0.mk hy558
          clear hy558
          by_cases c21 : t557.length + y558.length < 1099511627776
          ·rw [if_pos c21] at H
           have LMc21 := Aside0.mk c21
           clear c21
           replace H := Option.bind_eq_some_iff.1 H
           obtain ⟨y559, hy5590, H⟩ := H
           try dsimp only at H
           have hy559 := Option.some.inj hy5590
           clear hy5590
           have Ny559 := Aside0.mk hy559
           clear hy559
           simp only [Option.some.injEq, Prod.mk.injEq] at H
           obtain ⟨rfl, rfl, rfl⟩ := H
           try go_wp2_with (first | ((with_reducible refine gate_store (t := 3) (p := 45) (v := (.const (.int .i64 1))) rfl ?_); refine wpList_plain rfl (fun K_ hK_ => ?_); refine op_store (S := S) 3 (.tmp 45) (.const (.int .i64 1)) rfl g3000066 0 (.int .i64 1) [.int .i64 1] rfl rfl rfl (by kernel_rfl) (by simp [Value.oneCell']) HS.out (by simp) ?_; intro w22 hs_ hk_; refine hK_ _ _ ?_; clear hK_ K_; replace HS := Aside0.mk ((show SL (cells g3000066 37 [.int .i64 1, .int .i64 a1_1, .int .i64 a1_2, .int .i64 a1_3, .int .i64 a1_4, .int .i64 a1_5, .int .i64 a1_6, .int .i64 a1_7, .int .i64 a1_8, .int .i64 a1_9, .int .i64 a1_10, .int .i64 a1_11, .int .i64 a1_12, .int .i64 a1_13, .int .i64 a1_14, .int .i64 a1_15].toArray :: _) _ _ from hs_)); replace HK := Aside0.mk (HK.out.trans hk_); have pq553 : 0 ≤ (j552 : Int) := of_decide_eq_true (by first | (with_reducible assumption) | assumption); have qq553 : j552 < ((l0.length : Int) : Int) := of_decide_eq_true (by first | (with_reducible assumption) | assumption); obtain ⟨adq553, eq553, hxq553_0, hxq553_1, hxq553_2, hxq553_3, hxq553_4, hxq553_5, hxq553_6, hxq553_7, hxq553_8, hxq553_9, hxq553_10, hxq553_11, hxq553_12, hxq553_13, hxq553_14, hxq553_15⟩ := at_T37 (RO.at_ HR0.out HK.out) j552 pq553 qq553; cases eq553; replace pq553 := eq_true pq553; replace qq553 := eq_true qq553) | ((with_reducible refine gate_dst (N := 56) rfl ?_); refine goesL_ (some 56) rfl rfl Try.func28 (by kernel_rfl) rfl #[.int .i64 ((rd_T37 l0 j552).f0), .int .i64 1] rfl (by (try simp only [List.map_toArray, List.map_cons, List.map_nil]); first | done | rfl | (simp; done)) ?_; (with_reducible refine (barrowref01_Add.calls k1 _ _ _ _  Hc17.out).mono ?_); rintro e_ w23 ⟨rfl, hb_⟩; refine ⟨_, rfl, ?_⟩; replace hb_ := Drawn0.below hb_; replace HS := Aside0.mk (HS.out.below hb_); replace HK := Aside0.mk (HK.out.trans (Keep.below hb_))) | ((with_reducible refine gate_store (t := 3) (p := 57) (v := (.tmp 56)) rfl ?_); refine wpList_plain rfl (fun K_ hK_ => ?_); refine op_store (S := S) 3 (.tmp 57) (.tmp 56) rfl g3000066 0 (.int .i64 t554) [.int .i64 t554] rfl rfl rfl (by kernel_rfl) (by simp [Value.oneCell']) HS.out (by simp) ?_; intro w24 hs_ hk_; refine hK_ _ _ ?_; clear hK_ K_; replace HS := Aside0.mk ((show SL (cells g3000066 37 [.int .i64 t554, .int .i64 a1_1, .int .i64 a1_2, .int .i64 a1_3, .int .i64 a1_4, .int .i64 a1_5, .int .i64 a1_6, .int .i64 a1_7, .int .i64 a1_8, .int .i64 a1_9, .int .i64 a1_10, .int .i64 a1_11, .int .i64 a1_12, .int .i64 a1_13, .int .i64 a1_14, .int .i64 a1_15].toArray :: _) _ _ from hs_)); replace HK := Aside0.mk (HK.out.trans hk_)) | ((with_reducible refine gate_dst (N := 60) rfl ?_); refine goesL_ (some 60) rfl rfl Try.func28 (by kernel_rfl) rfl #[.int .i64 a2, .int .i64 a3] rfl (by (try simp only [List.map_toArray, List.map_cons, List.map_nil]); first | done | rfl | (simp; done)) ?_; (with_reducible refine (barrowref01_Add.calls k1 _ _ _ _  Hc18.out).mono ?_); rintro e_ w25 ⟨rfl, hb_⟩; refine ⟨_, rfl, ?_⟩; replace hb_ := Drawn0.below hb_; replace HS := Aside0.mk (HS.out.below hb_); replace HK := Aside0.mk (HK.out.trans (Keep.below hb_))) | ((with_reducible refine gate_store (t := 3) (p := 61) (v := (.tmp 60)) rfl ?_); refine wpList_plain rfl (fun K_ hK_ => ?_); refine op_store (S := S) 3 (.tmp 61) (.tmp 60) rfl g3000066 8 (.int .i64 t555) [.int .i64 t555] rfl rfl rfl (by kernel_rfl) (by simp [Value.oneCell']) HS.out (by simp) ?_; intro w26 hs_ hk_; refine hK_ _ _ ?_; clear hK_ K_; replace HS := Aside0.mk ((show SL (cells g3000066 37 [.int .i64 t554, .int .i64 a1_1, .int .i64 a1_2, .int .i64 a1_3, .int .i64 a1_4, .int .i64 a1_5, .int .i64 a1_6, .int .i64 a1_7, .int .i64 t555, .int .i64 a1_9, .int .i64 a1_10, .int .i64 a1_11, .int .i64 a1_12, .int .i64 a1_13, .int .i64 a1_14, .int .i64 a1_15].toArray :: _) _ _ from hs_)); replace HK := Aside0.mk (HK.out.trans hk_); have hb_ := SL.at_ HS.out; have hz3000066_0_5 := ((blk_cell hb_ 0).trans rfl : _ = some (.int .i64 t554)); have hz3000066_1_5 := ((blk_cell hb_ 1).trans rfl : _ = some (.int .i64 a1_1)); have hz3000066_2_5 := ((blk_cell hb_ 2).trans rfl : _ = some (.int .i64 a1_2)); have hz3000066_3_5 := ((blk_cell hb_ 3).trans rfl : _ = some (.int .i64 a1_3)); have hz3000066_4_5 := ((blk_cell hb_ 4).trans rfl : _ = some (.int .i64 a1_4)); have hz3000066_5_5 := ((blk_cell hb_ 5).trans rfl : _ = some (.int .i64 a1_5)); have hz3000066_6_5 := ((blk_cell hb_ 6).trans rfl : _ = some (.int .i64 a1_6)); have hz3000066_7_5 := ((blk_cell hb_ 7).trans rfl : _ = some (.int .i64 a1_7)); have hz3000066_8_5 := ((blk_cell hb_ 8).trans rfl : _ = some (.int .i64 t555)); have hz3000066_9_5 := ((blk_cell hb_ 9).trans rfl : _ = some (.int .i64 a1_9)); have hz3000066_10_5 := ((blk_cell hb_ 10).trans rfl : _ = some (.int .i64 a1_10)); have hz3000066_11_5 := ((blk_cell hb_ 11).trans rfl : _ = some (.int .i64 a1_11)); have hz3000066_12_5 := ((blk_cell hb_ 12).trans rfl : _ = some (.int .i64 a1_12)); have hz3000066_13_5 := ((blk_cell hb_ 13).trans rfl : _ = some (.int .i64 a1_13)); have hz3000066_14_5 := ((blk_cell hb_ 14).trans rfl : _ = some (.int .i64 a1_14)); have hz3000066_15_5 := ((blk_cell hb_ 15).trans rfl : _ = some (.int .i64 a1_15)); clear hb_) | ((with_reducible refine gate_dst (N := 65) rfl ?_); refine goesL_ (some 65) rfl rfl Try.func28 (by kernel_rfl) rfl #[.int .i64 a2, .int .i64 a1_9] rfl (by (try simp only [List.map_toArray, List.map_cons, List.map_nil]); first | done | rfl | (simp; done)) ?_; (with_reducible refine (barrowref01_Add.calls k1 _ _ _ _  Hc19.out).mono ?_); rintro e_ w27 ⟨rfl, hb_⟩; refine ⟨_, rfl, ?_⟩; replace hb_ := Drawn0.below hb_; replace HS := Aside0.mk (HS.out.below hb_); replace HK := Aside0.mk (HK.out.trans (Keep.below hb_)); (try clear hz3000066_0_5 hz3000066_1_5 hz3000066_2_5 hz3000066_3_5 hz3000066_4_5 hz3000066_5_5 hz3000066_6_5 hz3000066_7_5 hz3000066_8_5 hz3000066_9_5 hz3000066_10_5 hz3000066_11_5 hz3000066_12_5 hz3000066_13_5 hz3000066_14_5 hz3000066_15_5)) | ((with_reducible refine gate_store (t := 3) (p := 66) (v := (.tmp 65)) rfl ?_); refine wpList_plain rfl (fun K_ hK_ => ?_); refine op_store (S := S) 3 (.tmp 66) (.tmp 65) rfl g3000066 10 (.int .i64 t556) [.int .i64 t556] rfl rfl rfl (by kernel_rfl) (by simp [Value.oneCell']) HS.out (by simp) ?_; intro w28 hs_ hk_; refine hK_ _ _ ?_; clear hK_ K_; replace HS := Aside0.mk ((show SL (cells g3000066 37 [.int .i64 t554, .int .i64 a1_1, .int .i64 a1_2, .int .i64 a1_3, .int .i64 a1_4, .int .i64 a1_5, .int .i64 a1_6, .int .i64 a1_7, .int .i64 t555, .int .i64 a1_9, .int .i64 t556, .int .i64 a1_11, .int .i64 a1_12, .int .i64 a1_13, .int .i64 a1_14, .int .i64 a1_15].toArray :: _) _ _ from hs_)); replace HK := Aside0.mk (HK.out.trans hk_)))
           refine start_ (n := 10) (S := fun w' => w'.cell? ⟨g3000066, 0, none⟩ = some (.int .i64 t554) ∧ w'.cell? ⟨g3000066, 1, none⟩ = some (.int .i64 a1_1) ∧ w'.cell? ⟨g3000066, 2, none⟩ = some (.int .i64 a1_2) ∧ w'.cell? ⟨g3000066, 3, none⟩ = some (.int .i64 a1_3) ∧ w'.cell? ⟨g3000066, 4, none⟩ = some (.int .i64 a1_4) ∧ w'.cell? ⟨g3000066, 5, none⟩ = some (.int .i64 a1_5) ∧ w'.cell? ⟨g3000066, 6, none⟩ = some (.int .i64 a1_6) ∧ w'.cell? ⟨g3000066, 7, none⟩ = some (.int .i64 a1_7) ∧ w'.cell? ⟨g3000066, 8, none⟩ = some (.int .i64 t555) ∧ w'.cell? ⟨g3000066, 9, none⟩ = some (.int .i64 a1_9) ∧ w'.cell? ⟨g3000066, 10, none⟩ = some (.int .i64 t556) ∧ w'.cell? ⟨g3000066, 11, none⟩ = some (.int .i64 a1_11) ∧ w'.cell? ⟨g3000066, 12, none⟩ = some (.int .i64 a1_12) ∧ w'.cell? ⟨g3000066, 13, none⟩ = some (.int .i64 a1_13) ∧ w'.cell? ⟨g3000066, 14, none⟩ = some (.int .i64 a1_14) ∧ w'.cell? ⟨g3000066, 15, none⟩ = some (.int .i64 a1_15)) (ds := []) #[O,O,O,O,O,O,O,O,O,O] (by kernel_rfl) rfl rfl ⟨bc HS.out 0 rfl, bc HS.out 1 rfl, bc HS.out 2 rfl, bc HS.out 3 rfl, bc HS.out 4 rfl, bc HS.out 5 rfl, bc HS.out 6 rfl, bc HS.out 7 rfl, bc HS.out 8 rfl, bc HS.out 9 rfl, bc HS.out 10 rfl, bc HS.out 11 rfl, bc HS.out 12 rfl, bc HS.out 13 rfl, bc HS.out 14 rfl, bc HS.out 15 rfl⟩ (fun hHeld => ?_); refine with_tabW barrowref33_Add.tab12 barrowref33_Add.bits12 (fun HT_ HW_ => ?_)
           replace HK := Aside0.mk (Keep.drew HK.out)
           replace HS := Aside0.mk (SL.drew HS.out)
           refine pure_ (i := 0) (N := some 67) (v := ?_) (a' := ?_) #[I,O,O,O,O,O,O,O,O,O] rfl rfl (any_of HT_.out (by kernel_rfl)) (fun _ _ _ h => h) (Or.inl ⟨by rfl, ?_⟩) ?_ ?_; rotate_left; · (intro w'; go_simp; with_reducible rfl)
           rotate_left; · (simp only [Act.put, sT, sZ, sS, i64_w, i32_w]; rfl)
           refine pure_ (i := 5) (N := some 72) (v := ?_) (a' := ?_) #[I,O,O,O,O,I,O,O,O,O] rfl rfl (any_of HT_.out (by kernel_rfl)) (fun _ _ _ h => h) (Or.inl ⟨by rfl, ?_⟩) ?_ ?_; rotate_left; · (intro w'; go_simp; with_reducible rfl)
           rotate_left; · (simp only [Act.put, sT, sZ, sS, i64_w, i32_w]; rfl)
           refine take_ (i := 2) (N := some 69) (v := ?_) (a' := ?_) #[I,O,I,O,O,I,O,O,O,O] rfl rfl (take_ofW HT_.out HW_.out (by kernel_rfl)) (fun _ _ _ h => h) (Or.inl ⟨by rfl, ?_⟩) hHeld ?_ ?_; rotate_left
           ·rintro w' ⟨s0, s1, s2, s3, s4, s5, s6, s7, s8, s9, s10, s11, s12, s13, s14, s15⟩
            go_simp
            with_reducible rfl
           rotate_left; · (simp only [Act.put, sT, sZ, sS, i64_w, i32_w]; rfl)
           refine take_ (i := 6) (N := some 73) (v := ?_) (a' := ?_) #[I,O,I,O,O,I,I,O,O,O] rfl rfl (take_ofW HT_.out HW_.out (by kernel_rfl)) (fun _ _ _ h => h) (Or.inl ⟨by rfl, ?_⟩) hHeld ?_ ?_; rotate_left
           ·rintro w' ⟨s0, s1, s2, s3, s4, s5, s6, s7, s8, s9, s10, s11, s12, s13, s14, s15⟩
            go_simp
            with_reducible rfl
           rotate_left; · (simp only [Act.put, sT, sZ, sS, i64_w, i32_w]; rfl)
           refine join_ (σ := Option Addr × Nat × Option Addr × Nat) 4 #[I,I,I,I,O,I,I,O,O,O] (fun s_ => [(68, .slice s_.1 t557.length s_.2.1), (70, .slice s_.2.2.1 1 s_.2.2.2)]) (fun s_ w_ => Keep S w w_ ∧ SL (row k37 37 (.slice s_.1 t557.length s_.2.1) t557 :: row k37 37 (.slice s_.2.2.1 1 s_.2.2.2) y558 :: cells g3000066 37 [.int .i64 t554, .int .i64 a1_1, .int .i64 a1_2, .int .i64 a1_3, .int .i64 a1_4, .int .i64 a1_5, .int .i64 a1_6, .int .i64 a1_7, .int .i64 t555, .int .i64 a1_9, .int .i64 t556, .int .i64 a1_11, .int .i64 a1_12, .int .i64 a1_13, .int .i64 a1_14, .int .i64 a1_15].toArray :: L) w_ S) ?_ ?_; rotate_left
           ·intro hCont
            refine two_ (i := 1) (j := 3) (Ni := some 68) (Nj := some 70) #[I,I,I,O,O,I,I,O,O,O] #[I,O,I,I,O,I,I,O,O,O] rfl rfl rfl rfl (two_of HT_.out (by kernel_rfl)) (by decide) (by decide) (fun K hK => ?_) (fun K hK => ?_)
            ·skip
             refine goes_ Try.func32 (by kernel_rfl) rfl #[.slice (some adq553) l0.length c0] (by rfl) rfl rfl (by (try simp only [List.map_toArray, List.map_cons, List.map_nil]); first | done | rfl | (simp; done)) ?_
             have hs0_ := HS.out
             (with_reducible refine (barrowref33_Copy.slcalls _ _ _ _ _ _ _ (HF.out.keep HK.out) hs0_ (HR0.out.keep HK.out) HC0.out Hc20.out).mono ?_)
             rintro e_ w33 ⟨Az3000067, cz3000067, rfl, hsr_, hkr_⟩
             refine ⟨_, rfl, ?_⟩
             replace HS := Aside0.mk (hsr_)
             replace HK := Aside0.mk (HK.out.trans hkr_)
             refine hK.out _ _ ⟨bc (SL.get1 HS.out) 0 rfl, bc (SL.get1 HS.out) 1 rfl, bc (SL.get1 HS.out) 2 rfl, bc (SL.get1 HS.out) 3 rfl, bc (SL.get1 HS.out) 4 rfl, bc (SL.get1 HS.out) 5 rfl, bc (SL.get1 HS.out) 6 rfl, bc (SL.get1 HS.out) 7 rfl, bc (SL.get1 HS.out) 8 rfl, bc (SL.get1 HS.out) 9 rfl, bc (SL.get1 HS.out) 10 rfl, bc (SL.get1 HS.out) 11 rfl, bc (SL.get1 HS.out) 12 rfl, bc (SL.get1 HS.out) 13 rfl, bc (SL.get1 HS.out) 14 rfl, bc (SL.get1 HS.out) 15 rfl⟩ (fun hHeld => ?_)
             clear hK K
             refine norm_ (a' := ?_) ?_ ?_; rotate_left
             ·show Act.put _ (some 68) _ = _
              simp only [Act.put, sT, sZ, sS, i64_w, i32_w]
              rfl
             refine one_ (i := 3) (N := some 70) #[I,I,I,I,O,I,I,O,O,O] rfl rfl (one_of HT_.out (by kernel_rfl)) (by decide) (fun K hK => ?_)
             replace HS := Aside0.mk (SL.get1 HS.out)
             refine st_of (by rfl) ?_
             refine op_rowF (S := S) (d := k37) ⟨fun h_ => h_⟩ 37 y558 #[.int .i64 t554, .int .i64 a1_1, .int .i64 a1_2, .int .i64 a1_3, .int .i64 a1_4, .int .i64 a1_5, .int .i64 a1_6, .int .i64 a1_7, .int .i64 t555, .int .i64 a1_9, .int .i64 t556, .int .i64 a1_11, .int .i64 a1_12, .int .i64 a1_13, .int .i64 a1_14, .int .i64 a1_15] 1 (by rw [← Ny558.out]; exact reps_cons (k37_mkM _ 0 _ (⟨t554, (⟨a1_1, (⟨a1_2, a1_3⟩ : S31), (⟨a1_4, a1_5⟩ : S31), a1_6, a1_7⟩ : S33), t555, a1_9, t556, (⟨a1_11, a1_12, a1_13⟩ : S35), a1_14, a1_15⟩ : S37)) rfl (Reps.none _ _)) (by rw [← Ny558.out]; rfl) (by decide) (HF.out.keep HK.out) HS.out (by first | (go_simp; done) | (go_simp; rfl)) ?_
             intro Az3000068 cz3000068 w34 hs_ hk_
             replace HS := Aside0.mk ((show SL (row k37 37 (.slice Az3000068 1 cz3000068) y558 :: _) _ _ from hs_))
             replace HK := Aside0.mk (HK.out.trans hk_)
             refine hK.out _ _ ⟨bc (SL.get1 HS.out) 0 rfl, bc (SL.get1 HS.out) 1 rfl, bc (SL.get1 HS.out) 2 rfl, bc (SL.get1 HS.out) 3 rfl, bc (SL.get1 HS.out) 4 rfl, bc (SL.get1 HS.out) 5 rfl, bc (SL.get1 HS.out) 6 rfl, bc (SL.get1 HS.out) 7 rfl, bc (SL.get1 HS.out) 8 rfl, bc (SL.get1 HS.out) 9 rfl, bc (SL.get1 HS.out) 10 rfl, bc (SL.get1 HS.out) 11 rfl, bc (SL.get1 HS.out) 12 rfl, bc (SL.get1 HS.out) 13 rfl, bc (SL.get1 HS.out) 14 rfl, bc (SL.get1 HS.out) 15 rfl⟩ (fun hHeld => ?_)
             clear hK K
             refine norm_ (a' := ?_) ?_ ?_; rotate_left
             ·show Act.put _ (some 70) _ = _
              simp only [Act.put, sT, sZ, sS, i64_w, i32_w]
              rfl
             exact norm_ (by simp only [putAll, Act.put, sT, sZ, sS]) (hCont (Az3000067, cz3000067, Az3000068, cz3000068) _ ⟨HK.out, (SL.get2 (SL.get1 (SL.get1 HS.out)))⟩)
            ·skip
             refine st_of (by rfl) ?_
             refine op_rowF (S := S) (d := k37) ⟨fun h_ => h_⟩ 37 y558 #[.int .i64 t554, .int .i64 a1_1, .int .i64 a1_2, .int .i64 a1_3, .int .i64 a1_4, .int .i64 a1_5, .int .i64 a1_6, .int .i64 a1_7, .int .i64 t555, .int .i64 a1_9, .int .i64 t556, .int .i64 a1_11, .int .i64 a1_12, .int .i64 a1_13, .int .i64 a1_14, .int .i64 a1_15] 1 (by rw [← Ny558.out]; exact reps_cons (k37_mkM _ 0 _ (⟨t554, (⟨a1_1, (⟨a1_2, a1_3⟩ : S31), (⟨a1_4, a1_5⟩ : S31), a1_6, a1_7⟩ : S33), t555, a1_9, t556, (⟨a1_11, a1_12, a1_13⟩ : S35), a1_14, a1_15⟩ : S37)) rfl (Reps.none _ _)) (by rw [← Ny558.out]; rfl) (by decide) (HF.out.keep HK.out) HS.out (by first | (go_simp; done) | (go_simp; rfl)) ?_
             intro Az3000068 cz3000068 w35 hs_ hk_
             replace HS := Aside0.mk ((show SL (row k37 37 (.slice Az3000068 1 cz3000068) y558 :: _) _ _ from hs_))
             replace HK := Aside0.mk (HK.out.trans hk_)
             refine hK.out _ _ ⟨bc (SL.get1 HS.out) 0 rfl, bc (SL.get1 HS.out) 1 rfl, bc (SL.get1 HS.out) 2 rfl, bc (SL.get1 HS.out) 3 rfl, bc (SL.get1 HS.out) 4 rfl, bc (SL.get1 HS.out) 5 rfl, bc (SL.get1 HS.out) 6 rfl, bc (SL.get1 HS.out) 7 rfl, bc (SL.get1 HS.out) 8 rfl, bc (SL.get1 HS.out) 9 rfl, bc (SL.get1 HS.out) 10 rfl, bc (SL.get1 HS.out) 11 rfl, bc (SL.get1 HS.out) 12 rfl, bc (SL.get1 HS.out) 13 rfl, bc (SL.get1 HS.out) 14 rfl, bc (SL.get1 HS.out) 15 rfl⟩ (fun hHeld => ?_)
             clear hK K
             refine norm_ (a' := ?_) ?_ ?_; rotate_left
             ·show Act.put _ (some 70) _ = _
              simp only [Act.put, sT, sZ, sS, i64_w, i32_w]
              rfl
             refine one_ (i := 1) (N := some 68) #[I,I,I,I,O,I,I,O,O,O] rfl rfl (one_of HT_.out (by kernel_rfl)) (by decide) (fun K hK => ?_)
             replace HS := Aside0.mk (SL.get1 HS.out)
             refine goes_ Try.func32 (by kernel_rfl) rfl #[.slice (some adq553) l0.length c0] (by rfl) rfl rfl (by (try simp only [List.map_toArray, List.map_cons, List.map_nil]); first | done | rfl | (simp; done)) ?_
             have hs0_ := HS.out
             (with_reducible refine (barrowref33_Copy.slcalls _ _ _ _ _ _ _ (HF.out.keep HK.out) hs0_ (HR0.out.keep HK.out) HC0.out Hc20.out).mono ?_)
             rintro e_ w36 ⟨Az3000067, cz3000067, rfl, hsr_, hkr_⟩
             refine ⟨_, rfl, ?_⟩
             replace HS := Aside0.mk (hsr_)
             replace HK := Aside0.mk (HK.out.trans hkr_)
             refine hK.out _ _ ⟨bc (SL.get1 HS.out) 0 rfl, bc (SL.get1 HS.out) 1 rfl, bc (SL.get1 HS.out) 2 rfl, bc (SL.get1 HS.out) 3 rfl, bc (SL.get1 HS.out) 4 rfl, bc (SL.get1 HS.out) 5 rfl, bc (SL.get1 HS.out) 6 rfl, bc (SL.get1 HS.out) 7 rfl, bc (SL.get1 HS.out) 8 rfl, bc (SL.get1 HS.out) 9 rfl, bc (SL.get1 HS.out) 10 rfl, bc (SL.get1 HS.out) 11 rfl, bc (SL.get1 HS.out) 12 rfl, bc (SL.get1 HS.out) 13 rfl, bc (SL.get1 HS.out) 14 rfl, bc (SL.get1 HS.out) 15 rfl⟩ (fun hHeld => ?_)
             clear hK K
             refine norm_ (a' := ?_) ?_ ?_; rotate_left
             ·show Act.put _ (some 68) _ = _
              simp only [Act.put, sT, sZ, sS, i64_w, i32_w]
              rfl
             exact norm_ (by simp only [putAll, Act.put, sT, sZ, sS]) (hCont (Az3000067, cz3000067, Az3000068, cz3000068) _ ⟨HK.out, (SL.get2 (SL.get2 (SL.get1 HS.out)))⟩)
           rintro ⟨Az3000067, cz3000067, Az3000068, cz3000068⟩ w32 ⟨hk_, hs_⟩
           clear HK HS
           have HK := Aside0.mk hk_
           have HS := Aside0.mk hs_
           clear hk_ hs_
           have hHeld := (⟨bc (SL.get2 HS.out) 0 rfl, bc (SL.get2 HS.out) 1 rfl, bc (SL.get2 HS.out) 2 rfl, bc (SL.get2 HS.out) 3 rfl, bc (SL.get2 HS.out) 4 rfl, bc (SL.get2 HS.out) 5 rfl, bc (SL.get2 HS.out) 6 rfl, bc (SL.get2 HS.out) 7 rfl, bc (SL.get2 HS.out) 8 rfl, bc (SL.get2 HS.out) 9 rfl, bc (SL.get2 HS.out) 10 rfl, bc (SL.get2 HS.out) 11 rfl, bc (SL.get2 HS.out) 12 rfl, bc (SL.get2 HS.out) 13 rfl, bc (SL.get2 HS.out) 14 rfl, bc (SL.get2 HS.out) 15 rfl⟩ : w32.cell? ⟨g3000066, 0, none⟩ = some (.int .i64 t554) ∧ w32.cell? ⟨g3000066, 1, none⟩ = some (.int .i64 a1_1) ∧ w32.cell? ⟨g3000066, 2, none⟩ = some (.int .i64 a1_2) ∧ w32.cell? ⟨g3000066, 3, none⟩ = some (.int .i64 a1_3) ∧ w32.cell? ⟨g3000066, 4, none⟩ = some (.int .i64 a1_4) ∧ w32.cell? ⟨g3000066, 5, none⟩ = some (.int .i64 a1_5) ∧ w32.cell? ⟨g3000066, 6, none⟩ = some (.int .i64 a1_6) ∧ w32.cell? ⟨g3000066, 7, none⟩ = some (.int .i64 a1_7) ∧ w32.cell? ⟨g3000066, 8, none⟩ = some (.int .i64 t555) ∧ w32.cell? ⟨g3000066, 9, none⟩ = some (.int .i64 a1_9) ∧ w32.cell? ⟨g3000066, 10, none⟩ = some (.int .i64 t556) ∧ w32.cell? ⟨g3000066, 11, none⟩ = some (.int .i64 a1_11) ∧ w32.cell? ⟨g3000066, 12, none⟩ = some (.int .i64 a1_12) ∧ w32.cell? ⟨g3000066, 13, none⟩ = some (.int .i64 a1_13) ∧ w32.cell? ⟨g3000066, 14, none⟩ = some (.int .i64 a1_14) ∧ w32.cell? ⟨g3000066, 15, none⟩ = some (.int .i64 a1_15))
           replace HS := Aside0.mk (SL.get2 (SL.get1 (SL.get2 HS.out)))
           refine norm_ (a' := ?_) ?_ ?_; rotate_left; · (simp only [putAll, Act.put, sT, sZ, sS]; rfl)
           refine one_ (i := 4) (N := some 71) #[I,I,I,I,I,I,I,O,O,O] rfl rfl (one_of HT_.out (by kernel_rfl)) (by decide) (fun K hK => ?_)
           refine st_of (by rfl) ?_
           refine op_appendF (S := S) (d := k37) ⟨fun h_ => h_⟩ (.tmp 68) (.tmp 70) 22 37 (.agg #[(.int .i64 0), (.int .i64 0), (.int .i64 0), (.int .i64 0), (.int .i64 0), (.int .i64 0), (.int .i64 0), (.int .i64 0), (.int .i64 0), (.int .i64 0), (.int .i64 0), (.int .i64 0), (.int .i64 0), (.int .i64 0), (.int .i64 0), (.int .i64 0)]) 128 rfl Try.underlying22 info37 rfl (by decide) (by decide) (.slice Az3000067 t557.length cz3000067) rfl rfl (HF.out.keep HK.out) (SL.get1 HS.out) (SL.row_c HS.out).2.2 (by have := LMc21.out; have e_ := (SL.row_c HS.out).1; omega) y559 Ny559.out ?_
           intro A560 c561 w31 hs_ hk_
           replace HS := Aside0.mk ((SL.back1 (show SL (row k37 37 (.slice A560 y559.length c561) y559 :: _) _ _ from hs_)))
           replace HK := Aside0.mk (HK.out.trans hk_)
           refine hK.out _ _ ⟨bc (SL.get2 HS.out) 0 rfl, bc (SL.get2 HS.out) 1 rfl, bc (SL.get2 HS.out) 2 rfl, bc (SL.get2 HS.out) 3 rfl, bc (SL.get2 HS.out) 4 rfl, bc (SL.get2 HS.out) 5 rfl, bc (SL.get2 HS.out) 6 rfl, bc (SL.get2 HS.out) 7 rfl, bc (SL.get2 HS.out) 8 rfl, bc (SL.get2 HS.out) 9 rfl, bc (SL.get2 HS.out) 10 rfl, bc (SL.get2 HS.out) 11 rfl, bc (SL.get2 HS.out) 12 rfl, bc (SL.get2 HS.out) 13 rfl, bc (SL.get2 HS.out) 14 rfl, bc (SL.get2 HS.out) 15 rfl⟩ (fun hHeld => ?_)
           clear hK K
           refine norm_ (a' := ?_) ?_ ?_; rotate_left
           ·show Act.put _ (some 71) _ = _
            simp only [Act.put, sT, sZ, sS, i64_w, i32_w]
            rfl
           refine pure_ (i := 7) (N := some 8) (v := ?_) (a' := ?_) #[I,I,I,I,I,I,I,I,O,O] rfl rfl (any_of HT_.out (by kernel_rfl)) (fun _ _ _ h => h) (Or.inl ⟨by rfl, ?_⟩) ?_ ?_; rotate_left; · (intro w'; go_simp; with_reducible rfl)
           rotate_left; · (simp only [Act.put, sT, sZ, sS, i64_w, i32_w]; rfl)
           refine pure_ (i := 8) (N := some 9) (v := ?_) (a' := ?_) #[I,I,I,I,I,I,I,I,I,O] rfl rfl (any_of HT_.out (by kernel_rfl)) (fun _ _ _ h => h) (Or.inl ⟨by rfl, ?_⟩) ?_ ?_; rotate_left; · (intro w'; go_simp; with_reducible rfl)
           rotate_left; · (simp only [Act.put, sT, sZ, sS, i64_w, i32_w]; rfl)
           refine pure_ (i := 9) (N := some 10) (v := ?_) (a' := ?_) #[I,I,I,I,I,I,I,I,I,I] rfl rfl (any_of HT_.out (by kernel_rfl)) (fun _ _ _ h => h) (Or.inl ⟨by rfl, ?_⟩) ?_ ?_; rotate_left; · (intro w'; go_simp; with_reducible rfl)
           rotate_left; · (simp only [Act.put, sT, sZ, sS, i64_w, i32_w]; rfl)
           refine done_ (done_of HT_.out (by kernel_rfl)) ?_
           try go_wp2
           go_ret3
           replace HS := Aside0.mk (SL.tail (SL.get1 (SL.tail HS.out)))
           unfold barrowref33_Add.Post
           exact ⟨A560, c561, by first | rfl | (simp; done) | (simp [*]; done) | (simp at c21b0 ⊢; first | exact c21b0 | (simp [c21b0]; done)), HS.out, HK.out⟩
          ·rw [if_neg c21] at H
           exact absurd H (by simp)
         ·rw [if_neg c16] at H
          exact absurd H (by simp)
        ·rw [if_neg c15] at H
         exact absurd H (by simp)
       ·rw [if_neg c14] at H
        have c14b0 : decide (0 < (l0.length : Int)) = false := decide_eq_false c14
        have c14b1 : decide (0 < l0.length) = false := decide_eq_false (by omega)
        clear c14
        replace H := Option.bind_eq_some_iff.1 H
        obtain ⟨t562, Hc370, H⟩ := H
        try dsimp only at H
        have Hc37 := Aside0.mk Hc370
        clear Hc370
        replace H := Option.bind_eq_some_iff.1 H
        obtain ⟨t563, Hc380, H⟩ := H
        try dsimp only at H
        have Hc38 := Aside0.mk Hc380
        clear Hc380
        replace H := Option.bind_eq_some_iff.1 H
        obtain ⟨t564, Hc390, H⟩ := H
        try dsimp only at H
        have Hc39 := Aside0.mk Hc390
        clear Hc390
        replace H := Option.bind_eq_some_iff.1 H
        obtain ⟨y565, hy5650, H⟩ := H
        try dsimp only at H
        have hy565 := Option.some.inj hy5650
        clear hy5650
        have Ny565 := Aside0.mk hy565
        clear hy565
        by_cases c40 : t564.length + y565.length < 1099511627776
        ·rw [if_pos c40] at H
         have LMc40 := Aside0.mk c40
         clear c40
         replace H := Option.bind_eq_some_iff.1 H
         obtain ⟨y566, hy5660, H⟩ := H
         try dsimp only at H
         have hy566 := Option.some.inj hy5660
         clear hy5660
         have Ny566 := Aside0.mk hy566
         clear hy566
         simp only [Option.some.injEq, Prod.mk.injEq] at H
         obtain ⟨rfl, rfl, rfl⟩ := H
         try go_wp2_with (first | ((with_reducible refine gate_store (t := 3) (p := 45) (v := (.const (.int .i64 1))) rfl ?_); refine wpList_plain rfl (fun K_ hK_ => ?_); refine op_store (S := S) 3 (.tmp 45) (.const (.int .i64 1)) rfl g3000066 0 (.int .i64 1) [.int .i64 1] rfl rfl rfl (by kernel_rfl) (by simp [Value.oneCell']) HS.out (by simp) ?_; intro w41 hs_ hk_; refine hK_ _ _ ?_; clear hK_ K_; replace HS := Aside0.mk ((show SL (cells g3000066 37 [.int .i64 1, .int .i64 a1_1, .int .i64 a1_2, .int .i64 a1_3, .int .i64 a1_4, .int .i64 a1_5, .int .i64 a1_6, .int .i64 a1_7, .int .i64 a1_8, .int .i64 a1_9, .int .i64 a1_10, .int .i64 a1_11, .int .i64 a1_12, .int .i64 a1_13, .int .i64 a1_14, .int .i64 a1_15].toArray :: _) _ _ from hs_)); replace HK := Aside0.mk (HK.out.trans hk_)) | ((with_reducible refine gate_dst (N := 60) rfl ?_); refine goesL_ (some 60) rfl rfl Try.func28 (by kernel_rfl) rfl #[.int .i64 a2, .int .i64 a3] rfl (by (try simp only [List.map_toArray, List.map_cons, List.map_nil]); first | done | rfl | (simp; done)) ?_; (with_reducible refine (barrowref01_Add.calls k1 _ _ _ _  Hc37.out).mono ?_); rintro e_ w42 ⟨rfl, hb_⟩; refine ⟨_, rfl, ?_⟩; replace hb_ := Drawn0.below hb_; replace HS := Aside0.mk (HS.out.below hb_); replace HK := Aside0.mk (HK.out.trans (Keep.below hb_))) | ((with_reducible refine gate_store (t := 3) (p := 61) (v := (.tmp 60)) rfl ?_); refine wpList_plain rfl (fun K_ hK_ => ?_); refine op_store (S := S) 3 (.tmp 61) (.tmp 60) rfl g3000066 8 (.int .i64 t562) [.int .i64 t562] rfl rfl rfl (by kernel_rfl) (by simp [Value.oneCell']) HS.out (by simp) ?_; intro w43 hs_ hk_; refine hK_ _ _ ?_; clear hK_ K_; replace HS := Aside0.mk ((show SL (cells g3000066 37 [.int .i64 1, .int .i64 a1_1, .int .i64 a1_2, .int .i64 a1_3, .int .i64 a1_4, .int .i64 a1_5, .int .i64 a1_6, .int .i64 a1_7, .int .i64 t562, .int .i64 a1_9, .int .i64 a1_10, .int .i64 a1_11, .int .i64 a1_12, .int .i64 a1_13, .int .i64 a1_14, .int .i64 a1_15].toArray :: _) _ _ from hs_)); replace HK := Aside0.mk (HK.out.trans hk_); have hb_ := SL.at_ HS.out; have hz3000066_0_3 := ((blk_cell hb_ 0).trans rfl : _ = some (.int .i64 1)); have hz3000066_1_3 := ((blk_cell hb_ 1).trans rfl : _ = some (.int .i64 a1_1)); have hz3000066_2_3 := ((blk_cell hb_ 2).trans rfl : _ = some (.int .i64 a1_2)); have hz3000066_3_3 := ((blk_cell hb_ 3).trans rfl : _ = some (.int .i64 a1_3)); have hz3000066_4_3 := ((blk_cell hb_ 4).trans rfl : _ = some (.int .i64 a1_4)); have hz3000066_5_3 := ((blk_cell hb_ 5).trans rfl : _ = some (.int .i64 a1_5)); have hz3000066_6_3 := ((blk_cell hb_ 6).trans rfl : _ = some (.int .i64 a1_6)); have hz3000066_7_3 := ((blk_cell hb_ 7).trans rfl : _ = some (.int .i64 a1_7)); have hz3000066_8_3 := ((blk_cell hb_ 8).trans rfl : _ = some (.int .i64 t562)); have hz3000066_9_3 := ((blk_cell hb_ 9).trans rfl : _ = some (.int .i64 a1_9)); have hz3000066_10_3 := ((blk_cell hb_ 10).trans rfl : _ = some (.int .i64 a1_10)); have hz3000066_11_3 := ((blk_cell hb_ 11).trans rfl : _ = some (.int .i64 a1_11)); have hz3000066_12_3 := ((blk_cell hb_ 12).trans rfl : _ = some (.int .i64 a1_12)); have hz3000066_13_3 := ((blk_cell hb_ 13).trans rfl : _ = some (.int .i64 a1_13)); have hz3000066_14_3 := ((blk_cell hb_ 14).trans rfl : _ = some (.int .i64 a1_14)); have hz3000066_15_3 := ((blk_cell hb_ 15).trans rfl : _ = some (.int .i64 a1_15)); clear hb_) | ((with_reducible refine gate_dst (N := 65) rfl ?_); refine goesL_ (some 65) rfl rfl Try.func28 (by kernel_rfl) rfl #[.int .i64 a2, .int .i64 a1_9] rfl (by (try simp only [List.map_toArray, List.map_cons, List.map_nil]); first | done | rfl | (simp; done)) ?_; (with_reducible refine (barrowref01_Add.calls k1 _ _ _ _  Hc38.out).mono ?_); rintro e_ w44 ⟨rfl, hb_⟩; refine ⟨_, rfl, ?_⟩; replace hb_ := Drawn0.below hb_; replace HS := Aside0.mk (HS.out.below hb_); replace HK := Aside0.mk (HK.out.trans (Keep.below hb_)); (try clear hz3000066_0_3 hz3000066_1_3 hz3000066_2_3 hz3000066_3_3 hz3000066_4_3 hz3000066_5_3 hz3000066_6_3 hz3000066_7_3 hz3000066_8_3 hz3000066_9_3 hz3000066_10_3 hz3000066_11_3 hz3000066_12_3 hz3000066_13_3 hz3000066_14_3 hz3000066_15_3)) | ((with_reducible refine gate_store (t := 3) (p := 66) (v := (.tmp 65)) rfl ?_); refine wpList_plain rfl (fun K_ hK_ => ?_); refine op_store (S := S) 3 (.tmp 66) (.tmp 65) rfl g3000066 10 (.int .i64 t563) [.int .i64 t563] rfl rfl rfl (by kernel_rfl) (by simp [Value.oneCell']) HS.out (by simp) ?_; intro w45 hs_ hk_; refine hK_ _ _ ?_; clear hK_ K_; replace HS := Aside0.mk ((show SL (cells g3000066 37 [.int .i64 1, .int .i64 a1_1, .int .i64 a1_2, .int .i64 a1_3, .int .i64 a1_4, .int .i64 a1_5, .int .i64 a1_6, .int .i64 a1_7, .int .i64 t562, .int .i64 a1_9, .int .i64 t563, .int .i64 a1_11, .int .i64 a1_12, .int .i64 a1_13, .int .i64 a1_14, .int .i64 a1_15].toArray :: _) _ _ from hs_)); replace HK := Aside0.mk (HK.out.trans hk_)))
         refine start_ (n := 10) (S := fun w' => w'.cell? ⟨g3000066, 0, none⟩ = some (.int .i64 1) ∧ w'.cell? ⟨g3000066, 1, none⟩ = some (.int .i64 a1_1) ∧ w'.cell? ⟨g3000066, 2, none⟩ = some (.int .i64 a1_2) ∧ w'.cell? ⟨g3000066, 3, none⟩ = some (.int .i64 a1_3) ∧ w'.cell? ⟨g3000066, 4, none⟩ = some (.int .i64 a1_4) ∧ w'.cell? ⟨g3000066, 5, none⟩ = some (.int .i64 a1_5) ∧ w'.cell? ⟨g3000066, 6, none⟩ = some (.int .i64 a1_6) ∧ w'.cell? ⟨g3000066, 7, none⟩ = some (.int .i64 a1_7) ∧ w'.cell? ⟨g3000066, 8, none⟩ = some (.int .i64 t562) ∧ w'.cell? ⟨g3000066, 9, none⟩ = some (.int .i64 a1_9) ∧ w'.cell? ⟨g3000066, 10, none⟩ = some (.int .i64 t563) ∧ w'.cell? ⟨g3000066, 11, none⟩ = some (.int .i64 a1_11) ∧ w'.cell? ⟨g3000066, 12, none⟩ = some (.int .i64 a1_12) ∧ w'.cell? ⟨g3000066, 13, none⟩ = some (.int .i64 a1_13) ∧ w'.cell? ⟨g3000066, 14, none⟩ = some (.int .i64 a1_14) ∧ w'.cell? ⟨g3000066, 15, none⟩ = some (.int .i64 a1_15)) (ds := []) #[O,O,O,O,O,O,O,O,O,O] (by kernel_rfl) rfl rfl ⟨bc HS.out 0 rfl, bc HS.out 1 rfl, bc HS.out 2 rfl, bc HS.out 3 rfl, bc HS.out 4 rfl, bc HS.out 5 rfl, bc HS.out 6 rfl, bc HS.out 7 rfl, bc HS.out 8 rfl, bc HS.out 9 rfl, bc HS.out 10 rfl, bc HS.out 11 rfl, bc HS.out 12 rfl, bc HS.out 13 rfl, bc HS.out 14 rfl, bc HS.out 15 rfl⟩ (fun hHeld => ?_); refine with_tabW barrowref33_Add.tab12 barrowref33_Add.bits12 (fun HT_ HW_ => ?_)
         replace HK := Aside0.mk (Keep.drew HK.out)
         replace HS := Aside0.mk (SL.drew HS.out)
         refine pure_ (i := 0) (N := some 67) (v := ?_) (a' := ?_) #[I,O,O,O,O,O,O,O,O,O] rfl rfl (any_of HT_.out (by kernel_rfl)) (fun _ _ _ h => h) (Or.inl ⟨by rfl, ?_⟩) ?_ ?_; rotate_left; · (intro w'; go_simp; with_reducible rfl)
         rotate_left; · (simp only [Act.put, sT, sZ, sS, i64_w, i32_w]; rfl)
         refine pure_ (i := 5) (N := some 72) (v := ?_) (a' := ?_) #[I,O,O,O,O,I,O,O,O,O] rfl rfl (any_of HT_.out (by kernel_rfl)) (fun _ _ _ h => h) (Or.inl ⟨by rfl, ?_⟩) ?_ ?_; rotate_left; · (intro w'; go_simp; with_reducible rfl)
         rotate_left; · (simp only [Act.put, sT, sZ, sS, i64_w, i32_w]; rfl)
         refine take_ (i := 2) (N := some 69) (v := ?_) (a' := ?_) #[I,O,I,O,O,I,O,O,O,O] rfl rfl (take_ofW HT_.out HW_.out (by kernel_rfl)) (fun _ _ _ h => h) (Or.inl ⟨by rfl, ?_⟩) hHeld ?_ ?_; rotate_left
         ·rintro w' ⟨s0, s1, s2, s3, s4, s5, s6, s7, s8, s9, s10, s11, s12, s13, s14, s15⟩
          go_simp
          with_reducible rfl
         rotate_left; · (simp only [Act.put, sT, sZ, sS, i64_w, i32_w]; rfl)
         refine take_ (i := 6) (N := some 73) (v := ?_) (a' := ?_) #[I,O,I,O,O,I,I,O,O,O] rfl rfl (take_ofW HT_.out HW_.out (by kernel_rfl)) (fun _ _ _ h => h) (Or.inl ⟨by rfl, ?_⟩) hHeld ?_ ?_; rotate_left
         ·rintro w' ⟨s0, s1, s2, s3, s4, s5, s6, s7, s8, s9, s10, s11, s12, s13, s14, s15⟩
          go_simp
          with_reducible rfl
         rotate_left; · (simp only [Act.put, sT, sZ, sS, i64_w, i32_w]; rfl)
         refine join_ (σ := Option Addr × Nat × Option Addr × Nat) 4 #[I,I,I,I,O,I,I,O,O,O] (fun s_ => [(68, .slice s_.1 t564.length s_.2.1), (70, .slice s_.2.2.1 1 s_.2.2.2)]) (fun s_ w_ => Keep S w w_ ∧ SL (row k37 37 (.slice s_.1 t564.length s_.2.1) t564 :: row k37 37 (.slice s_.2.2.1 1 s_.2.2.2) y565 :: cells g3000066 37 [.int .i64 1, .int .i64 a1_1, .int .i64 a1_2, .int .i64 a1_3, .int .i64 a1_4, .int .i64 a1_5, .int .i64 a1_6, .int .i64 a1_7, .int .i64 t562, .int .i64 a1_9, .int .i64 t563, .int .i64 a1_11, .int .i64 a1_12, .int .i64 a1_13, .int .i64 a1_14, .int .i64 a1_15].toArray :: L) w_ S) ?_ ?_; rotate_left
         ·intro hCont
          refine two_ (i := 1) (j := 3) (Ni := some 68) (Nj := some 70) #[I,I,I,O,O,I,I,O,O,O] #[I,O,I,I,O,I,I,O,O,O] rfl rfl rfl rfl (two_of HT_.out (by kernel_rfl)) (by decide) (by decide) (fun K hK => ?_) (fun K hK => ?_)
          ·skip
           refine goes_ Try.func32 (by kernel_rfl) rfl #[.slice A0 l0.length c0] (by rfl) rfl rfl (by (try simp only [List.map_toArray, List.map_cons, List.map_nil]); first | done | rfl | (simp; done)) ?_
           have hs0_ := HS.out
           (with_reducible refine (barrowref33_Copy.slcalls _ _ _ _ _ _ _ (HF.out.keep HK.out) hs0_ (HR0.out.keep HK.out) HC0.out Hc39.out).mono ?_)
           rintro e_ w50 ⟨Az3000067, cz3000067, rfl, hsr_, hkr_⟩
           refine ⟨_, rfl, ?_⟩
           replace HS := Aside0.mk (hsr_)
           replace HK := Aside0.mk (HK.out.trans hkr_)
           refine hK.out _ _ ⟨bc (SL.get1 HS.out) 0 rfl, bc (SL.get1 HS.out) 1 rfl, bc (SL.get1 HS.out) 2 rfl, bc (SL.get1 HS.out) 3 rfl, bc (SL.get1 HS.out) 4 rfl, bc (SL.get1 HS.out) 5 rfl, bc (SL.get1 HS.out) 6 rfl, bc (SL.get1 HS.out) 7 rfl, bc (SL.get1 HS.out) 8 rfl, bc (SL.get1 HS.out) 9 rfl, bc (SL.get1 HS.out) 10 rfl, bc (SL.get1 HS.out) 11 rfl, bc (SL.get1 HS.out) 12 rfl, bc (SL.get1 HS.out) 13 rfl, bc (SL.get1 HS.out) 14 rfl, bc (SL.get1 HS.out) 15 rfl⟩ (fun hHeld => ?_)
           clear hK K
           refine norm_ (a' := ?_) ?_ ?_; rotate_left
           ·show Act.put _ (some 68) _ = _
            simp only [Act.put, sT, sZ, sS, i64_w, i32_w]
            rfl
           refine one_ (i := 3) (N := some 70) #[I,I,I,I,O,I,I,O,O,O] rfl rfl (one_of HT_.out (by kernel_rfl)) (by decide) (fun K hK => ?_)
           replace HS := Aside0.mk (SL.get1 HS.out)
           refine st_of (by rfl) ?_
           refine op_rowF (S := S) (d := k37) ⟨fun h_ => h_⟩ 37 y565 #[.int .i64 1, .int .i64 a1_1, .int .i64 a1_2, .int .i64 a1_3, .int .i64 a1_4, .int .i64 a1_5, .int .i64 a1_6, .int .i64 a1_7, .int .i64 t562, .int .i64 a1_9, .int .i64 t563, .int .i64 a1_11, .int .i64 a1_12, .int .i64 a1_13, .int .i64 a1_14, .int .i64 a1_15] 1 (by rw [← Ny565.out]; exact reps_cons (k37_mkM _ 0 _ (⟨1, (⟨a1_1, (⟨a1_2, a1_3⟩ : S31), (⟨a1_4, a1_5⟩ : S31), a1_6, a1_7⟩ : S33), t562, a1_9, t563, (⟨a1_11, a1_12, a1_13⟩ : S35), a1_14, a1_15⟩ : S37)) rfl (Reps.none _ _)) (by rw [← Ny565.out]; rfl) (by decide) (HF.out.keep HK.out) HS.out (by first | (go_simp; done) | (go_simp; rfl)) ?_
           intro Az3000068 cz3000068 w51 hs_ hk_
           replace HS := Aside0.mk ((show SL (row k37 37 (.slice Az3000068 1 cz3000068) y565 :: _) _ _ from hs_))
           replace HK := Aside0.mk (HK.out.trans hk_)
           refine hK.out _ _ ⟨bc (SL.get1 HS.out) 0 rfl, bc (SL.get1 HS.out) 1 rfl, bc (SL.get1 HS.out) 2 rfl, bc (SL.get1 HS.out) 3 rfl, bc (SL.get1 HS.out) 4 rfl, bc (SL.get1 HS.out) 5 rfl, bc (SL.get1 HS.out) 6 rfl, bc (SL.get1 HS.out) 7 rfl, bc (SL.get1 HS.out) 8 rfl, bc (SL.get1 HS.out) 9 rfl, bc (SL.get1 HS.out) 10 rfl, bc (SL.get1 HS.out) 11 rfl, bc (SL.get1 HS.out) 12 rfl, bc (SL.get1 HS.out) 13 rfl, bc (SL.get1 HS.out) 14 rfl, bc (SL.get1 HS.out) 15 rfl⟩ (fun hHeld => ?_)
           clear hK K
           refine norm_ (a' := ?_) ?_ ?_; rotate_left
           ·show Act.put _ (some 70) _ = _
            simp only [Act.put, sT, sZ, sS, i64_w, i32_w]
            rfl
           exact norm_ (by simp only [putAll, Act.put, sT, sZ, sS]) (hCont (Az3000067, cz3000067, Az3000068, cz3000068) _ ⟨HK.out, (SL.get2 (SL.get1 (SL.get1 HS.out)))⟩)
          ·skip
           refine st_of (by rfl) ?_
           refine op_rowF (S := S) (d := k37) ⟨fun h_ => h_⟩ 37 y565 #[.int .i64 1, .int .i64 a1_1, .int .i64 a1_2, .int .i64 a1_3, .int .i64 a1_4, .int .i64 a1_5, .int .i64 a1_6, .int .i64 a1_7, .int .i64 t562, .int .i64 a1_9, .int .i64 t563, .int .i64 a1_11, .int .i64 a1_12, .int .i64 a1_13, .int .i64 a1_14, .int .i64 a1_15] 1 (by rw [← Ny565.out]; exact reps_cons (k37_mkM _ 0 _ (⟨1, (⟨a1_1, (⟨a1_2, a1_3⟩ : S31), (⟨a1_4, a1_5⟩ : S31), a1_6, a1_7⟩ : S33), t562, a1_9, t563, (⟨a1_11, a1_12, a1_13⟩ : S35), a1_14, a1_15⟩ : S37)) rfl (Reps.none _ _)) (by rw [← Ny565.out]; rfl) (by decide) (HF.out.keep HK.out) HS.out (by first | (go_simp; done) | (go_simp; rfl)) ?_
           intro Az3000068 cz3000068 w52 hs_ hk_
           replace HS := Aside0.mk ((show SL (row k37 37 (.slice Az3000068 1 cz3000068) y565 :: _) _ _ from hs_))
           replace HK := Aside0.mk (HK.out.trans hk_)
           refine hK.out _ _ ⟨bc (SL.get1 HS.out) 0 rfl, bc (SL.get1 HS.out) 1 rfl, bc (SL.get1 HS.out) 2 rfl, bc (SL.get1 HS.out) 3 rfl, bc (SL.get1 HS.out) 4 rfl, bc (SL.get1 HS.out) 5 rfl, bc (SL.get1 HS.out) 6 rfl, bc (SL.get1 HS.out) 7 rfl, bc (SL.get1 HS.out) 8 rfl, bc (SL.get1 HS.out) 9 rfl, bc (SL.get1 HS.out) 10 rfl, bc (SL.get1 HS.out) 11 rfl, bc (SL.get1 HS.out) 12 rfl, bc (SL.get1 HS.out) 13 rfl, bc (SL.get1 HS.out) 14 rfl, bc (SL.get1 HS.out) 15 rfl⟩ (fun hHeld => ?_)
           clear hK K
           refine norm_ (a' := ?_) ?_ ?_; rotate_left
           ·show Act.put _ (some 70) _ = _
            simp only [Act.put, sT, sZ, sS, i64_w, i32_w]
            rfl
           refine one_ (i := 1) (N := some 68) #[I,I,I,I,O,I,I,O,O,O] rfl rfl (one_of HT_.out (by kernel_rfl)) (by decide) (fun K hK => ?_)
           replace HS := Aside0.mk (SL.get1 HS.out)
           refine goes_ Try.func32 (by kernel_rfl) rfl #[.slice A0 l0.length c0] (by rfl) rfl rfl (by (try simp only [List.map_toArray, List.map_cons, List.map_nil]); first | done | rfl | (simp; done)) ?_
           have hs0_ := HS.out
           (with_reducible refine (barrowref33_Copy.slcalls _ _ _ _ _ _ _ (HF.out.keep HK.out) hs0_ (HR0.out.keep HK.out) HC0.out Hc39.out).mono ?_)
           rintro e_ w53 ⟨Az3000067, cz3000067, rfl, hsr_, hkr_⟩
           refine ⟨_, rfl, ?_⟩
           replace HS := Aside0.mk (hsr_)
           replace HK := Aside0.mk (HK.out.trans hkr_)
           refine hK.out _ _ ⟨bc (SL.get1 HS.out) 0 rfl, bc (SL.get1 HS.out) 1 rfl, bc (SL.get1 HS.out) 2 rfl, bc (SL.get1 HS.out) 3 rfl, bc (SL.get1 HS.out) 4 rfl, bc (SL.get1 HS.out) 5 rfl, bc (SL.get1 HS.out) 6 rfl, bc (SL.get1 HS.out) 7 rfl, bc (SL.get1 HS.out) 8 rfl, bc (SL.get1 HS.out) 9 rfl, bc (SL.get1 HS.out) 10 rfl, bc (SL.get1 HS.out) 11 rfl, bc (SL.get1 HS.out) 12 rfl, bc (SL.get1 HS.out) 13 rfl, bc (SL.get1 HS.out) 14 rfl, bc (SL.get1 HS.out) 15 rfl⟩ (fun hHeld => ?_)
           clear hK K
           refine norm_ (a' := ?_) ?_ ?_; rotate_left
           ·show Act.put _ (some 68) _ = _
            simp only [Act.put, sT, sZ, sS, i64_w, i32_w]
            rfl
           exact norm_ (by simp only [putAll, Act.put, sT, sZ, sS]) (hCont (Az3000067, cz3000067, Az3000068, cz3000068) _ ⟨HK.out, (SL.get2 (SL.get2 (SL.get1 HS.out)))⟩)
         rintro ⟨Az3000067, cz3000067, Az3000068, cz3000068⟩ w49 ⟨hk_, hs_⟩
         clear HK HS
         have HK := Aside0.mk hk_
         have HS := Aside0.mk hs_
         clear hk_ hs_
         have hHeld := (⟨bc (SL.get2 HS.out) 0 rfl, bc (SL.get2 HS.out) 1 rfl, bc (SL.get2 HS.out) 2 rfl, bc (SL.get2 HS.out) 3 rfl, bc (SL.get2 HS.out) 4 rfl, bc (SL.get2 HS.out) 5 rfl, bc (SL.get2 HS.out) 6 rfl, bc (SL.get2 HS.out) 7 rfl, bc (SL.get2 HS.out) 8 rfl, bc (SL.get2 HS.out) 9 rfl, bc (SL.get2 HS.out) 10 rfl, bc (SL.get2 HS.out) 11 rfl, bc (SL.get2 HS.out) 12 rfl, bc (SL.get2 HS.out) 13 rfl, bc (SL.get2 HS.out) 14 rfl, bc (SL.get2 HS.out) 15 rfl⟩ : w49.cell? ⟨g3000066, 0, none⟩ = some (.int .i64 1) ∧ w49.cell? ⟨g3000066, 1, none⟩ = some (.int .i64 a1_1) ∧ w49.cell? ⟨g3000066, 2, none⟩ = some (.int .i64 a1_2) ∧ w49.cell? ⟨g3000066, 3, none⟩ = some (.int .i64 a1_3) ∧ w49.cell? ⟨g3000066, 4, none⟩ = some (.int .i64 a1_4) ∧ w49.cell? ⟨g3000066, 5, none⟩ = some (.int .i64 a1_5) ∧ w49.cell? ⟨g3000066, 6, none⟩ = some (.int .i64 a1_6) ∧ w49.cell? ⟨g3000066, 7, none⟩ = some (.int .i64 a1_7) ∧ w49.cell? ⟨g3000066, 8, none⟩ = some (.int .i64 t562) ∧ w49.cell? ⟨g3000066, 9, none⟩ = some (.int .i64 a1_9) ∧ w49.cell? ⟨g3000066, 10, none⟩ = some (.int .i64 t563) ∧ w49.cell? ⟨g3000066, 11, none⟩ = some (.int .i64 a1_11) ∧ w49.cell? ⟨g3000066, 12, none⟩ = some (.int .i64 a1_12) ∧ w49.cell? ⟨g3000066, 13, none⟩ = some (.int .i64 a1_13) ∧ w49.cell? ⟨g3000066, 14, none⟩ = some (.int .i64 a1_14) ∧ w49.cell? ⟨g3000066, 15, none⟩ = some (.int .i64 a1_15))
         replace HS := Aside0.mk (SL.get2 (SL.get1 (SL.get2 HS.out)))
         refine norm_ (a' := ?_) ?_ ?_; rotate_left; · (simp only [putAll, Act.put, sT, sZ, sS]; rfl)
         refine one_ (i := 4) (N := some 71) #[I,I,I,I,I,I,I,O,O,O] rfl rfl (one_of HT_.out (by kernel_rfl)) (by decide) (fun K hK => ?_)
         refine st_of (by rfl) ?_
         refine op_appendF (S := S) (d := k37) ⟨fun h_ => h_⟩ (.tmp 68) (.tmp 70) 22 37 (.agg #[(.int .i64 0), (.int .i64 0), (.int .i64 0), (.int .i64 0), (.int .i64 0), (.int .i64 0), (.int .i64 0), (.int .i64 0), (.int .i64 0), (.int .i64 0), (.int .i64 0), (.int .i64 0), (.int .i64 0), (.int .i64 0), (.int .i64 0), (.int .i64 0)]) 128 rfl Try.underlying22 info37 rfl (by decide) (by decide) (.slice Az3000067 t564.length cz3000067) rfl rfl (HF.out.keep HK.out) (SL.get1 HS.out) (SL.row_c HS.out).2.2 (by have := LMc40.out; have e_ := (SL.row_c HS.out).1; omega) y566 Ny566.out ?_
         intro A567 c568 w48 hs_ hk_
         replace HS := Aside0.mk ((SL.back1 (show SL (row k37 37 (.slice A567 y566.length c568) y566 :: _) _ _ from hs_)))
         replace HK := Aside0.mk (HK.out.trans hk_)
         refine hK.out _ _ ⟨bc (SL.get2 HS.out) 0 rfl, bc (SL.get2 HS.out) 1 rfl, bc (SL.get2 HS.out) 2 rfl, bc (SL.get2 HS.out) 3 rfl, bc (SL.get2 HS.out) 4 rfl, bc (SL.get2 HS.out) 5 rfl, bc (SL.get2 HS.out) 6 rfl, bc (SL.get2 HS.out) 7 rfl, bc (SL.get2 HS.out) 8 rfl, bc (SL.get2 HS.out) 9 rfl, bc (SL.get2 HS.out) 10 rfl, bc (SL.get2 HS.out) 11 rfl, bc (SL.get2 HS.out) 12 rfl, bc (SL.get2 HS.out) 13 rfl, bc (SL.get2 HS.out) 14 rfl, bc (SL.get2 HS.out) 15 rfl⟩ (fun hHeld => ?_)
         clear hK K
         refine norm_ (a' := ?_) ?_ ?_; rotate_left
         ·show Act.put _ (some 71) _ = _
          simp only [Act.put, sT, sZ, sS, i64_w, i32_w]
          rfl
         refine pure_ (i := 7) (N := some 8) (v := ?_) (a' := ?_) #[I,I,I,I,I,I,I,I,O,O] rfl rfl (any_of HT_.out (by kernel_rfl)) (fun _ _ _ h => h) (Or.inl ⟨by rfl, ?_⟩) ?_ ?_; rotate_left; · (intro w'; go_simp; with_reducible rfl)
         rotate_left; · (simp only [Act.put, sT, sZ, sS, i64_w, i32_w]; rfl)
         refine pure_ (i := 8) (N := some 9) (v := ?_) (a' := ?_) #[I,I,I,I,I,I,I,I,I,O] rfl rfl (any_of HT_.out (by kernel_rfl)) (fun _ _ _ h => h) (Or.inl ⟨by rfl, ?_⟩) ?_ ?_; rotate_left; · (intro w'; go_simp; with_reducible rfl)
         rotate_left; · (simp only [Act.put, sT, sZ, sS, i64_w, i32_w]; rfl)
         refine pure_ (i := 9) (N := some 10) (v := ?_) (a' := ?_) #[I,I,I,I,I,I,I,I,I,I] rfl rfl (any_of HT_.out (by kernel_rfl)) (fun _ _ _ h => h) (Or.inl ⟨by rfl, ?_⟩) ?_ ?_; rotate_left; · (intro w'; go_simp; with_reducible rfl)
         rotate_left; · (simp only [Act.put, sT, sZ, sS, i64_w, i32_w]; rfl)
         refine done_ (done_of HT_.out (by kernel_rfl)) ?_
         try go_wp2
         go_ret3
         replace HS := Aside0.mk (SL.tail (SL.get1 (SL.tail HS.out)))
         unfold barrowref33_Add.Post
         exact ⟨A567, c568, by first | rfl | (simp; done) | (simp [*]; done) | (simp at c40b0 ⊢; first | exact c40b0 | (simp [c40b0]; done)), HS.out, HK.out⟩
        ·rw [if_neg c40] at H
         exact absurd H (by simp)
   ·replace c8 := Bool.eq_false_iff.mpr c8
    subst c8
    rw [if_neg (show ¬ (false = true) by decide)] at H
    simp only [Option.some.injEq, Prod.mk.injEq] at H
    obtain ⟨rfl, rfl, rfl⟩ := H
    have n2_ := Aside0.mk (SL.nil_row k37 37 HS.out)
    clear HS
    have HS := n2_
    clear n2_
    refine hG_.out ?_
    try simp only [c7b0]
    go_wp2
    go_ret3
    replace HS := Aside0.mk (SL.tail (SL.get1 HS.out))
    unfold barrowref33_Add.Post
    exact ⟨none, 0, by first | rfl | (simp; done) | (simp [*]; done) | (simp at c7b0 ⊢; first | exact c7b0 | (simp [c7b0]; done)), HS.out, HK.out⟩
 ·replace c6 := Bool.eq_false_iff.mpr c6
  subst c6
  rw [if_neg (show ¬ (false = true) by decide)] at H
  simp only [Option.some.injEq, Prod.mk.injEq] at H
  obtain ⟨rfl, rfl, rfl⟩ := H
  have n2_ := Aside0.mk (SL.nil_row k37 37 HS.out)
  clear HS
  have HS := n2_
  clear n2_
  refine hG_.out ?_
  go_wp2
  go_ret3
  replace HS := Aside0.mk (SL.tail (SL.get1 HS.out))
  unfold barrowref33_Add.Post
  exact ⟨none, 0, by first | rfl | (simp; done) | (simp [*]; done), HS.out, HK.out⟩

end Go.Proofs.Ytiadhonhjnbliaa.XZT
