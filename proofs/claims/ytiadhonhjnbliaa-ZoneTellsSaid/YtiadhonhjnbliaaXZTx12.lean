-- Written by xprint.py (a program of this session) for this claim
import Derived.Test.YtiadhonhjnbliaaSq
import Derived.Test.YtiadhonhjnbliaaSL5
import Derived.Test.YtiadhonhjnbliaaSL4
import Derived.Test.YtiadhonhjnbliaaXZTx0
import Derived.Test.YtiadhonhjnbliaaXZTx4
import Derived.Test.YtiadhonhjnbliaaXZTx10
import Derived.Test.YtiadhonhjnbliaaXZTx11
namespace Go.Proofs.Ytiadhonhjnbliaa.XZT
open Go.Proofs.YtiadhonhjnbliaaV Go.Proofs.YtiadhonhjnbliaaS
open Go.RowKit Go.Proofs.YtiadhonhjnbliaaW.PrintWords Go.Proofs.YtiadhonhjnbliaaW.PrintLast Go.Proofs.YtiadhonhjnbliaaW.PrintMore
attribute [local go_sem] max2_int min2_int max_two min_two max_three min_three max_four min_four   -- for this text's walks alone
set_option linter.unusedVariables false
set_option linter.unusedSimpArgs false

/-! ### zone_Add: function 12 -/
def zone_Add.f (k : Nat) (l0 : List (S37)) (a1_0 : Int) (a1_1 : Int) (a1_2 : Int) (a1_3 : Int) (a1_4 : Int) (a1_5 : Int) (a1_6 : Int) (a1_7 : Int) (a1_8 : Int) (a1_9 : Int) (a1_10 : Int) (a1_11 : Int) (a1_12 : Int) (a1_13 : Int) (a1_14 : Int) (a1_15 : Int) (a2 : Int) (a3 : Int) : Option ((List (S37)) × Int × Int) := if (l0.length : Int) > 0 then ((some (wrap64 ((l0.length : Int) - 1) : Int)).bind fun j269 => (if 0 ≤ j269 then (if j269 < (l0.length : Int) then ((zone_Right.f k l0).bind fun t271 => (if t271 = true then ((zone_may.f a1_0 a1_1 a1_2 a1_3 a1_4 a1_5 a1_6 a1_7 a1_8 a1_9 a1_10 a1_11 a1_12 a1_13 a1_14 a1_15).bind fun t272 => (if t272 = true then (if a3 < 1 then (some (([] : List (S37)), 0, 1)) else (if (l0.length : Int) ≥ 32 then (some (([] : List (S37)), 0, 4)) else (if ((rd_T37 l0 j269).f0) = 9223372036854775807 then (some (([] : List (S37)), 0, 4)) else ((sat_Add.f k a2 a3).bind fun t273 => ((sat_Add.f k a2 a1_9).bind fun t274 => ((api_Zone_30.f l0).bind fun t275 => ((some (([(⟨wrap64 (((rd_T37 l0 j269).f0) + 1), (⟨a1_1, (⟨a1_2, a1_3⟩ : S31), (⟨a1_4, a1_5⟩ : S31), a1_6, a1_7⟩ : S33), t273, a1_9, t274, (⟨a1_11, a1_12, a1_13⟩ : S35), a1_14, a1_15⟩ : S37)] : List (S37)) : List (S37))).bind fun y276 => (if t275.length + y276.length < 1099511627776 then ((some (t275 ++ y276 : List (S37))).bind fun y277 => (some (y277, wrap64 (((rd_T37 l0 j269).f0) + 1), 0))) else (none))))))))) else (some (([] : List (S37)), 0, 1)))) else (some (([] : List (S37)), 0, 1)))) else (none)) else (none))) else ((zone_Right.f k l0).bind fun t280 => (if t280 = true then ((zone_may.f a1_0 a1_1 a1_2 a1_3 a1_4 a1_5 a1_6 a1_7 a1_8 a1_9 a1_10 a1_11 a1_12 a1_13 a1_14 a1_15).bind fun t281 => (if t281 = true then (if a3 < 1 then (some (([] : List (S37)), 0, 1)) else (if (l0.length : Int) ≥ 32 then (some (([] : List (S37)), 0, 4)) else ((sat_Add.f k a2 a3).bind fun t282 => ((sat_Add.f k a2 a1_9).bind fun t283 => ((api_Zone_30.f l0).bind fun t284 => ((some (([(⟨wrap64 1, (⟨a1_1, (⟨a1_2, a1_3⟩ : S31), (⟨a1_4, a1_5⟩ : S31), a1_6, a1_7⟩ : S33), t282, a1_9, t283, (⟨a1_11, a1_12, a1_13⟩ : S35), a1_14, a1_15⟩ : S37)] : List (S37)) : List (S37))).bind fun y285 => (if t284.length + y285.length < 1099511627776 then ((some (t284 ++ y285 : List (S37))).bind fun y286 => (some (y286, wrap64 1, 0))) else (none)))))))) else (some (([] : List (S37)), 0, 1)))) else (some (([] : List (S37)), 0, 1))))
theorem zone_Add.mono : ∀ a0 a1 a2 a3 a4 a5 a6 a7 a8 a9 a10 a11 a12 a13 a14 a15 a16 a17 a18 k, LeO (zone_Add.f k a0 a1 a2 a3 a4 a5 a6 a7 a8 a9 a10 a11 a12 a13 a14 a15 a16 a17 a18) (zone_Add.f (k + 1) a0 a1 a2 a3 a4 a5 a6 a7 a8 a9 a10 a11 a12 a13 a14 a15 a16 a17 a18) := by
 intro a0 a1 a2 a3 a4 a5 a6 a7 a8 a9 a10 a11 a12 a13 a14 a15 a16 a17 a18 k
 unfold zone_Add.f
 repeat' first
   | (with_reducible exact sat_Add.mono _ _ _)
   | (with_reducible exact zone_Right.mono _ _)
   | (with_reducible exact LeO.refl _)
   | (with_reducible exact LeO.none _)
   | (with_reducible refine LeO.ite ?_ ?_)
   | (with_reducible refine everyOf_le (fun _ => ?_))
   | (with_reducible refine LeO.bind ?_ (fun _ => ?_))
   | exact sat_Add.mono _ _ _
   | exact zone_Right.mono _ _
   | exact LeO.none _
   | refine LeO.ite ?_ ?_
   | refine LeO.bind ?_ (fun _ => ?_)
def zone_Add.T12 : Bool × List (List Nat × List Nat) := (true, [([], []), ([0], [0]), ([], []), ([], []), ([2, 3], [2, 3]), ([], []), ([], []), ([6], [6]), ([5, 7, 4], [5, 7]), ([0, 1, 6, 7], []), ([9, 1, 8, 0, 1, 6, 7], [1, 9]), ([0, 1, 2, 3, 4, 6, 7, 9, 10], []), ([11, 4, 10, 0, 1, 2, 3, 4, 6, 7, 9, 10], [4, 11]), ([0, 1, 2, 3, 4, 5, 6, 7, 8, 9, 10, 11, 12], []), ([13, 8, 12, 0, 1, 2, 3, 4, 5, 6, 7, 8, 9, 10, 11, 12], [8, 13])])
def zone_Add.B12 : List Nat := [0, 1, 0, 0, 12, 0, 0, 64, 252, 195, 1023, 2047, 4095, 8191, 16383]
theorem zone_Add.tab12 : rtab .any (opsOf Try.f12 12) = zone_Add.T12 := by kernel_rfl
theorem zone_Add.bits12 : waitsOk zone_Add.T12.2 zone_Add.B12 = true := by kernel_rfl
def zone_Add.T13 : Bool × List (List Nat × List Nat) := (true, [([], []), ([0], [0]), ([], []), ([2], [2]), ([1, 3, 1], [1, 3]), ([], []), ([5], [5]), ([4, 4, 0, 1, 2, 3, 4], [4]), ([6, 7, 0, 1, 2, 3, 4, 5, 6, 7], [6]), ([8, 0, 1, 2, 3, 4, 5, 6, 7, 8], [])])
def zone_Add.B13 : List Nat := [0, 1, 0, 4, 15, 0, 32, 31, 255, 511]
theorem zone_Add.tab13 : rtab .any (opsOf Try.f12 13) = zone_Add.T13 := by kernel_rfl
theorem zone_Add.bits13 : waitsOk zone_Add.T13.2 zone_Add.B13 = true := by kernel_rfl
def zone_Add.Post (r1 : List (S37)) (r2 : Int) (r3 : Int) (S : Nat → Prop) (L : List Asr) (w : World) (e : Ending) (w' : World) : Prop := ∃ (Ar1 : Option Addr) (cr1 : Nat), e = .returned (.tuple #[.slice Ar1 r1.length cr1, .int .i64 r2, .int .i64 r3]) ∧ SL (row k37 37 (.slice Ar1 r1.length cr1) r1 :: L) w' S ∧ Keep S w w'
set_option maxHeartbeats 8000000 in
set_option maxRecDepth 100000 in
theorem zone_Add.slcalls (k : Nat) (A0 : Option Addr) (c0 : Nat) (l0 : List (S37)) (a1_0 : Int) (a1_1 : Int) (a1_2 : Int) (a1_3 : Int) (a1_4 : Int) (a1_5 : Int) (a1_6 : Int) (a1_7 : Int) (a1_8 : Int) (a1_9 : Int) (a1_10 : Int) (a1_11 : Int) (a1_12 : Int) (a1_13 : Int) (a1_14 : Int) (a1_15 : Int) (a2 : Int) (a3 : Int) (r1 : List (S37)) (r2 : Int) (r3 : Int) (S : Nat → Prop) (L : List Asr) (w : World) (hf : Fresh S w) (hs : SL (L) w S) (hr0 : RO S w (fun w_ => Kd.C k37 w_ A0 l0.length l0)) (hc0 : l0.length ≤ c0) (h : zone_Add.f k l0 a1_0 a1_1 a1_2 a1_3 a1_4 a1_5 a1_6 a1_7 a1_8 a1_9 a1_10 a1_11 a1_12 a1_13 a1_14 a1_15 a2 a3 = some (r1, r2, r3)) :
  Calls Try.prog 12 #[.slice A0 l0.length c0, .agg #[.int .i64 a1_0, .int .i64 a1_1, .int .i64 a1_2, .int .i64 a1_3, .int .i64 a1_4, .int .i64 a1_5, .int .i64 a1_6, .int .i64 a1_7, .int .i64 a1_8, .int .i64 a1_9, .int .i64 a1_10, .int .i64 a1_11, .int .i64 a1_12, .int .i64 a1_13, .int .i64 a1_14, .int .i64 a1_15], .int .i64 a2, .int .i64 a3] w (zone_Add.Post r1 r2 r3 S L w) := by
 have HR0 := Aside0.mk hr0
 have HC0 := Aside0.mk hc0
 clear hr0 hc0
 have HF := Aside0.mk hf
 have HS := Aside0.mk hs
 have HK := Aside0.mk (Keep.refl S w)
 clear hf hs
 have hu37 := Try.underlying37
 have H : (if (l0.length : Int) > 0 then ((some (wrap64 ((l0.length : Int) - 1) : Int)).bind fun j269 => (if 0 ≤ j269 then (if j269 < (l0.length : Int) then ((zone_Right.f k l0).bind fun t271 => (if t271 = true then ((zone_may.f a1_0 a1_1 a1_2 a1_3 a1_4 a1_5 a1_6 a1_7 a1_8 a1_9 a1_10 a1_11 a1_12 a1_13 a1_14 a1_15).bind fun t272 => (if t272 = true then (if a3 < 1 then (some (([] : List (S37)), 0, 1)) else (if (l0.length : Int) ≥ 32 then (some (([] : List (S37)), 0, 4)) else (if ((rd_T37 l0 j269).f0) = 9223372036854775807 then (some (([] : List (S37)), 0, 4)) else ((sat_Add.f k a2 a3).bind fun t273 => ((sat_Add.f k a2 a1_9).bind fun t274 => ((api_Zone_30.f l0).bind fun t275 => ((some (([(⟨wrap64 (((rd_T37 l0 j269).f0) + 1), (⟨a1_1, (⟨a1_2, a1_3⟩ : S31), (⟨a1_4, a1_5⟩ : S31), a1_6, a1_7⟩ : S33), t273, a1_9, t274, (⟨a1_11, a1_12, a1_13⟩ : S35), a1_14, a1_15⟩ : S37)] : List (S37)) : List (S37))).bind fun y276 => (if t275.length + y276.length < 1099511627776 then ((some (t275 ++ y276 : List (S37))).bind fun y277 => (some (y277, wrap64 (((rd_T37 l0 j269).f0) + 1), 0))) else (none))))))))) else (some (([] : List (S37)), 0, 1)))) else (some (([] : List (S37)), 0, 1)))) else (none)) else (none))) else ((zone_Right.f k l0).bind fun t280 => (if t280 = true then ((zone_may.f a1_0 a1_1 a1_2 a1_3 a1_4 a1_5 a1_6 a1_7 a1_8 a1_9 a1_10 a1_11 a1_12 a1_13 a1_14 a1_15).bind fun t281 => (if t281 = true then (if a3 < 1 then (some (([] : List (S37)), 0, 1)) else (if (l0.length : Int) ≥ 32 then (some (([] : List (S37)), 0, 4)) else ((sat_Add.f k a2 a3).bind fun t282 => ((sat_Add.f k a2 a1_9).bind fun t283 => ((api_Zone_30.f l0).bind fun t284 => ((some (([(⟨wrap64 1, (⟨a1_1, (⟨a1_2, a1_3⟩ : S31), (⟨a1_4, a1_5⟩ : S31), a1_6, a1_7⟩ : S33), t282, a1_9, t283, (⟨a1_11, a1_12, a1_13⟩ : S35), a1_14, a1_15⟩ : S37)] : List (S37)) : List (S37))).bind fun y285 => (if t284.length + y285.length < 1099511627776 then ((some (t284 ++ y285 : List (S37))).bind fun y286 => (some (y286, wrap64 1, 0))) else (none)))))))) else (some (([] : List (S37)), 0, 1)))) else (some (([] : List (S37)), 0, 1))))) = some (r1, r2, r3) := h
 clear h
 by_cases c1 : (l0.length : Int) > 0
 ·rw [if_pos c1] at H
  have c1b0 : decide (0 < (l0.length : Int)) = true := decide_eq_true c1
  have c1b1 : decide (0 < l0.length) = true := decide_eq_true (by omega)
  clear c1
  replace H := Option.bind_eq_some_iff.1 H
  obtain ⟨j269, hj2690, H⟩ := H
  try dsimp only at H
  have hj269 := Option.some.inj hj2690
  clear hj2690
  have hj269w : (IntKind.i64.wrap ((l0.length : Int) - 1)) = j269 := (i64_w _).trans hj269
  by_cases c2 : 0 ≤ j269
  ·rw [if_pos c2] at H
   have c2b0 : decide (0 ≤ j269) = true := decide_eq_true c2
   clear c2
   by_cases c3 : j269 < (l0.length : Int)
   ·rw [if_pos c3] at H
    have c3b0 : decide (j269 < (l0.length : Int)) = true := decide_eq_true c3
    clear c3
    replace H := Option.bind_eq_some_iff.1 H
    obtain ⟨t271, Hc40, H⟩ := H
    try dsimp only at H
    have Hc4 := Aside0.mk Hc40
    clear Hc40
    by_cases c5 : t271 = true
    ·subst c5
     rw [if_pos rfl] at H
     replace H := Option.bind_eq_some_iff.1 H
     obtain ⟨t272, Hc60, H⟩ := H
     try dsimp only at H
     have Hc6 := Aside0.mk Hc60
     clear Hc60
     have H' := Aside0.mk H
     clear H
     go_enter Try.func12, Try.ntmps12
     go_wp2_with (first | ((with_reducible refine gate_dst (N := 5) rfl ?_); refine wpList_plain rfl (fun K_ hK_ => ?_); refine op_box (S := S) (cs := #[.int .i64 a1_0, .int .i64 a1_1, .int .i64 a1_2, .int .i64 a1_3, .int .i64 a1_4, .int .i64 a1_5, .int .i64 a1_6, .int .i64 a1_7, .int .i64 a1_8, .int .i64 a1_9, .int .i64 a1_10, .int .i64 a1_11, .int .i64 a1_12, .int .i64 a1_13, .int .i64 a1_14, .int .i64 a1_15]) (t := 37) (HF.out.keep HK.out) HS.out (by first | (go_simp; done) | (go_simp; rfl)) ?_; intro g3000022 w7 hs_ hk_; refine hK_ _ _ ?_; clear hK_ K_; replace HS := Aside0.mk (hs_); replace HK := Aside0.mk (HK.out.trans hk_); have pq270 : 0 ≤ (j269 : Int) := of_decide_eq_true (by first | (with_reducible assumption) | assumption); have qq270 : j269 < ((l0.length : Int) : Int) := of_decide_eq_true (by first | (with_reducible assumption) | assumption); obtain ⟨adq270, eq270, hxq270_0, hxq270_1, hxq270_2, hxq270_3, hxq270_4, hxq270_5, hxq270_6, hxq270_7, hxq270_8, hxq270_9, hxq270_10, hxq270_11, hxq270_12, hxq270_13, hxq270_14, hxq270_15⟩ := at_T37 (RO.at_ HR0.out HK.out) j269 pq270 qq270; cases eq270; replace pq270 := eq_true pq270; replace qq270 := eq_true qq270) | ((with_reducible refine gate_dst (N := 25) rfl ?_); refine goesL_ (some 25) rfl rfl Try.func14 (by kernel_rfl) rfl #[.slice (some adq270) l0.length c0] rfl (by (try simp only [List.map_toArray, List.map_cons, List.map_nil]); first | done | rfl | (simp; done)) ?_; (with_reducible refine (zone_Right.calls k _ _ _ _ _ (RO.at_ HR0.out HK.out) HC0.out Hc4.out).mono ?_); rintro e_ w8 ⟨rfl, hb_⟩; refine ⟨_, rfl, ?_⟩; replace HS := Aside0.mk (HS.out.below hb_); replace HK := Aside0.mk (HK.out.trans (Keep.below hb_)); have hb_ := SL.at_ HS.out; have hz3000022_0_2 := ((blk_cell hb_ 0).trans rfl : _ = some (.int .i64 a1_0)); have hz3000022_1_2 := ((blk_cell hb_ 1).trans rfl : _ = some (.int .i64 a1_1)); have hz3000022_2_2 := ((blk_cell hb_ 2).trans rfl : _ = some (.int .i64 a1_2)); have hz3000022_3_2 := ((blk_cell hb_ 3).trans rfl : _ = some (.int .i64 a1_3)); have hz3000022_4_2 := ((blk_cell hb_ 4).trans rfl : _ = some (.int .i64 a1_4)); have hz3000022_5_2 := ((blk_cell hb_ 5).trans rfl : _ = some (.int .i64 a1_5)); have hz3000022_6_2 := ((blk_cell hb_ 6).trans rfl : _ = some (.int .i64 a1_6)); have hz3000022_7_2 := ((blk_cell hb_ 7).trans rfl : _ = some (.int .i64 a1_7)); have hz3000022_8_2 := ((blk_cell hb_ 8).trans rfl : _ = some (.int .i64 a1_8)); have hz3000022_9_2 := ((blk_cell hb_ 9).trans rfl : _ = some (.int .i64 a1_9)); have hz3000022_10_2 := ((blk_cell hb_ 10).trans rfl : _ = some (.int .i64 a1_10)); have hz3000022_11_2 := ((blk_cell hb_ 11).trans rfl : _ = some (.int .i64 a1_11)); have hz3000022_12_2 := ((blk_cell hb_ 12).trans rfl : _ = some (.int .i64 a1_12)); have hz3000022_13_2 := ((blk_cell hb_ 13).trans rfl : _ = some (.int .i64 a1_13)); have hz3000022_14_2 := ((blk_cell hb_ 14).trans rfl : _ = some (.int .i64 a1_14)); have hz3000022_15_2 := ((blk_cell hb_ 15).trans rfl : _ = some (.int .i64 a1_15)); clear hb_) | ((with_reducible refine gate_dst (N := 27) rfl ?_); refine wpList_loadA rfl 37 (.tmp 5) rfl _ rfl [.int .i64 a1_0, .int .i64 a1_1, .int .i64 a1_2, .int .i64 a1_3, .int .i64 a1_4, .int .i64 a1_5, .int .i64 a1_6, .int .i64 a1_7, .int .i64 a1_8, .int .i64 a1_9, .int .i64 a1_10, .int .i64 a1_11, .int .i64 a1_12, .int .i64 a1_13, .int .i64 a1_14, .int .i64 a1_15] _ (cells_at (SL.at_ HS.out) 0 _ rfl) Try.underlying37 rfl (by kernel_rfl) ?_) | ((with_reducible refine gate_dst (N := 28) rfl ?_); refine goesL_ (some 28) rfl rfl Try.func29 (by kernel_rfl) rfl #[.agg #[.int .i64 a1_0, .int .i64 a1_1, .int .i64 a1_2, .int .i64 a1_3, .int .i64 a1_4, .int .i64 a1_5, .int .i64 a1_6, .int .i64 a1_7, .int .i64 a1_8, .int .i64 a1_9, .int .i64 a1_10, .int .i64 a1_11, .int .i64 a1_12, .int .i64 a1_13, .int .i64 a1_14, .int .i64 a1_15]] rfl (by (try simp only [List.map_toArray, List.map_cons, List.map_nil]); first | done | rfl | (simp; done)) ?_; (with_reducible refine (zone_may.calls _ _ _ _ _ _ _ _ _ _ _ _ _ _ _ _ _ _  Hc6.out).mono ?_); rintro e_ w9 ⟨rfl, hb_⟩; refine ⟨_, rfl, ?_⟩; replace HS := Aside0.mk (HS.out.below hb_); replace HK := Aside0.mk (HK.out.trans (Keep.below hb_)); (try clear hz3000022_0_2 hz3000022_1_2 hz3000022_2_2 hz3000022_3_2 hz3000022_4_2 hz3000022_5_2 hz3000022_6_2 hz3000022_7_2 hz3000022_8_2 hz3000022_9_2 hz3000022_10_2 hz3000022_11_2 hz3000022_12_2 hz3000022_13_2 hz3000022_14_2 hz3000022_15_2); refine stop_ ?_; intro G_ hG_))
     have H := H'.out
     clear H'
     by_cases c10 : t272 = true
     ·subst c10
      rw [if_pos rfl] at H
      by_cases c11 : a3 < 1
      ·rw [if_pos c11] at H
       have c11b0 : decide (a3 < 1) = true := decide_eq_true c11
       clear c11
       simp only [Option.some.injEq, Prod.mk.injEq] at H
       obtain ⟨rfl, rfl, rfl⟩ := H
       have n2_ := Aside0.mk (SL.nil_row k37 37 HS.out)
       clear HS
       have HS := n2_
       clear n2_
       refine hG_.out ?_
       try simp only [c11b0]
       go_wp2
       go_ret3
       replace HS := Aside0.mk (SL.tail (SL.get1 HS.out))
       unfold zone_Add.Post
       exact ⟨none, 0, by first | rfl | (simp; done) | (simp [*]; done) | (simp at c11b0 ⊢; first | exact c11b0 | (simp [c11b0]; done)), HS.out, HK.out⟩
      ·rw [if_neg c11] at H
       have c11b0 : decide (a3 < 1) = false := decide_eq_false c11
       clear c11
       by_cases c12 : (l0.length : Int) ≥ 32
       ·rw [if_pos c12] at H
        have c12b0 : decide (32 ≤ (l0.length : Int)) = true := decide_eq_true c12
        have c12b1 : decide (32 ≤ l0.length) = true := decide_eq_true (by omega)
        clear c12
        simp only [Option.some.injEq, Prod.mk.injEq] at H
        obtain ⟨rfl, rfl, rfl⟩ := H
        have n2_ := Aside0.mk (SL.nil_row k37 37 HS.out)
        clear HS
        have HS := n2_
        clear n2_
        refine hG_.out ?_
        try simp only [c11b0, c12b0, c12b1]
        go_wp2
        go_ret3
        replace HS := Aside0.mk (SL.tail (SL.get1 HS.out))
        unfold zone_Add.Post
        exact ⟨none, 0, by first | rfl | (simp; done) | (simp [*]; done) | (simp at c12b0 ⊢; first | exact c12b0 | (simp [c12b0]; done)), HS.out, HK.out⟩
       ·rw [if_neg c12] at H
        have c12b0 : decide (32 ≤ (l0.length : Int)) = false := decide_eq_false c12
        have c12b1 : decide (32 ≤ l0.length) = false := decide_eq_false (by omega)
        clear c12
        by_cases c13 : ((rd_T37 l0 j269).f0) = 9223372036854775807
        ·rw [if_pos c13] at H
         have c13b0 : (((rd_T37 l0 j269).f0) == 9223372036854775807) = true := beq_iff_eq.mpr c13
         have c13b1 : (((rd_T37 l0 j269).f0) != 9223372036854775807) = false := bne_eq_false_iff_eq.mpr c13
         clear c13
         simp only [Option.some.injEq, Prod.mk.injEq] at H
         obtain ⟨rfl, rfl, rfl⟩ := H
         have n2_ := Aside0.mk (SL.nil_row k37 37 HS.out)
         clear HS
         have HS := n2_
         clear n2_
         refine hG_.out ?_
         try simp only [c11b0, c12b0, c12b1, c13b0, c13b1]
         go_wp2
         go_ret3
         replace HS := Aside0.mk (SL.tail (SL.get1 HS.out))
         unfold zone_Add.Post
         exact ⟨none, 0, by first | rfl | (simp; done) | (simp [*]; done) | (simp at c13b0 ⊢; first | exact c13b0 | (simp [c13b0]; done)), HS.out, HK.out⟩
        ·rw [if_neg c13] at H
         have c13b0 : (((rd_T37 l0 j269).f0) == 9223372036854775807) = false := beq_eq_false_iff_ne.mpr c13
         have c13b1 : (((rd_T37 l0 j269).f0) != 9223372036854775807) = true := bne_iff_ne.mpr c13
         replace H := Option.bind_eq_some_iff.1 H
         obtain ⟨t273, Hc140, H⟩ := H
         try dsimp only at H
         have Hc14 := Aside0.mk Hc140
         clear Hc140
         replace H := Option.bind_eq_some_iff.1 H
         obtain ⟨t274, Hc150, H⟩ := H
         try dsimp only at H
         have Hc15 := Aside0.mk Hc150
         clear Hc150
         replace H := Option.bind_eq_some_iff.1 H
         obtain ⟨t275, Hc160, H⟩ := H
         try dsimp only at H
         have Hc16 := Aside0.mk Hc160
         clear Hc160
         replace H := Option.bind_eq_some_iff.1 H
         obtain ⟨y276, hy2760, H⟩ := H
         try dsimp only at H
         have hy276 := Option.some.inj hy2760
         clear hy2760
         have Ny276 := Aside0.mk hy276
         clear hy276
         by_cases c17 : t275.length + y276.length < 1099511627776
         ·rw [if_pos c17] at H
          have LMc17 := Aside0.mk c17
          clear c17
          replace H := Option.bind_eq_some_iff.1 H
          obtain ⟨y277, hy2770, H⟩ := H
          try dsimp only at H
          have hy277 := Option.some.inj hy2770
          clear hy2770
          have Ny277 := Aside0.mk hy277
          clear hy277
          simp only [Option.some.injEq, Prod.mk.injEq] at H
          obtain ⟨rfl, rfl, rfl⟩ := H
          refine hG_.out ?_
          try simp only [c11b0, c12b0, c12b1, c13b0, c13b1]
          try go_wp2
          refine start_ (n := 15) (S := fun w' => w'.cell? ⟨g3000022, 9, none⟩ = some (.int .i64 a1_9)) (ds := []) #[O,O,O,O,O,O,O,O,O,O,O,O,O,O,O] (by kernel_rfl) rfl rfl (bc HS.out 9 rfl) (fun hHeld => ?_); refine with_tabW zone_Add.tab12 zone_Add.bits12 (fun HT_ HW_ => ?_)
          replace HK := Aside0.mk (Keep.drew HK.out)
          replace HS := Aside0.mk (SL.drew HS.out)
          refine pure_ (i := 0) (N := some 38) (v := ?_) (a' := ?_) #[I,O,O,O,O,O,O,O,O,O,O,O,O,O,O] rfl rfl (any_of HT_.out (by kernel_rfl)) (fun _ _ _ h => h) (Or.inl ⟨by rfl, ?_⟩) ?_ ?_; rotate_left; · (intro w'; go_simp; with_reducible rfl)
          rotate_left; · (simp only [Act.put, sT, sZ, sS, i64_w, i32_w]; rfl)
          refine pure_ (i := 1) (N := some 39) (v := ?_) (a' := ?_) #[I,I,O,O,O,O,O,O,O,O,O,O,O,O,O] rfl rfl (any_of HT_.out (by kernel_rfl)) (fun _ _ _ h => h) (Or.inl ⟨by rfl, ?_⟩) ?_ ?_; rotate_left; · (intro w'; go_simp; with_reducible rfl)
          rotate_left; · (simp only [Act.put, sT, sZ, sS, i64_w, i32_w]; rfl)
          refine pure_ (i := 2) (N := some 40) (v := ?_) (a' := ?_) #[I,I,I,O,O,O,O,O,O,O,O,O,O,O,O] rfl rfl (any_of HT_.out (by kernel_rfl)) (fun _ _ _ h => h) (Or.inl ⟨by rfl, ?_⟩) ?_ ?_; rotate_left; · (intro w'; go_simp; with_reducible rfl)
          rotate_left; · (simp only [Act.put, sT, sZ, sS, i64_w, i32_w]; rfl)
          refine pure_ (i := 3) (N := some 41) (v := ?_) (a' := ?_) #[I,I,I,I,O,O,O,O,O,O,O,O,O,O,O] rfl rfl (any_of HT_.out (by kernel_rfl)) (fun _ _ _ h => h) (Or.inl ⟨by rfl, ?_⟩) ?_ ?_; rotate_left; · (intro w'; go_simp; with_reducible rfl)
          rotate_left; · (simp only [Act.put, sT, sZ, sS, i64_w, i32_w]; rfl)
          refine pure_ (i := 5) (N := some 43) (v := ?_) (a' := ?_) #[I,I,I,I,O,I,O,O,O,O,O,O,O,O,O] rfl rfl (any_of HT_.out (by kernel_rfl)) (fun _ _ _ h => h) (Or.inl ⟨by rfl, ?_⟩) ?_ ?_; rotate_left; · (intro w'; go_simp; with_reducible rfl)
          rotate_left; · (simp only [Act.put, sT, sZ, sS, i64_w, i32_w]; rfl)
          refine pure_ (i := 6) (N := some 44) (v := ?_) (a' := ?_) #[I,I,I,I,O,I,I,O,O,O,O,O,O,O,O] rfl rfl (any_of HT_.out (by kernel_rfl)) (fun _ _ _ h => h) (Or.inl ⟨by rfl, ?_⟩) ?_ ?_; rotate_left; · (intro w'; go_simp; with_reducible rfl)
          rotate_left; · (simp only [Act.put, sT, sZ, sS, i64_w, i32_w]; rfl)
          refine take_ (i := 7) (N := some 45) (v := ?_) (a' := ?_) #[I,I,I,I,O,I,I,I,O,O,O,O,O,O,O] rfl rfl (take_ofW HT_.out HW_.out (by kernel_rfl)) (fun _ _ _ h => h) (Or.inl ⟨by rfl, ?_⟩) hHeld ?_ ?_; rotate_left
          ·intro w' s0
           go_simp
           with_reducible rfl
          rotate_left; · (simp only [Act.put, sT, sZ, sS, i64_w, i32_w]; rfl)
          refine pure_ (i := 9) (N := some 47) (v := ?_) (a' := ?_) #[I,I,I,I,O,I,I,I,O,I,O,O,O,O,O] rfl rfl (any_of HT_.out (by kernel_rfl)) (fun _ _ _ h => h) (Or.inl ⟨by rfl, ?_⟩) ?_ ?_; rotate_left; · (intro w'; go_simp; with_reducible rfl)
          rotate_left; · (simp only [Act.put, sT, sZ, sS, i64_w, i32_w]; rfl)
          refine one_ (i := 4) (N := some 42) #[I,I,I,I,I,I,I,I,O,I,O,O,O,O,O] rfl rfl (one_of HT_.out (by kernel_rfl)) (by decide) (fun K hK => ?_)
          refine goes_ Try.func26 (by kernel_rfl) rfl #[.int .i64 a2, .int .i64 a3] (by rfl) rfl rfl (by (try simp only [List.map_toArray, List.map_cons, List.map_nil]); first | done | rfl | (simp; done)) ?_
          (with_reducible refine (sat_Add.calls k _ _ _ _  Hc14.out).mono ?_)
          rintro e_ w18 ⟨rfl, hb_⟩
          refine ⟨_, rfl, ?_⟩
          replace hb_ := Drawn0.below hb_
          replace HS := Aside0.mk (HS.out.below hb_)
          replace HK := Aside0.mk (HK.out.trans (Keep.below hb_))
          refine hK.out _ _ (bc HS.out 9 rfl) (fun hHeld => ?_)
          clear hK K
          refine norm_ (a' := ?_) ?_ ?_; rotate_left
          ·show Act.put _ (some 42) _ = _
           simp only [Act.put, sT, sZ, sS, i64_w, i32_w]
           rfl
          refine one_ (i := 8) (N := some 46) #[I,I,I,I,I,I,I,I,I,I,O,O,O,O,O] rfl rfl (one_of HT_.out (by kernel_rfl)) (by decide) (fun K hK => ?_)
          refine goes_ Try.func26 (by kernel_rfl) rfl #[.int .i64 a2, .int .i64 a1_9] (by rfl) rfl rfl (by (try simp only [List.map_toArray, List.map_cons, List.map_nil]); first | done | rfl | (simp; done)) ?_
          (with_reducible refine (sat_Add.calls k _ _ _ _  Hc15.out).mono ?_)
          rintro e_ w19 ⟨rfl, hb_⟩
          refine ⟨_, rfl, ?_⟩
          replace hb_ := Drawn0.below hb_
          replace HS := Aside0.mk (HS.out.below hb_)
          replace HK := Aside0.mk (HK.out.trans (Keep.below hb_))
          refine hK.out _ _ (bc HS.out 9 rfl) (fun hHeld => ?_)
          clear hK K
          refine norm_ (a' := ?_) ?_ ?_; rotate_left
          ·show Act.put _ (some 46) _ = _
           simp only [Act.put, sT, sZ, sS, i64_w, i32_w]
           rfl
          refine one_ (i := 10) (N := none) #[I,I,I,I,I,I,I,I,I,I,I,O,O,O,O] rfl rfl (one_of HT_.out (by kernel_rfl)) (by decide) (fun K hK => ?_)
          refine st_of (by rfl) ?_
          refine op_store (S := S) 3 (.tmp 47) (.tmp 39) rfl g3000022 0 (.int .i64 (wrap64 (((rd_T37 l0 j269).f0) + 1))) [.int .i64 (wrap64 (((rd_T37 l0 j269).f0) + 1))] rfl rfl rfl (by kernel_rfl) (by simp [Value.oneCell']) HS.out (by simp) ?_
          intro w20 hs_ hk_
          replace HS := Aside0.mk ((show SL (cells g3000022 37 [.int .i64 (wrap64 (((rd_T37 l0 j269).f0) + 1)), .int .i64 a1_1, .int .i64 a1_2, .int .i64 a1_3, .int .i64 a1_4, .int .i64 a1_5, .int .i64 a1_6, .int .i64 a1_7, .int .i64 a1_8, .int .i64 a1_9, .int .i64 a1_10, .int .i64 a1_11, .int .i64 a1_12, .int .i64 a1_13, .int .i64 a1_14, .int .i64 a1_15].toArray :: _) _ _ from hs_))
          replace HK := Aside0.mk (HK.out.trans hk_)
          refine hK.out _ _ (bc HS.out 9 rfl) (fun hHeld => ?_)
          clear hK K
          refine pure_ (i := 11) (N := some 48) (v := ?_) (a' := ?_) #[I,I,I,I,I,I,I,I,I,I,I,I,O,O,O] rfl rfl (any_of HT_.out (by kernel_rfl)) (fun _ _ _ h => h) (Or.inl ⟨by rfl, ?_⟩) ?_ ?_; rotate_left; · (intro w'; go_simp; with_reducible rfl)
          rotate_left; · (simp only [Act.put, sT, sZ, sS, i64_w, i32_w]; rfl)
          refine one_ (i := 12) (N := none) #[I,I,I,I,I,I,I,I,I,I,I,I,I,O,O] rfl rfl (one_of HT_.out (by kernel_rfl)) (by decide) (fun K hK => ?_)
          refine st_of (by rfl) ?_
          refine op_store (S := S) 3 (.tmp 48) (.tmp 42) rfl g3000022 8 (.int .i64 t273) [.int .i64 t273] rfl rfl rfl (by kernel_rfl) (by simp [Value.oneCell']) HS.out (by simp) ?_
          intro w21 hs_ hk_
          replace HS := Aside0.mk ((show SL (cells g3000022 37 [.int .i64 (wrap64 (((rd_T37 l0 j269).f0) + 1)), .int .i64 a1_1, .int .i64 a1_2, .int .i64 a1_3, .int .i64 a1_4, .int .i64 a1_5, .int .i64 a1_6, .int .i64 a1_7, .int .i64 t273, .int .i64 a1_9, .int .i64 a1_10, .int .i64 a1_11, .int .i64 a1_12, .int .i64 a1_13, .int .i64 a1_14, .int .i64 a1_15].toArray :: _) _ _ from hs_))
          replace HK := Aside0.mk (HK.out.trans hk_)
          refine hK.out _ _ (bc HS.out 9 rfl) (fun hHeld => ?_)
          clear hK K
          refine pure_ (i := 13) (N := some 49) (v := ?_) (a' := ?_) #[I,I,I,I,I,I,I,I,I,I,I,I,I,I,O] rfl rfl (any_of HT_.out (by kernel_rfl)) (fun _ _ _ h => h) (Or.inl ⟨by rfl, ?_⟩) ?_ ?_; rotate_left; · (intro w'; go_simp; with_reducible rfl)
          rotate_left; · (simp only [Act.put, sT, sZ, sS, i64_w, i32_w]; rfl)
          refine one_ (i := 14) (N := none) #[I,I,I,I,I,I,I,I,I,I,I,I,I,I,I] rfl rfl (one_of HT_.out (by kernel_rfl)) (by decide) (fun K hK => ?_)
          refine st_of (by rfl) ?_
          refine op_store (S := S) 3 (.tmp 49) (.tmp 46) rfl g3000022 10 (.int .i64 t274) [.int .i64 t274] rfl rfl rfl (by kernel_rfl) (by simp [Value.oneCell']) HS.out (by simp) ?_
          intro w22 hs_ hk_
          replace HS := Aside0.mk ((show SL (cells g3000022 37 [.int .i64 (wrap64 (((rd_T37 l0 j269).f0) + 1)), .int .i64 a1_1, .int .i64 a1_2, .int .i64 a1_3, .int .i64 a1_4, .int .i64 a1_5, .int .i64 a1_6, .int .i64 a1_7, .int .i64 t273, .int .i64 a1_9, .int .i64 t274, .int .i64 a1_11, .int .i64 a1_12, .int .i64 a1_13, .int .i64 a1_14, .int .i64 a1_15].toArray :: _) _ _ from hs_))
          replace HK := Aside0.mk (HK.out.trans hk_)
          refine hK.out _ _ (bc HS.out 9 rfl) (fun hHeld => ?_)
          clear hK K
          refine done_ (done_of HT_.out (by kernel_rfl)) ?_
          try go_wp2
          refine start_ (n := 10) (S := fun w' => w'.cell? ⟨g3000022, 0, none⟩ = some (.int .i64 (wrap64 (((rd_T37 l0 j269).f0) + 1))) ∧ w'.cell? ⟨g3000022, 1, none⟩ = some (.int .i64 a1_1) ∧ w'.cell? ⟨g3000022, 2, none⟩ = some (.int .i64 a1_2) ∧ w'.cell? ⟨g3000022, 3, none⟩ = some (.int .i64 a1_3) ∧ w'.cell? ⟨g3000022, 4, none⟩ = some (.int .i64 a1_4) ∧ w'.cell? ⟨g3000022, 5, none⟩ = some (.int .i64 a1_5) ∧ w'.cell? ⟨g3000022, 6, none⟩ = some (.int .i64 a1_6) ∧ w'.cell? ⟨g3000022, 7, none⟩ = some (.int .i64 a1_7) ∧ w'.cell? ⟨g3000022, 8, none⟩ = some (.int .i64 t273) ∧ w'.cell? ⟨g3000022, 9, none⟩ = some (.int .i64 a1_9) ∧ w'.cell? ⟨g3000022, 10, none⟩ = some (.int .i64 t274) ∧ w'.cell? ⟨g3000022, 11, none⟩ = some (.int .i64 a1_11) ∧ w'.cell? ⟨g3000022, 12, none⟩ = some (.int .i64 a1_12) ∧ w'.cell? ⟨g3000022, 13, none⟩ = some (.int .i64 a1_13) ∧ w'.cell? ⟨g3000022, 14, none⟩ = some (.int .i64 a1_14) ∧ w'.cell? ⟨g3000022, 15, none⟩ = some (.int .i64 a1_15)) (ds := []) #[O,O,O,O,O,O,O,O,O,O] (by kernel_rfl) rfl rfl ⟨bc HS.out 0 rfl, bc HS.out 1 rfl, bc HS.out 2 rfl, bc HS.out 3 rfl, bc HS.out 4 rfl, bc HS.out 5 rfl, bc HS.out 6 rfl, bc HS.out 7 rfl, bc HS.out 8 rfl, bc HS.out 9 rfl, bc HS.out 10 rfl, bc HS.out 11 rfl, bc HS.out 12 rfl, bc HS.out 13 rfl, bc HS.out 14 rfl, bc HS.out 15 rfl⟩ (fun hHeld => ?_); refine with_tabW zone_Add.tab13 zone_Add.bits13 (fun HT_ HW_ => ?_)
          replace HK := Aside0.mk (Keep.drew HK.out)
          replace HS := Aside0.mk (SL.drew HS.out)
          refine pure_ (i := 0) (N := some 50) (v := ?_) (a' := ?_) #[I,O,O,O,O,O,O,O,O,O] rfl rfl (any_of HT_.out (by kernel_rfl)) (fun _ _ _ h => h) (Or.inl ⟨by rfl, ?_⟩) ?_ ?_; rotate_left; · (intro w'; go_simp; with_reducible rfl)
          rotate_left; · (simp only [Act.put, sT, sZ, sS, i64_w, i32_w]; rfl)
          refine pure_ (i := 5) (N := some 55) (v := ?_) (a' := ?_) #[I,O,O,O,O,I,O,O,O,O] rfl rfl (any_of HT_.out (by kernel_rfl)) (fun _ _ _ h => h) (Or.inl ⟨by rfl, ?_⟩) ?_ ?_; rotate_left; · (intro w'; go_simp; with_reducible rfl)
          rotate_left; · (simp only [Act.put, sT, sZ, sS, i64_w, i32_w]; rfl)
          refine take_ (i := 2) (N := some 52) (v := ?_) (a' := ?_) #[I,O,I,O,O,I,O,O,O,O] rfl rfl (take_ofW HT_.out HW_.out (by kernel_rfl)) (fun _ _ _ h => h) (Or.inl ⟨by rfl, ?_⟩) hHeld ?_ ?_; rotate_left
          ·rintro w' ⟨s0, s1, s2, s3, s4, s5, s6, s7, s8, s9, s10, s11, s12, s13, s14, s15⟩
           go_simp
           with_reducible rfl
          rotate_left; · (simp only [Act.put, sT, sZ, sS, i64_w, i32_w]; rfl)
          refine take_ (i := 6) (N := some 56) (v := ?_) (a' := ?_) #[I,O,I,O,O,I,I,O,O,O] rfl rfl (take_ofW HT_.out HW_.out (by kernel_rfl)) (fun _ _ _ h => h) (Or.inl ⟨by rfl, ?_⟩) hHeld ?_ ?_; rotate_left
          ·rintro w' ⟨s0, s1, s2, s3, s4, s5, s6, s7, s8, s9, s10, s11, s12, s13, s14, s15⟩
           go_simp
           with_reducible rfl
          rotate_left; · (simp only [Act.put, sT, sZ, sS, i64_w, i32_w]; rfl)
          refine join_ (σ := Option Addr × Nat × Option Addr × Nat) 4 #[I,I,I,I,O,I,I,O,O,O] (fun s_ => [(51, .slice s_.1 t275.length s_.2.1), (53, .slice s_.2.2.1 1 s_.2.2.2)]) (fun s_ w_ => Keep S w w_ ∧ SL (row k37 37 (.slice s_.1 t275.length s_.2.1) t275 :: row k37 37 (.slice s_.2.2.1 1 s_.2.2.2) y276 :: cells g3000022 37 [.int .i64 (wrap64 (((rd_T37 l0 j269).f0) + 1)), .int .i64 a1_1, .int .i64 a1_2, .int .i64 a1_3, .int .i64 a1_4, .int .i64 a1_5, .int .i64 a1_6, .int .i64 a1_7, .int .i64 t273, .int .i64 a1_9, .int .i64 t274, .int .i64 a1_11, .int .i64 a1_12, .int .i64 a1_13, .int .i64 a1_14, .int .i64 a1_15].toArray :: L) w_ S) ?_ ?_; rotate_left
          ·intro hCont
           refine two_ (i := 1) (j := 3) (Ni := some 51) (Nj := some 53) #[I,I,I,O,O,I,I,O,O,O] #[I,O,I,I,O,I,I,O,O,O] rfl rfl rfl rfl (two_of HT_.out (by kernel_rfl)) (by decide) (by decide) (fun K hK => ?_) (fun K hK => ?_)
           ·skip
            refine goes_ Try.func30 (by kernel_rfl) rfl #[.slice (some adq270) l0.length c0] (by rfl) rfl rfl (by (try simp only [List.map_toArray, List.map_cons, List.map_nil]); first | done | rfl | (simp; done)) ?_
            (with_reducible refine (api_Zone_30.calls _ _ _ _ _ (RO.at_ HR0.out HK.out) HC0.out Hc16.out).mono ?_)
            rintro e_ w27 ⟨v3000024_, rfl, ho3000024_, hb_⟩
            refine ⟨_, rfl, ?_⟩
            have hs_ := (SL.new (HF.out.keep HK.out) HS.out hb_ (row_of_R ho3000024_)).1
            obtain ⟨Az3000024, cz3000024, e2_, _, _⟩ := SL.row_reads hs_
            subst e2_
            replace HS := Aside0.mk (hs_)
            replace HK := Aside0.mk (HK.out.trans (Keep.below hb_))
            refine hK.out _ _ ⟨bc (SL.get1 HS.out) 0 rfl, bc (SL.get1 HS.out) 1 rfl, bc (SL.get1 HS.out) 2 rfl, bc (SL.get1 HS.out) 3 rfl, bc (SL.get1 HS.out) 4 rfl, bc (SL.get1 HS.out) 5 rfl, bc (SL.get1 HS.out) 6 rfl, bc (SL.get1 HS.out) 7 rfl, bc (SL.get1 HS.out) 8 rfl, bc (SL.get1 HS.out) 9 rfl, bc (SL.get1 HS.out) 10 rfl, bc (SL.get1 HS.out) 11 rfl, bc (SL.get1 HS.out) 12 rfl, bc (SL.get1 HS.out) 13 rfl, bc (SL.get1 HS.out) 14 rfl, bc (SL.get1 HS.out) 15 rfl⟩ (fun hHeld => ?_)
            clear hK K
            refine norm_ (a' := ?_) ?_ ?_; rotate_left
            ·show Act.put _ (some 51) _ = _
             simp only [Act.put, sT, sZ, sS, i64_w, i32_w]
             rfl
            refine one_ (i := 3) (N := some 53) #[I,I,I,I,O,I,I,O,O,O] rfl rfl (one_of HT_.out (by kernel_rfl)) (by decide) (fun K hK => ?_)
            replace HS := Aside0.mk (SL.get1 HS.out)
            refine st_of (by rfl) ?_
            refine op_rowF (S := S) (d := k37) ⟨fun h_ => h_⟩ 37 y276 #[.int .i64 (wrap64 (((rd_T37 l0 j269).f0) + 1)), .int .i64 a1_1, .int .i64 a1_2, .int .i64 a1_3, .int .i64 a1_4, .int .i64 a1_5, .int .i64 a1_6, .int .i64 a1_7, .int .i64 t273, .int .i64 a1_9, .int .i64 t274, .int .i64 a1_11, .int .i64 a1_12, .int .i64 a1_13, .int .i64 a1_14, .int .i64 a1_15] 1 (by rw [← Ny276.out]; exact reps_cons (k37_mkM _ 0 _ (⟨wrap64 (((rd_T37 l0 j269).f0) + 1), (⟨a1_1, (⟨a1_2, a1_3⟩ : S31), (⟨a1_4, a1_5⟩ : S31), a1_6, a1_7⟩ : S33), t273, a1_9, t274, (⟨a1_11, a1_12, a1_13⟩ : S35), a1_14, a1_15⟩ : S37)) rfl (Reps.none _ _)) (by rw [← Ny276.out]; rfl) (by decide) (HF.out.keep HK.out) HS.out (by first | (go_simp; done) | (go_simp; rfl)) ?_
            intro Az3000025 cz3000025 w28 hs_ hk_
            replace HS := Aside0.mk ((show SL (row k37 37 (.slice Az3000025 1 cz3000025) y276 :: _) _ _ from hs_))
            replace HK := Aside0.mk (HK.out.trans hk_)
            refine hK.out _ _ ⟨bc (SL.get1 HS.out) 0 rfl, bc (SL.get1 HS.out) 1 rfl, bc (SL.get1 HS.out) 2 rfl, bc (SL.get1 HS.out) 3 rfl, bc (SL.get1 HS.out) 4 rfl, bc (SL.get1 HS.out) 5 rfl, bc (SL.get1 HS.out) 6 rfl, bc (SL.get1 HS.out) 7 rfl, bc (SL.get1 HS.out) 8 rfl, bc (SL.get1 HS.out) 9 rfl, bc (SL.get1 HS.out) 10 rfl, bc (SL.get1 HS.out) 11 rfl, bc (SL.get1 HS.out) 12 rfl, bc (SL.get1 HS.out) 13 rfl, bc (SL.get1 HS.out) 14 rfl, bc (SL.get1 HS.out) 15 rfl⟩ (fun hHeld => ?_)
            clear hK K
            refine norm_ (a' := ?_) ?_ ?_; rotate_left
            ·show Act.put _ (some 53) _ = _
             simp only [Act.put, sT, sZ, sS, i64_w, i32_w]
             rfl
            exact norm_ (by simp only [putAll, Act.put, sT, sZ, sS]) (hCont (Az3000024, cz3000024, Az3000025, cz3000025) _ ⟨HK.out, (SL.get2 (SL.get1 (SL.get1 HS.out)))⟩)
           ·skip
            refine st_of (by rfl) ?_
            refine op_rowF (S := S) (d := k37) ⟨fun h_ => h_⟩ 37 y276 #[.int .i64 (wrap64 (((rd_T37 l0 j269).f0) + 1)), .int .i64 a1_1, .int .i64 a1_2, .int .i64 a1_3, .int .i64 a1_4, .int .i64 a1_5, .int .i64 a1_6, .int .i64 a1_7, .int .i64 t273, .int .i64 a1_9, .int .i64 t274, .int .i64 a1_11, .int .i64 a1_12, .int .i64 a1_13, .int .i64 a1_14, .int .i64 a1_15] 1 (by rw [← Ny276.out]; exact reps_cons (k37_mkM _ 0 _ (⟨wrap64 (((rd_T37 l0 j269).f0) + 1), (⟨a1_1, (⟨a1_2, a1_3⟩ : S31), (⟨a1_4, a1_5⟩ : S31), a1_6, a1_7⟩ : S33), t273, a1_9, t274, (⟨a1_11, a1_12, a1_13⟩ : S35), a1_14, a1_15⟩ : S37)) rfl (Reps.none _ _)) (by rw [← Ny276.out]; rfl) (by decide) (HF.out.keep HK.out) HS.out (by first | (go_simp; done) | (go_simp; rfl)) ?_
            intro Az3000025 cz3000025 w29 hs_ hk_
            replace HS := Aside0.mk ((show SL (row k37 37 (.slice Az3000025 1 cz3000025) y276 :: _) _ _ from hs_))
            replace HK := Aside0.mk (HK.out.trans hk_)
            refine hK.out _ _ ⟨bc (SL.get1 HS.out) 0 rfl, bc (SL.get1 HS.out) 1 rfl, bc (SL.get1 HS.out) 2 rfl, bc (SL.get1 HS.out) 3 rfl, bc (SL.get1 HS.out) 4 rfl, bc (SL.get1 HS.out) 5 rfl, bc (SL.get1 HS.out) 6 rfl, bc (SL.get1 HS.out) 7 rfl, bc (SL.get1 HS.out) 8 rfl, bc (SL.get1 HS.out) 9 rfl, bc (SL.get1 HS.out) 10 rfl, bc (SL.get1 HS.out) 11 rfl, bc (SL.get1 HS.out) 12 rfl, bc (SL.get1 HS.out) 13 rfl, bc (SL.get1 HS.out) 14 rfl, bc (SL.get1 HS.out) 15 rfl⟩ (fun hHeld => ?_)
            clear hK K
            refine norm_ (a' := ?_) ?_ ?_; rotate_left
            ·show Act.put _ (some 53) _ = _
             simp only [Act.put, sT, sZ, sS, i64_w, i32_w]
             rfl
            refine one_ (i := 1) (N := some 51) #[I,I,I,I,O,I,I,O,O,O] rfl rfl (one_of HT_.out (by kernel_rfl)) (by decide) (fun K hK => ?_)
            replace HS := Aside0.mk (SL.get1 HS.out)
            refine goes_ Try.func30 (by kernel_rfl) rfl #[.slice (some adq270) l0.length c0] (by rfl) rfl rfl (by (try simp only [List.map_toArray, List.map_cons, List.map_nil]); first | done | rfl | (simp; done)) ?_
            (with_reducible refine (api_Zone_30.calls _ _ _ _ _ (RO.at_ HR0.out HK.out) HC0.out Hc16.out).mono ?_)
            rintro e_ w30 ⟨v3000024_, rfl, ho3000024_, hb_⟩
            refine ⟨_, rfl, ?_⟩
            have hs_ := (SL.new (HF.out.keep HK.out) HS.out hb_ (row_of_R ho3000024_)).1
            obtain ⟨Az3000024, cz3000024, e2_, _, _⟩ := SL.row_reads hs_
            subst e2_
            replace HS := Aside0.mk (hs_)
            replace HK := Aside0.mk (HK.out.trans (Keep.below hb_))
            refine hK.out _ _ ⟨bc (SL.get1 HS.out) 0 rfl, bc (SL.get1 HS.out) 1 rfl, bc (SL.get1 HS.out) 2 rfl, bc (SL.get1 HS.out) 3 rfl, bc (SL.get1 HS.out) 4 rfl, bc (SL.get1 HS.out) 5 rfl, bc (SL.get1 HS.out) 6 rfl, bc (SL.get1 HS.out) 7 rfl, bc (SL.get1 HS.out) 8 rfl, bc (SL.get1 HS.out) 9 rfl, bc (SL.get1 HS.out) 10 rfl, bc (SL.get1 HS.out) 11 rfl, bc (SL.get1 HS.out) 12 rfl, bc (SL.get1 HS.out) 13 rfl, bc (SL.get1 HS.out) 14 rfl, bc (SL.get1 HS.out) 15 rfl⟩ (fun hHeld => ?_)
            clear hK K
            refine norm_ (a' := ?_) ?_ ?_; rotate_left
            ·show Act.put _ (some 51) _ = _
             simp only [Act.put, sT, sZ, sS, i64_w, i32_w]
             rfl
            exact norm_ (by simp only [putAll, Act.put, sT, sZ, sS]) (hCont (Az3000024, cz3000024, Az3000025, cz3000025) _ ⟨HK.out, (SL.get2 (SL.get2 (SL.get1 HS.out)))⟩)
          rintro ⟨Az3000024, cz3000024, Az3000025, cz3000025⟩ w26 ⟨hk_, hs_⟩
          clear HK HS
          have HK := Aside0.mk hk_
          have HS := Aside0.mk hs_
          clear hk_ hs_
          have hHeld := (⟨bc (SL.get2 HS.out) 0 rfl, bc (SL.get2 HS.out) 1 rfl, bc (SL.get2 HS.out) 2 rfl, bc (SL.get2 HS.out) 3 rfl, bc (SL.get2 HS.out) 4 rfl, bc (SL.get2 HS.out) 5 rfl, bc (SL.get2 HS.out) 6 rfl, bc (SL.get2 HS.out) 7 rfl, bc (SL.get2 HS.out) 8 rfl, bc (SL.get2 HS.out) 9 rfl, bc (SL.get2 HS.out) 10 rfl, bc (SL.get2 HS.out) 11 rfl, bc (SL.get2 HS.out) 12 rfl, bc (SL.get2 HS.out) 13 rfl, bc (SL.get2 HS.out) 14 rfl, bc (SL.get2 HS.out) 15 rfl⟩ : w26.cell? ⟨g3000022, 0, none⟩ = some (.int .i64 (wrap64 (((rd_T37 l0 j269).f0) + 1))) ∧ w26.cell? ⟨g3000022, 1, none⟩ = some (.int .i64 a1_1) ∧ w26.cell? ⟨g3000022, 2, none⟩ = some (.int .i64 a1_2) ∧ w26.cell? ⟨g3000022, 3, none⟩ = some (.int .i64 a1_3) ∧ w26.cell? ⟨g3000022, 4, none⟩ = some (.int .i64 a1_4) ∧ w26.cell? ⟨g3000022, 5, none⟩ = some (.int .i64 a1_5) ∧ w26.cell? ⟨g3000022, 6, none⟩ = some (.int .i64 a1_6) ∧ w26.cell? ⟨g3000022, 7, none⟩ = some (.int .i64 a1_7) ∧ w26.cell? ⟨g3000022, 8, none⟩ = some (.int .i64 t273) ∧ w26.cell? ⟨g3000022, 9, none⟩ = some (.int .i64 a1_9) ∧ w26.cell? ⟨g3000022, 10, none⟩ = some (.int .i64 t274) ∧ w26.cell? ⟨g3000022, 11, none⟩ = some (.int .i64 a1_11) ∧ w26.cell? ⟨g3000022, 12, none⟩ = some (.int .i64 a1_12) ∧ w26.cell? ⟨g3000022, 13, none⟩ = some (.int .i64 a1_13) ∧ w26.cell? ⟨g3000022, 14, none⟩ = some (.int .i64 a1_14) ∧ w26.cell? ⟨g3000022, 15, none⟩ = some (.int .i64 a1_15))
          replace HS := Aside0.mk (SL.get2 (SL.get1 (SL.get2 HS.out)))
          refine norm_ (a' := ?_) ?_ ?_; rotate_left; · (simp only [putAll, Act.put, sT, sZ, sS]; rfl)
          refine one_ (i := 4) (N := some 54) #[I,I,I,I,I,I,I,O,O,O] rfl rfl (one_of HT_.out (by kernel_rfl)) (by decide) (fun K hK => ?_)
          refine st_of (by rfl) ?_
          refine op_appendF (S := S) (d := k37) ⟨fun h_ => h_⟩ (.tmp 51) (.tmp 53) 22 37 (.agg #[(.int .i64 0), (.int .i64 0), (.int .i64 0), (.int .i64 0), (.int .i64 0), (.int .i64 0), (.int .i64 0), (.int .i64 0), (.int .i64 0), (.int .i64 0), (.int .i64 0), (.int .i64 0), (.int .i64 0), (.int .i64 0), (.int .i64 0), (.int .i64 0)]) 128 rfl Try.underlying22 info37 rfl (by decide) (by decide) (.slice Az3000024 t275.length cz3000024) rfl rfl (HF.out.keep HK.out) (SL.get1 HS.out) (SL.row_c HS.out).2.2 (by have := LMc17.out; have e_ := (SL.row_c HS.out).1; omega) y277 Ny277.out ?_
          intro A278 c279 w25 hs_ hk_
          replace HS := Aside0.mk ((SL.back1 (show SL (row k37 37 (.slice A278 y277.length c279) y277 :: _) _ _ from hs_)))
          replace HK := Aside0.mk (HK.out.trans hk_)
          refine hK.out _ _ ⟨bc (SL.get2 HS.out) 0 rfl, bc (SL.get2 HS.out) 1 rfl, bc (SL.get2 HS.out) 2 rfl, bc (SL.get2 HS.out) 3 rfl, bc (SL.get2 HS.out) 4 rfl, bc (SL.get2 HS.out) 5 rfl, bc (SL.get2 HS.out) 6 rfl, bc (SL.get2 HS.out) 7 rfl, bc (SL.get2 HS.out) 8 rfl, bc (SL.get2 HS.out) 9 rfl, bc (SL.get2 HS.out) 10 rfl, bc (SL.get2 HS.out) 11 rfl, bc (SL.get2 HS.out) 12 rfl, bc (SL.get2 HS.out) 13 rfl, bc (SL.get2 HS.out) 14 rfl, bc (SL.get2 HS.out) 15 rfl⟩ (fun hHeld => ?_)
          clear hK K
          refine norm_ (a' := ?_) ?_ ?_; rotate_left
          ·show Act.put _ (some 54) _ = _
           simp only [Act.put, sT, sZ, sS, i64_w, i32_w]
           rfl
          refine pure_ (i := 7) (N := some 8) (v := ?_) (a' := ?_) #[I,I,I,I,I,I,I,I,O,O] rfl rfl (any_of HT_.out (by kernel_rfl)) (fun _ _ _ h => h) (Or.inl ⟨by rfl, ?_⟩) ?_ ?_; rotate_left; · (intro w'; go_simp; with_reducible rfl)
          rotate_left; · (simp only [Act.put, sT, sZ, sS, i64_w, i32_w]; rfl)
          refine pure_ (i := 8) (N := some 9) (v := ?_) (a' := ?_) #[I,I,I,I,I,I,I,I,I,O] rfl rfl (any_of HT_.out (by kernel_rfl)) (fun _ _ _ h => h) (Or.inl ⟨by rfl, ?_⟩) ?_ ?_; rotate_left; · (intro w'; go_simp; with_reducible rfl)
          rotate_left; · (simp only [Act.put, sT, sZ, sS, i64_w, i32_w]; rfl)
          refine pure_ (i := 9) (N := some 10) (v := ?_) (a' := ?_) #[I,I,I,I,I,I,I,I,I,I] rfl rfl (any_of HT_.out (by kernel_rfl)) (fun _ _ _ h => h) (Or.inl ⟨by rfl, ?_⟩) ?_ ?_; rotate_left; · (intro w'; go_simp; with_reducible rfl)
          rotate_left; · (simp only [Act.put, sT, sZ, sS, i64_w, i32_w]; rfl)
          refine done_ (done_of HT_.out (by kernel_rfl)) ?_
          try go_wp2
          go_ret3
          replace HS := Aside0.mk (SL.tail (SL.get1 (SL.tail HS.out)))
          unfold zone_Add.Post
          exact ⟨A278, c279, by first | rfl | (simp; done) | (simp [*]; done) | (simp at c17b0 ⊢; first | exact c17b0 | (simp [c17b0]; done)), HS.out, HK.out⟩
         ·rw [if_neg c17] at H
          exact absurd H (by simp)
     ·replace c10 := Bool.eq_false_iff.mpr c10
      subst c10
      rw [if_neg (show ¬ (false = true) by decide)] at H
      simp only [Option.some.injEq, Prod.mk.injEq] at H
      obtain ⟨rfl, rfl, rfl⟩ := H
      have n2_ := Aside0.mk (SL.nil_row k37 37 HS.out)
      clear HS
      have HS := n2_
      clear n2_
      refine hG_.out ?_
      go_wp2
      go_ret3
      replace HS := Aside0.mk (SL.tail (SL.get1 HS.out))
      unfold zone_Add.Post
      exact ⟨none, 0, by first | rfl | (simp; done) | (simp [*]; done) | (simp at c3b0 ⊢; first | exact c3b0 | (simp [c3b0]; done)), HS.out, HK.out⟩
    ·replace c5 := Bool.eq_false_iff.mpr c5
     subst c5
     rw [if_neg (show ¬ (false = true) by decide)] at H
     simp only [Option.some.injEq, Prod.mk.injEq] at H
     obtain ⟨rfl, rfl, rfl⟩ := H
     go_enter Try.func12, Try.ntmps12
     go_wp2_with (first | ((with_reducible refine gate_dst (N := 5) rfl ?_); refine wpList_plain rfl (fun K_ hK_ => ?_); refine op_box (S := S) (cs := #[.int .i64 a1_0, .int .i64 a1_1, .int .i64 a1_2, .int .i64 a1_3, .int .i64 a1_4, .int .i64 a1_5, .int .i64 a1_6, .int .i64 a1_7, .int .i64 a1_8, .int .i64 a1_9, .int .i64 a1_10, .int .i64 a1_11, .int .i64 a1_12, .int .i64 a1_13, .int .i64 a1_14, .int .i64 a1_15]) (t := 37) (HF.out.keep HK.out) HS.out (by first | (go_simp; done) | (go_simp; rfl)) ?_; intro g3000022 w31 hs_ hk_; refine hK_ _ _ ?_; clear hK_ K_; replace HS := Aside0.mk (hs_); replace HK := Aside0.mk (HK.out.trans hk_); have pq270 : 0 ≤ (j269 : Int) := of_decide_eq_true (by first | (with_reducible assumption) | assumption); have qq270 : j269 < ((l0.length : Int) : Int) := of_decide_eq_true (by first | (with_reducible assumption) | assumption); obtain ⟨adq270, eq270, hxq270_0, hxq270_1, hxq270_2, hxq270_3, hxq270_4, hxq270_5, hxq270_6, hxq270_7, hxq270_8, hxq270_9, hxq270_10, hxq270_11, hxq270_12, hxq270_13, hxq270_14, hxq270_15⟩ := at_T37 (RO.at_ HR0.out HK.out) j269 pq270 qq270; cases eq270; replace pq270 := eq_true pq270; replace qq270 := eq_true qq270) | ((with_reducible refine gate_dst (N := 25) rfl ?_); refine goesL_ (some 25) rfl rfl Try.func14 (by kernel_rfl) rfl #[.slice (some adq270) l0.length c0] rfl (by (try simp only [List.map_toArray, List.map_cons, List.map_nil]); first | done | rfl | (simp; done)) ?_; (with_reducible refine (zone_Right.calls k _ _ _ _ _ (RO.at_ HR0.out HK.out) HC0.out Hc4.out).mono ?_); rintro e_ w32 ⟨rfl, hb_⟩; refine ⟨_, rfl, ?_⟩; replace HS := Aside0.mk (HS.out.below hb_); replace HK := Aside0.mk (HK.out.trans (Keep.below hb_)); have n2_ := Aside0.mk (SL.nil_row k37 37 HS.out); clear HS; have HS := n2_; clear n2_))
     go_ret3
     replace HS := Aside0.mk (SL.tail (SL.get1 HS.out))
     unfold zone_Add.Post
     exact ⟨none, 0, by first | rfl | (simp; done) | (simp [*]; done) | (simp at c3b0 ⊢; first | exact c3b0 | (simp [c3b0]; done)), HS.out, HK.out⟩
   ·rw [if_neg c3] at H
    exact absurd H (by simp)
  ·rw [if_neg c2] at H
   exact absurd H (by simp)
 ·rw [if_neg c1] at H
  have c1b0 : decide (0 < (l0.length : Int)) = false := decide_eq_false c1
  have c1b1 : decide (0 < l0.length) = false := decide_eq_false (by omega)
  clear c1
  replace H := Option.bind_eq_some_iff.1 H
  obtain ⟨t280, Hc330, H⟩ := H
  try dsimp only at H
  have Hc33 := Aside0.mk Hc330
  clear Hc330
  by_cases c34 : t280 = true
  ·subst c34
   rw [if_pos rfl] at H
   replace H := Option.bind_eq_some_iff.1 H
   obtain ⟨t281, Hc350, H⟩ := H
   try dsimp only at H
   have Hc35 := Aside0.mk Hc350
   clear Hc350
   have H' := Aside0.mk H
   clear H
   go_enter Try.func12, Try.ntmps12
   go_wp2_with (first | ((with_reducible refine gate_dst (N := 5) rfl ?_); refine wpList_plain rfl (fun K_ hK_ => ?_); refine op_box (S := S) (cs := #[.int .i64 a1_0, .int .i64 a1_1, .int .i64 a1_2, .int .i64 a1_3, .int .i64 a1_4, .int .i64 a1_5, .int .i64 a1_6, .int .i64 a1_7, .int .i64 a1_8, .int .i64 a1_9, .int .i64 a1_10, .int .i64 a1_11, .int .i64 a1_12, .int .i64 a1_13, .int .i64 a1_14, .int .i64 a1_15]) (t := 37) (HF.out.keep HK.out) HS.out (by first | (go_simp; done) | (go_simp; rfl)) ?_; intro g3000022 w36 hs_ hk_; refine hK_ _ _ ?_; clear hK_ K_; replace HS := Aside0.mk (hs_); replace HK := Aside0.mk (HK.out.trans hk_)) | ((with_reducible refine gate_dst (N := 25) rfl ?_); refine goesL_ (some 25) rfl rfl Try.func14 (by kernel_rfl) rfl #[.slice A0 l0.length c0] rfl (by (try simp only [List.map_toArray, List.map_cons, List.map_nil]); first | done | rfl | (simp; done)) ?_; (with_reducible refine (zone_Right.calls k _ _ _ _ _ (RO.at_ HR0.out HK.out) HC0.out Hc33.out).mono ?_); rintro e_ w37 ⟨rfl, hb_⟩; refine ⟨_, rfl, ?_⟩; replace HS := Aside0.mk (HS.out.below hb_); replace HK := Aside0.mk (HK.out.trans (Keep.below hb_)); have hb_ := SL.at_ HS.out; have hz3000022_0_2 := ((blk_cell hb_ 0).trans rfl : _ = some (.int .i64 a1_0)); have hz3000022_1_2 := ((blk_cell hb_ 1).trans rfl : _ = some (.int .i64 a1_1)); have hz3000022_2_2 := ((blk_cell hb_ 2).trans rfl : _ = some (.int .i64 a1_2)); have hz3000022_3_2 := ((blk_cell hb_ 3).trans rfl : _ = some (.int .i64 a1_3)); have hz3000022_4_2 := ((blk_cell hb_ 4).trans rfl : _ = some (.int .i64 a1_4)); have hz3000022_5_2 := ((blk_cell hb_ 5).trans rfl : _ = some (.int .i64 a1_5)); have hz3000022_6_2 := ((blk_cell hb_ 6).trans rfl : _ = some (.int .i64 a1_6)); have hz3000022_7_2 := ((blk_cell hb_ 7).trans rfl : _ = some (.int .i64 a1_7)); have hz3000022_8_2 := ((blk_cell hb_ 8).trans rfl : _ = some (.int .i64 a1_8)); have hz3000022_9_2 := ((blk_cell hb_ 9).trans rfl : _ = some (.int .i64 a1_9)); have hz3000022_10_2 := ((blk_cell hb_ 10).trans rfl : _ = some (.int .i64 a1_10)); have hz3000022_11_2 := ((blk_cell hb_ 11).trans rfl : _ = some (.int .i64 a1_11)); have hz3000022_12_2 := ((blk_cell hb_ 12).trans rfl : _ = some (.int .i64 a1_12)); have hz3000022_13_2 := ((blk_cell hb_ 13).trans rfl : _ = some (.int .i64 a1_13)); have hz3000022_14_2 := ((blk_cell hb_ 14).trans rfl : _ = some (.int .i64 a1_14)); have hz3000022_15_2 := ((blk_cell hb_ 15).trans rfl : _ = some (.int .i64 a1_15)); clear hb_) | ((with_reducible refine gate_dst (N := 27) rfl ?_); refine wpList_loadA rfl 37 (.tmp 5) rfl _ rfl [.int .i64 a1_0, .int .i64 a1_1, .int .i64 a1_2, .int .i64 a1_3, .int .i64 a1_4, .int .i64 a1_5, .int .i64 a1_6, .int .i64 a1_7, .int .i64 a1_8, .int .i64 a1_9, .int .i64 a1_10, .int .i64 a1_11, .int .i64 a1_12, .int .i64 a1_13, .int .i64 a1_14, .int .i64 a1_15] _ (cells_at (SL.at_ HS.out) 0 _ rfl) Try.underlying37 rfl (by kernel_rfl) ?_) | ((with_reducible refine gate_dst (N := 28) rfl ?_); refine goesL_ (some 28) rfl rfl Try.func29 (by kernel_rfl) rfl #[.agg #[.int .i64 a1_0, .int .i64 a1_1, .int .i64 a1_2, .int .i64 a1_3, .int .i64 a1_4, .int .i64 a1_5, .int .i64 a1_6, .int .i64 a1_7, .int .i64 a1_8, .int .i64 a1_9, .int .i64 a1_10, .int .i64 a1_11, .int .i64 a1_12, .int .i64 a1_13, .int .i64 a1_14, .int .i64 a1_15]] rfl (by (try simp only [List.map_toArray, List.map_cons, List.map_nil]); first | done | rfl | (simp; done)) ?_; (with_reducible refine (zone_may.calls _ _ _ _ _ _ _ _ _ _ _ _ _ _ _ _ _ _  Hc35.out).mono ?_); rintro e_ w38 ⟨rfl, hb_⟩; refine ⟨_, rfl, ?_⟩; replace HS := Aside0.mk (HS.out.below hb_); replace HK := Aside0.mk (HK.out.trans (Keep.below hb_)); (try clear hz3000022_0_2 hz3000022_1_2 hz3000022_2_2 hz3000022_3_2 hz3000022_4_2 hz3000022_5_2 hz3000022_6_2 hz3000022_7_2 hz3000022_8_2 hz3000022_9_2 hz3000022_10_2 hz3000022_11_2 hz3000022_12_2 hz3000022_13_2 hz3000022_14_2 hz3000022_15_2); refine stop_ ?_; intro G_ hG_))
   have H := H'.out
   clear H'
   by_cases c39 : t281 = true
   ·subst c39
    rw [if_pos rfl] at H
    by_cases c40 : a3 < 1
    ·rw [if_pos c40] at H
     have c40b0 : decide (a3 < 1) = true := decide_eq_true c40
     clear c40
     simp only [Option.some.injEq, Prod.mk.injEq] at H
     obtain ⟨rfl, rfl, rfl⟩ := H
     have n2_ := Aside0.mk (SL.nil_row k37 37 HS.out)
     clear HS
     have HS := n2_
     clear n2_
     refine hG_.out ?_
     try simp only [c40b0]
     go_wp2
     go_ret3
     replace HS := Aside0.mk (SL.tail (SL.get1 HS.out))
     unfold zone_Add.Post
     exact ⟨none, 0, by first | rfl | (simp; done) | (simp [*]; done) | (simp at c40b0 ⊢; first | exact c40b0 | (simp [c40b0]; done)), HS.out, HK.out⟩
    ·rw [if_neg c40] at H
     have c40b0 : decide (a3 < 1) = false := decide_eq_false c40
     clear c40
     by_cases c41 : (l0.length : Int) ≥ 32
     ·rw [if_pos c41] at H
      have c41b0 : decide (32 ≤ (l0.length : Int)) = true := decide_eq_true c41
      have c41b1 : decide (32 ≤ l0.length) = true := decide_eq_true (by omega)
      clear c41
      simp only [Option.some.injEq, Prod.mk.injEq] at H
      obtain ⟨rfl, rfl, rfl⟩ := H
      have n2_ := Aside0.mk (SL.nil_row k37 37 HS.out)
      clear HS
      have HS := n2_
      clear n2_
      refine hG_.out ?_
      try simp only [c40b0, c41b0, c41b1]
      go_wp2
      go_ret3
      replace HS := Aside0.mk (SL.tail (SL.get1 HS.out))
      unfold zone_Add.Post
      exact ⟨none, 0, by first | rfl | (simp; done) | (simp [*]; done) | (simp at c41b0 ⊢; first | exact c41b0 | (simp [c41b0]; done)), HS.out, HK.out⟩
     ·rw [if_neg c41] at H
      have c41b0 : decide (32 ≤ (l0.length : Int)) = false := decide_eq_false c41
      have c41b1 : decide (32 ≤ l0.length) = false := decide_eq_false (by omega)
      clear c41
      replace H := Option.bind_eq_some_iff.1 H
      obtain ⟨t282, Hc420, H⟩ := H
      try dsimp only at H
      have Hc42 := Aside0.mk Hc420
      clear Hc420
      replace H := Option.bind_eq_some_iff.1 H
      obtain ⟨t283, Hc430, H⟩ := H
      try dsimp only at H
      have Hc43 := Aside0.mk Hc430
      clear Hc430
      replace H := Option.bind_eq_some_iff.1 H
      obtain ⟨t284, Hc440, H⟩ := H
      try dsimp only at H
      have Hc44 := Aside0.mk Hc440
      clear Hc440
      replace H := Option.bind_eq_some_iff.1 H
      obtain ⟨y285, hy2850, H⟩ := H
      try dsimp only at H
      have hy285 := Option.some.inj hy2850
      clear hy2850
      have Ny285 := Aside0.mk hy285
      clear hy285
      by_cases c45 : t284.length + y285.length < 1099511627776
      ·rw [if_pos c45] at H
       have LMc45 := Aside0.mk c45
       clear c45
       replace H := Option.bind_eq_some_iff.1 H
       obtain ⟨y286, hy2860, H⟩ := H
       try dsimp only at H
       have hy286 := Option.some.inj hy2860
       clear hy2860
       have Ny286 := Aside0.mk hy286
       clear hy286
       simp only [Option.some.injEq, Prod.mk.injEq] at H
       obtain ⟨rfl, rfl, rfl⟩ := H
       refine hG_.out ?_
       try simp only [c40b0, c41b0, c41b1]
       try go_wp2
       refine start_ (n := 15) (S := fun w' => w'.cell? ⟨g3000022, 9, none⟩ = some (.int .i64 a1_9)) (ds := []) #[O,O,O,O,O,O,O,O,O,O,O,O,O,O,O] (by kernel_rfl) rfl rfl (bc HS.out 9 rfl) (fun hHeld => ?_); refine with_tabW zone_Add.tab12 zone_Add.bits12 (fun HT_ HW_ => ?_)
       replace HK := Aside0.mk (Keep.drew HK.out)
       replace HS := Aside0.mk (SL.drew HS.out)
       refine pure_ (i := 0) (N := some 38) (v := ?_) (a' := ?_) #[I,O,O,O,O,O,O,O,O,O,O,O,O,O,O] rfl rfl (any_of HT_.out (by kernel_rfl)) (fun _ _ _ h => h) (Or.inl ⟨by rfl, ?_⟩) ?_ ?_; rotate_left; · (intro w'; go_simp; with_reducible rfl)
       rotate_left; · (simp only [Act.put, sT, sZ, sS, i64_w, i32_w]; rfl)
       refine pure_ (i := 1) (N := some 39) (v := ?_) (a' := ?_) #[I,I,O,O,O,O,O,O,O,O,O,O,O,O,O] rfl rfl (any_of HT_.out (by kernel_rfl)) (fun _ _ _ h => h) (Or.inl ⟨by rfl, ?_⟩) ?_ ?_; rotate_left; · (intro w'; go_simp; with_reducible rfl)
       rotate_left; · (simp only [Act.put, sT, sZ, sS, i64_w, i32_w]; rfl)
       refine pure_ (i := 2) (N := some 40) (v := ?_) (a' := ?_) #[I,I,I,O,O,O,O,O,O,O,O,O,O,O,O] rfl rfl (any_of HT_.out (by kernel_rfl)) (fun _ _ _ h => h) (Or.inl ⟨by rfl, ?_⟩) ?_ ?_; rotate_left; · (intro w'; go_simp; with_reducible rfl)
       rotate_left; · (simp only [Act.put, sT, sZ, sS, i64_w, i32_w]; rfl)
       refine pure_ (i := 3) (N := some 41) (v := ?_) (a' := ?_) #[I,I,I,I,O,O,O,O,O,O,O,O,O,O,O] rfl rfl (any_of HT_.out (by kernel_rfl)) (fun _ _ _ h => h) (Or.inl ⟨by rfl, ?_⟩) ?_ ?_; rotate_left; · (intro w'; go_simp; with_reducible rfl)
       rotate_left; · (simp only [Act.put, sT, sZ, sS, i64_w, i32_w]; rfl)
       refine pure_ (i := 5) (N := some 43) (v := ?_) (a' := ?_) #[I,I,I,I,O,I,O,O,O,O,O,O,O,O,O] rfl rfl (any_of HT_.out (by kernel_rfl)) (fun _ _ _ h => h) (Or.inl ⟨by rfl, ?_⟩) ?_ ?_; rotate_left; · (intro w'; go_simp; with_reducible rfl)
       rotate_left; · (simp only [Act.put, sT, sZ, sS, i64_w, i32_w]; rfl)
       refine pure_ (i := 6) (N := some 44) (v := ?_) (a' := ?_) #[I,I,I,I,O,I,I,O,O,O,O,O,O,O,O] rfl rfl (any_of HT_.out (by kernel_rfl)) (fun _ _ _ h => h) (Or.inl ⟨by rfl, ?_⟩) ?_ ?_; rotate_left; · (intro w'; go_simp; with_reducible rfl)
       rotate_left; · (simp only [Act.put, sT, sZ, sS, i64_w, i32_w]; rfl)
       refine take_ (i := 7) (N := some 45) (v := ?_) (a' := ?_) #[I,I,I,I,O,I,I,I,O,O,O,O,O,O,O] rfl rfl (take_ofW HT_.out HW_.out (by kernel_rfl)) (fun _ _ _ h => h) (Or.inl ⟨by rfl, ?_⟩) hHeld ?_ ?_; rotate_left
       ·intro w' s0
        go_simp
        with_reducible rfl
       rotate_left; · (simp only [Act.put, sT, sZ, sS, i64_w, i32_w]; rfl)
       refine pure_ (i := 9) (N := some 47) (v := ?_) (a' := ?_) #[I,I,I,I,O,I,I,I,O,I,O,O,O,O,O] rfl rfl (any_of HT_.out (by kernel_rfl)) (fun _ _ _ h => h) (Or.inl ⟨by rfl, ?_⟩) ?_ ?_; rotate_left; · (intro w'; go_simp; with_reducible rfl)
       rotate_left; · (simp only [Act.put, sT, sZ, sS, i64_w, i32_w]; rfl)
       refine one_ (i := 4) (N := some 42) #[I,I,I,I,I,I,I,I,O,I,O,O,O,O,O] rfl rfl (one_of HT_.out (by kernel_rfl)) (by decide) (fun K hK => ?_)
       refine goes_ Try.func26 (by kernel_rfl) rfl #[.int .i64 a2, .int .i64 a3] (by rfl) rfl rfl (by (try simp only [List.map_toArray, List.map_cons, List.map_nil]); first | done | rfl | (simp; done)) ?_
       (with_reducible refine (sat_Add.calls k _ _ _ _  Hc42.out).mono ?_)
       rintro e_ w46 ⟨rfl, hb_⟩
       refine ⟨_, rfl, ?_⟩
       replace hb_ := Drawn0.below hb_
       replace HS := Aside0.mk (HS.out.below hb_)
       replace HK := Aside0.mk (HK.out.trans (Keep.below hb_))
       refine hK.out _ _ (bc HS.out 9 rfl) (fun hHeld => ?_)
       clear hK K
       refine norm_ (a' := ?_) ?_ ?_; rotate_left
       ·show Act.put _ (some 42) _ = _
        simp only [Act.put, sT, sZ, sS, i64_w, i32_w]
        rfl
       refine one_ (i := 8) (N := some 46) #[I,I,I,I,I,I,I,I,I,I,O,O,O,O,O] rfl rfl (one_of HT_.out (by kernel_rfl)) (by decide) (fun K hK => ?_)
       refine goes_ Try.func26 (by kernel_rfl) rfl #[.int .i64 a2, .int .i64 a1_9] (by rfl) rfl rfl (by (try simp only [List.map_toArray, List.map_cons, List.map_nil]); first | done | rfl | (simp; done)) ?_
       (with_reducible refine (sat_Add.calls k _ _ _ _  Hc43.out).mono ?_)
       rintro e_ w47 ⟨rfl, hb_⟩
       refine ⟨_, rfl, ?_⟩
       replace hb_ := Drawn0.below hb_
       replace HS := Aside0.mk (HS.out.below hb_)
       replace HK := Aside0.mk (HK.out.trans (Keep.below hb_))
       refine hK.out _ _ (bc HS.out 9 rfl) (fun hHeld => ?_)
       clear hK K
       refine norm_ (a' := ?_) ?_ ?_; rotate_left
       ·show Act.put _ (some 46) _ = _
        simp only [Act.put, sT, sZ, sS, i64_w, i32_w]
        rfl
       refine one_ (i := 10) (N := none) #[I,I,I,I,I,I,I,I,I,I,I,O,O,O,O] rfl rfl (one_of HT_.out (by kernel_rfl)) (by decide) (fun K hK => ?_)
       refine st_of (by rfl) ?_
       refine op_store (S := S) 3 (.tmp 47) (.tmp 39) rfl g3000022 0 (.int .i64 (wrap64 1)) [.int .i64 (wrap64 1)] rfl rfl rfl (by kernel_rfl) (by simp [Value.oneCell']) HS.out (by simp) ?_
       intro w48 hs_ hk_
       replace HS := Aside0.mk ((show SL (cells g3000022 37 [.int .i64 (wrap64 1), .int .i64 a1_1, .int .i64 a1_2, .int .i64 a1_3, .int .i64 a1_4, .int .i64 a1_5, .int .i64 a1_6, .int .i64 a1_7, .int .i64 a1_8, .int .i64 a1_9, .int .i64 a1_10, .int .i64 a1_11, .int .i64 a1_12, .int .i64 a1_13, .int .i64 a1_14, .int .i64 a1_15].toArray :: _) _ _ from hs_))
       replace HK := Aside0.mk (HK.out.trans hk_)
       refine hK.out _ _ (bc HS.out 9 rfl) (fun hHeld => ?_)
       clear hK K
       refine pure_ (i := 11) (N := some 48) (v := ?_) (a' := ?_) #[I,I,I,I,I,I,I,I,I,I,I,I,O,O,O] rfl rfl (any_of HT_.out (by kernel_rfl)) (fun _ _ _ h => h) (Or.inl ⟨by rfl, ?_⟩) ?_ ?_; rotate_left; · (intro w'; go_simp; with_reducible rfl)
       rotate_left; · (simp only [Act.put, sT, sZ, sS, i64_w, i32_w]; rfl)
       refine one_ (i := 12) (N := none) #[I,I,I,I,I,I,I,I,I,I,I,I,I,O,O] rfl rfl (one_of HT_.out (by kernel_rfl)) (by decide) (fun K hK => ?_)
       refine st_of (by rfl) ?_
       refine op_store (S := S) 3 (.tmp 48) (.tmp 42) rfl g3000022 8 (.int .i64 t282) [.int .i64 t282] rfl rfl rfl (by kernel_rfl) (by simp [Value.oneCell']) HS.out (by simp) ?_
       intro w49 hs_ hk_
       replace HS := Aside0.mk ((show SL (cells g3000022 37 [.int .i64 (wrap64 1), .int .i64 a1_1, .int .i64 a1_2, .int .i64 a1_3, .int .i64 a1_4, .int .i64 a1_5, .int .i64 a1_6, .int .i64 a1_7, .int .i64 t282, .int .i64 a1_9, .int .i64 a1_10, .int .i64 a1_11, .int .i64 a1_12, .int .i64 a1_13, .int .i64 a1_14, .int .i64 a1_15].toArray :: _) _ _ from hs_))
       replace HK := Aside0.mk (HK.out.trans hk_)
       refine hK.out _ _ (bc HS.out 9 rfl) (fun hHeld => ?_)
       clear hK K
       refine pure_ (i := 13) (N := some 49) (v := ?_) (a' := ?_) #[I,I,I,I,I,I,I,I,I,I,I,I,I,I,O] rfl rfl (any_of HT_.out (by kernel_rfl)) (fun _ _ _ h => h) (Or.inl ⟨by rfl, ?_⟩) ?_ ?_; rotate_left; · (intro w'; go_simp; with_reducible rfl)
       rotate_left; · (simp only [Act.put, sT, sZ, sS, i64_w, i32_w]; rfl)
       refine one_ (i := 14) (N := none) #[I,I,I,I,I,I,I,I,I,I,I,I,I,I,I] rfl rfl (one_of HT_.out (by kernel_rfl)) (by decide) (fun K hK => ?_)
       refine st_of (by rfl) ?_
       refine op_store (S := S) 3 (.tmp 49) (.tmp 46) rfl g3000022 10 (.int .i64 t283) [.int .i64 t283] rfl rfl rfl (by kernel_rfl) (by simp [Value.oneCell']) HS.out (by simp) ?_
       intro w50 hs_ hk_
       replace HS := Aside0.mk ((show SL (cells g3000022 37 [.int .i64 (wrap64 1), .int .i64 a1_1, .int .i64 a1_2, .int .i64 a1_3, .int .i64 a1_4, .int .i64 a1_5, .int .i64 a1_6, .int .i64 a1_7, .int .i64 t282, .int .i64 a1_9, .int .i64 t283, .int .i64 a1_11, .int .i64 a1_12, .int .i64 a1_13, .int .i64 a1_14, .int .i64 a1_15].toArray :: _) _ _ from hs_))
       replace HK := Aside0.mk (HK.out.trans hk_)
       refine hK.out _ _ (bc HS.out 9 rfl) (fun hHeld => ?_)
       clear hK K
       refine done_ (done_of HT_.out (by kernel_rfl)) ?_
       try go_wp2
       refine start_ (n := 10) (S := fun w' => w'.cell? ⟨g3000022, 0, none⟩ = some (.int .i64 (wrap64 1)) ∧ w'.cell? ⟨g3000022, 1, none⟩ = some (.int .i64 a1_1) ∧ w'.cell? ⟨g3000022, 2, none⟩ = some (.int .i64 a1_2) ∧ w'.cell? ⟨g3000022, 3, none⟩ = some (.int .i64 a1_3) ∧ w'.cell? ⟨g3000022, 4, none⟩ = some (.int .i64 a1_4) ∧ w'.cell? ⟨g3000022, 5, none⟩ = some (.int .i64 a1_5) ∧ w'.cell? ⟨g3000022, 6, none⟩ = some (.int .i64 a1_6) ∧ w'.cell? ⟨g3000022, 7, none⟩ = some (.int .i64 a1_7) ∧ w'.cell? ⟨g3000022, 8, none⟩ = some (.int .i64 t282) ∧ w'.cell? ⟨g3000022, 9, none⟩ = some (.int .i64 a1_9) ∧ w'.cell? ⟨g3000022, 10, none⟩ = some (.int .i64 t283) ∧ w'.cell? ⟨g3000022, 11, none⟩ = some (.int .i64 a1_11) ∧ w'.cell? ⟨g3000022, 12, none⟩ = some (.int .i64 a1_12) ∧ w'.cell? ⟨g3000022, 13, none⟩ = some (.int .i64 a1_13) ∧ w'.cell? ⟨g3000022, 14, none⟩ = some (.int .i64 a1_14) ∧ w'.cell? ⟨g3000022, 15, none⟩ = some (.int .i64 a1_15)) (ds := []) #[O,O,O,O,O,O,O,O,O,O] (by kernel_rfl) rfl rfl ⟨bc HS.out 0 rfl, bc HS.out 1 rfl, bc HS.out 2 rfl, bc HS.out 3 rfl, bc HS.out 4 rfl, bc HS.out 5 rfl, bc HS.out 6 rfl, bc HS.out 7 rfl, bc HS.out 8 rfl, bc HS.out 9 rfl, bc HS.out 10 rfl, bc HS.out 11 rfl, bc HS.out 12 rfl, bc HS.out 13 rfl, bc HS.out 14 rfl, bc HS.out 15 rfl⟩ (fun hHeld => ?_); refine with_tabW zone_Add.tab13 zone_Add.bits13 (fun HT_ HW_ => ?_)
       replace HK := Aside0.mk (Keep.drew HK.out)
       replace HS := Aside0.mk (SL.drew HS.out)
       refine pure_ (i := 0) (N := some 50) (v := ?_) (a' := ?_) #[I,O,O,O,O,O,O,O,O,O] rfl rfl (any_of HT_.out (by kernel_rfl)) (fun _ _ _ h => h) (Or.inl ⟨by rfl, ?_⟩) ?_ ?_; rotate_left; · (intro w'; go_simp; with_reducible rfl)
       rotate_left; · (simp only [Act.put, sT, sZ, sS, i64_w, i32_w]; rfl)
       refine pure_ (i := 5) (N := some 55) (v := ?_) (a' := ?_) #[I,O,O,O,O,I,O,O,O,O] rfl rfl (any_of HT_.out (by kernel_rfl)) (fun _ _ _ h => h) (Or.inl ⟨by rfl, ?_⟩) ?_ ?_; rotate_left; · (intro w'; go_simp; with_reducible rfl)
       rotate_left; · (simp only [Act.put, sT, sZ, sS, i64_w, i32_w]; rfl)
       refine take_ (i := 2) (N := some 52) (v := ?_) (a' := ?_) #[I,O,I,O,O,I,O,O,O,O] rfl rfl (take_ofW HT_.out HW_.out (by kernel_rfl)) (fun _ _ _ h => h) (Or.inl ⟨by rfl, ?_⟩) hHeld ?_ ?_; rotate_left
       ·rintro w' ⟨s0, s1, s2, s3, s4, s5, s6, s7, s8, s9, s10, s11, s12, s13, s14, s15⟩
        go_simp
        with_reducible rfl
       rotate_left; · (simp only [Act.put, sT, sZ, sS, i64_w, i32_w]; rfl)
       refine take_ (i := 6) (N := some 56) (v := ?_) (a' := ?_) #[I,O,I,O,O,I,I,O,O,O] rfl rfl (take_ofW HT_.out HW_.out (by kernel_rfl)) (fun _ _ _ h => h) (Or.inl ⟨by rfl, ?_⟩) hHeld ?_ ?_; rotate_left
       ·rintro w' ⟨s0, s1, s2, s3, s4, s5, s6, s7, s8, s9, s10, s11, s12, s13, s14, s15⟩
        go_simp
        with_reducible rfl
       rotate_left; · (simp only [Act.put, sT, sZ, sS, i64_w, i32_w]; rfl)
       refine join_ (σ := Option Addr × Nat × Option Addr × Nat) 4 #[I,I,I,I,O,I,I,O,O,O] (fun s_ => [(51, .slice s_.1 t284.length s_.2.1), (53, .slice s_.2.2.1 1 s_.2.2.2)]) (fun s_ w_ => Keep S w w_ ∧ SL (row k37 37 (.slice s_.1 t284.length s_.2.1) t284 :: row k37 37 (.slice s_.2.2.1 1 s_.2.2.2) y285 :: cells g3000022 37 [.int .i64 (wrap64 1), .int .i64 a1_1, .int .i64 a1_2, .int .i64 a1_3, .int .i64 a1_4, .int .i64 a1_5, .int .i64 a1_6, .int .i64 a1_7, .int .i64 t282, .int .i64 a1_9, .int .i64 t283, .int .i64 a1_11, .int .i64 a1_12, .int .i64 a1_13, .int .i64 a1_14, .int .i64 a1_15].toArray :: L) w_ S) ?_ ?_; rotate_left
       ·intro hCont
        refine two_ (i := 1) (j := 3) (Ni := some 51) (Nj := some 53) #[I,I,I,O,O,I,I,O,O,O] #[I,O,I,I,O,I,I,O,O,O] rfl rfl rfl rfl (two_of HT_.out (by kernel_rfl)) (by decide) (by decide) (fun K hK => ?_) (fun K hK => ?_)
        ·skip
         refine goes_ Try.func30 (by kernel_rfl) rfl #[.slice A0 l0.length c0] (by rfl) rfl rfl (by (try simp only [List.map_toArray, List.map_cons, List.map_nil]); first | done | rfl | (simp; done)) ?_
         (with_reducible refine (api_Zone_30.calls _ _ _ _ _ (RO.at_ HR0.out HK.out) HC0.out Hc44.out).mono ?_)
         rintro e_ w55 ⟨v3000024_, rfl, ho3000024_, hb_⟩
         refine ⟨_, rfl, ?_⟩
         have hs_ := (SL.new (HF.out.keep HK.out) HS.out hb_ (row_of_R ho3000024_)).1
         obtain ⟨Az3000024, cz3000024, e2_, _, _⟩ := SL.row_reads hs_
         subst e2_
         replace HS := Aside0.mk (hs_)
         replace HK := Aside0.mk (HK.out.trans (Keep.below hb_))
         refine hK.out _ _ ⟨bc (SL.get1 HS.out) 0 rfl, bc (SL.get1 HS.out) 1 rfl, bc (SL.get1 HS.out) 2 rfl, bc (SL.get1 HS.out) 3 rfl, bc (SL.get1 HS.out) 4 rfl, bc (SL.get1 HS.out) 5 rfl, bc (SL.get1 HS.out) 6 rfl, bc (SL.get1 HS.out) 7 rfl, bc (SL.get1 HS.out) 8 rfl, bc (SL.get1 HS.out) 9 rfl, bc (SL.get1 HS.out) 10 rfl, bc (SL.get1 HS.out) 11 rfl, bc (SL.get1 HS.out) 12 rfl, bc (SL.get1 HS.out) 13 rfl, bc (SL.get1 HS.out) 14 rfl, bc (SL.get1 HS.out) 15 rfl⟩ (fun hHeld => ?_)
         clear hK K
         refine norm_ (a' := ?_) ?_ ?_; rotate_left
         ·show Act.put _ (some 51) _ = _
          simp only [Act.put, sT, sZ, sS, i64_w, i32_w]
          rfl
         refine one_ (i := 3) (N := some 53) #[I,I,I,I,O,I,I,O,O,O] rfl rfl (one_of HT_.out (by kernel_rfl)) (by decide) (fun K hK => ?_)
         replace HS := Aside0.mk (SL.get1 HS.out)
         refine st_of (by rfl) ?_
         refine op_rowF (S := S) (d := k37) ⟨fun h_ => h_⟩ 37 y285 #[.int .i64 (wrap64 1), .int .i64 a1_1, .int .i64 a1_2, .int .i64 a1_3, .int .i64 a1_4, .int .i64 a1_5, .int .i64 a1_6, .int .i64 a1_7, .int .i64 t282, .int .i64 a1_9, .int .i64 t283, .int .i64 a1_11, .int .i64 a1_12, .int .i64 a1_13, .int .i64 a1_14, .int .i64 a1_15] 1 (by rw [← Ny285.out]; exact reps_cons (k37_mkM _ 0 _ (⟨wrap64 1, (⟨a1_1, (⟨a1_2, a1_3⟩ : S31), (⟨a1_4, a1_5⟩ : S31), a1_6, a1_7⟩ : S33), t282, a1_9, t283, (⟨a1_11, a1_12, a1_13⟩ : S35), a1_14, a1_15⟩ : S37)) rfl (Reps.none _ _)) (by rw [← Ny285.out]; rfl) (by decide) (HF.out.keep HK.out) HS.out (by first | (go_simp; done) | (go_simp; rfl)) ?_
         intro Az3000025 cz3000025 w56 hs_ hk_
         replace HS := Aside0.mk ((show SL (row k37 37 (.slice Az3000025 1 cz3000025) y285 :: _) _ _ from hs_))
         replace HK := Aside0.mk (HK.out.trans hk_)
         refine hK.out _ _ ⟨bc (SL.get1 HS.out) 0 rfl, bc (SL.get1 HS.out) 1 rfl, bc (SL.get1 HS.out) 2 rfl, bc (SL.get1 HS.out) 3 rfl, bc (SL.get1 HS.out) 4 rfl, bc (SL.get1 HS.out) 5 rfl, bc (SL.get1 HS.out) 6 rfl, bc (SL.get1 HS.out) 7 rfl, bc (SL.get1 HS.out) 8 rfl, bc (SL.get1 HS.out) 9 rfl, bc (SL.get1 HS.out) 10 rfl, bc (SL.get1 HS.out) 11 rfl, bc (SL.get1 HS.out) 12 rfl, bc (SL.get1 HS.out) 13 rfl, bc (SL.get1 HS.out) 14 rfl, bc (SL.get1 HS.out) 15 rfl⟩ (fun hHeld => ?_)
         clear hK K
         refine norm_ (a' := ?_) ?_ ?_; rotate_left
         ·show Act.put _ (some 53) _ = _
          simp only [Act.put, sT, sZ, sS, i64_w, i32_w]
          rfl
         exact norm_ (by simp only [putAll, Act.put, sT, sZ, sS]) (hCont (Az3000024, cz3000024, Az3000025, cz3000025) _ ⟨HK.out, (SL.get2 (SL.get1 (SL.get1 HS.out)))⟩)
        ·skip
         refine st_of (by rfl) ?_
         refine op_rowF (S := S) (d := k37) ⟨fun h_ => h_⟩ 37 y285 #[.int .i64 (wrap64 1), .int .i64 a1_1, .int .i64 a1_2, .int .i64 a1_3, .int .i64 a1_4, .int .i64 a1_5, .int .i64 a1_6, .int .i64 a1_7, .int .i64 t282, .int .i64 a1_9, .int .i64 t283, .int .i64 a1_11, .int .i64 a1_12, .int .i64 a1_13, .int .i64 a1_14, .int .i64 a1_15] 1 (by rw [← Ny285.out]; exact reps_cons (k37_mkM _ 0 _ (⟨wrap64 1, (⟨a1_1, (⟨a1_2, a1_3⟩ : S31), (⟨a1_4, a1_5⟩ : S31), a1_6, a1_7⟩ : S33), t282, a1_9, t283, (⟨a1_11, a1_12, a1_13⟩ : S35), a1_14, a1_15⟩ : S37)) rfl (Reps.none _ _)) (by rw [← Ny285.out]; rfl) (by decide) (HF.out.keep HK.out) HS.out (by first | (go_simp; done) | (go_simp; rfl)) ?_
         intro Az3000025 cz3000025 w57 hs_ hk_
         replace HS := Aside0.mk ((show SL (row k37 37 (.slice Az3000025 1 cz3000025) y285 :: _) _ _ from hs_))
         replace HK := Aside0.mk (HK.out.trans hk_)
         refine hK.out _ _ ⟨bc (SL.get1 HS.out) 0 rfl, bc (SL.get1 HS.out) 1 rfl, bc (SL.get1 HS.out) 2 rfl, bc (SL.get1 HS.out) 3 rfl, bc (SL.get1 HS.out) 4 rfl, bc (SL.get1 HS.out) 5 rfl, bc (SL.get1 HS.out) 6 rfl, bc (SL.get1 HS.out) 7 rfl, bc (SL.get1 HS.out) 8 rfl, bc (SL.get1 HS.out) 9 rfl, bc (SL.get1 HS.out) 10 rfl, bc (SL.get1 HS.out) 11 rfl, bc (SL.get1 HS.out) 12 rfl, bc (SL.get1 HS.out) 13 rfl, bc (SL.get1 HS.out) 14 rfl, bc (SL.get1 HS.out) 15 rfl⟩ (fun hHeld => ?_)
         clear hK K
         refine norm_ (a' := ?_) ?_ ?_; rotate_left
         ·show Act.put _ (some 53) _ = _
          simp only [Act.put, sT, sZ, sS, i64_w, i32_w]
          rfl
         refine one_ (i := 1) (N := some 51) #[I,I,I,I,O,I,I,O,O,O] rfl rfl (one_of HT_.out (by kernel_rfl)) (by decide) (fun K hK => ?_)
         replace HS := Aside0.mk (SL.get1 HS.out)
         refine goes_ Try.func30 (by kernel_rfl) rfl #[.slice A0 l0.length c0] (by rfl) rfl rfl (by (try simp only [List.map_toArray, List.map_cons, List.map_nil]); first | done | rfl | (simp; done)) ?_
         (with_reducible refine (api_Zone_30.calls _ _ _ _ _ (RO.at_ HR0.out HK.out) HC0.out Hc44.out).mono ?_)
         rintro e_ w58 ⟨v3000024_, rfl, ho3000024_, hb_⟩
         refine ⟨_, rfl, ?_⟩
         have hs_ := (SL.new (HF.out.keep HK.out) HS.out hb_ (row_of_R ho3000024_)).1
         obtain ⟨Az3000024, cz3000024, e2_, _, _⟩ := SL.row_reads hs_
         subst e2_
         replace HS := Aside0.mk (hs_)
         replace HK := Aside0.mk (HK.out.trans (Keep.below hb_))
         refine hK.out _ _ ⟨bc (SL.get1 HS.out) 0 rfl, bc (SL.get1 HS.out) 1 rfl, bc (SL.get1 HS.out) 2 rfl, bc (SL.get1 HS.out) 3 rfl, bc (SL.get1 HS.out) 4 rfl, bc (SL.get1 HS.out) 5 rfl, bc (SL.get1 HS.out) 6 rfl, bc (SL.get1 HS.out) 7 rfl, bc (SL.get1 HS.out) 8 rfl, bc (SL.get1 HS.out) 9 rfl, bc (SL.get1 HS.out) 10 rfl, bc (SL.get1 HS.out) 11 rfl, bc (SL.get1 HS.out) 12 rfl, bc (SL.get1 HS.out) 13 rfl, bc (SL.get1 HS.out) 14 rfl, bc (SL.get1 HS.out) 15 rfl⟩ (fun hHeld => ?_)
         clear hK K
         refine norm_ (a' := ?_) ?_ ?_; rotate_left
         ·show Act.put _ (some 51) _ = _
          simp only [Act.put, sT, sZ, sS, i64_w, i32_w]
          rfl
         exact norm_ (by simp only [putAll, Act.put, sT, sZ, sS]) (hCont (Az3000024, cz3000024, Az3000025, cz3000025) _ ⟨HK.out, (SL.get2 (SL.get2 (SL.get1 HS.out)))⟩)
       rintro ⟨Az3000024, cz3000024, Az3000025, cz3000025⟩ w54 ⟨hk_, hs_⟩
       clear HK HS
       have HK := Aside0.mk hk_
       have HS := Aside0.mk hs_
       clear hk_ hs_
       have hHeld := (⟨bc (SL.get2 HS.out) 0 rfl, bc (SL.get2 HS.out) 1 rfl, bc (SL.get2 HS.out) 2 rfl, bc (SL.get2 HS.out) 3 rfl, bc (SL.get2 HS.out) 4 rfl, bc (SL.get2 HS.out) 5 rfl, bc (SL.get2 HS.out) 6 rfl, bc (SL.get2 HS.out) 7 rfl, bc (SL.get2 HS.out) 8 rfl, bc (SL.get2 HS.out) 9 rfl, bc (SL.get2 HS.out) 10 rfl, bc (SL.get2 HS.out) 11 rfl, bc (SL.get2 HS.out) 12 rfl, bc (SL.get2 HS.out) 13 rfl, bc (SL.get2 HS.out) 14 rfl, bc (SL.get2 HS.out) 15 rfl⟩ : w54.cell? ⟨g3000022, 0, none⟩ = some (.int .i64 (wrap64 1)) ∧ w54.cell? ⟨g3000022, 1, none⟩ = some (.int .i64 a1_1) ∧ w54.cell? ⟨g3000022, 2, none⟩ = some (.int .i64 a1_2) ∧ w54.cell? ⟨g3000022, 3, none⟩ = some (.int .i64 a1_3) ∧ w54.cell? ⟨g3000022, 4, none⟩ = some (.int .i64 a1_4) ∧ w54.cell? ⟨g3000022, 5, none⟩ = some (.int .i64 a1_5) ∧ w54.cell? ⟨g3000022, 6, none⟩ = some (.int .i64 a1_6) ∧ w54.cell? ⟨g3000022, 7, none⟩ = some (.int .i64 a1_7) ∧ w54.cell? ⟨g3000022, 8, none⟩ = some (.int .i64 t282) ∧ w54.cell? ⟨g3000022, 9, none⟩ = some (.int .i64 a1_9) ∧ w54.cell? ⟨g3000022, 10, none⟩ = some (.int .i64 t283) ∧ w54.cell? ⟨g3000022, 11, none⟩ = some (.int .i64 a1_11) ∧ w54.cell? ⟨g3000022, 12, none⟩ = some (.int .i64 a1_12) ∧ w54.cell? ⟨g3000022, 13, none⟩ = some (.int .i64 a1_13) ∧ w54.cell? ⟨g3000022, 14, none⟩ = some (.int .i64 a1_14) ∧ w54.cell? ⟨g3000022, 15, none⟩ = some (.int .i64 a1_15))
       replace HS := Aside0.mk (SL.get2 (SL.get1 (SL.get2 HS.out)))
       refine norm_ (a' := ?_) ?_ ?_; rotate_left; · (simp only [putAll, Act.put, sT, sZ, sS]; rfl)
       refine one_ (i := 4) (N := some 54) #[I,I,I,I,I,I,I,O,O,O] rfl rfl (one_of HT_.out (by kernel_rfl)) (by decide) (fun K hK => ?_)
       refine st_of (by rfl) ?_
       refine op_appendF (S := S) (d := k37) ⟨fun h_ => h_⟩ (.tmp 51) (.tmp 53) 22 37 (.agg #[(.int .i64 0), (.int .i64 0), (.int .i64 0), (.int .i64 0), (.int .i64 0), (.int .i64 0), (.int .i64 0), (.int .i64 0), (.int .i64 0), (.int .i64 0), (.int .i64 0), (.int .i64 0), (.int .i64 0), (.int .i64 0), (.int .i64 0), (.int .i64 0)]) 128 rfl Try.underlying22 info37 rfl (by decide) (by decide) (.slice Az3000024 t284.length cz3000024) rfl rfl (HF.out.keep HK.out) (SL.get1 HS.out) (SL.row_c HS.out).2.2 (by have := LMc45.out; have e_ := (SL.row_c HS.out).1; omega) y286 Ny286.out ?_
       intro A287 c288 w53 hs_ hk_
       replace HS := Aside0.mk ((SL.back1 (show SL (row k37 37 (.slice A287 y286.length c288) y286 :: _) _ _ from hs_)))
       replace HK := Aside0.mk (HK.out.trans hk_)
       refine hK.out _ _ ⟨bc (SL.get2 HS.out) 0 rfl, bc (SL.get2 HS.out) 1 rfl, bc (SL.get2 HS.out) 2 rfl, bc (SL.get2 HS.out) 3 rfl, bc (SL.get2 HS.out) 4 rfl, bc (SL.get2 HS.out) 5 rfl, bc (SL.get2 HS.out) 6 rfl, bc (SL.get2 HS.out) 7 rfl, bc (SL.get2 HS.out) 8 rfl, bc (SL.get2 HS.out) 9 rfl, bc (SL.get2 HS.out) 10 rfl, bc (SL.get2 HS.out) 11 rfl, bc (SL.get2 HS.out) 12 rfl, bc (SL.get2 HS.out) 13 rfl, bc (SL.get2 HS.out) 14 rfl, bc (SL.get2 HS.out) 15 rfl⟩ (fun hHeld => ?_)
       clear hK K
       refine norm_ (a' := ?_) ?_ ?_; rotate_left
       ·show Act.put _ (some 54) _ = _
        simp only [Act.put, sT, sZ, sS, i64_w, i32_w]
        rfl
       refine pure_ (i := 7) (N := some 8) (v := ?_) (a' := ?_) #[I,I,I,I,I,I,I,I,O,O] rfl rfl (any_of HT_.out (by kernel_rfl)) (fun _ _ _ h => h) (Or.inl ⟨by rfl, ?_⟩) ?_ ?_; rotate_left; · (intro w'; go_simp; with_reducible rfl)
       rotate_left; · (simp only [Act.put, sT, sZ, sS, i64_w, i32_w]; rfl)
       refine pure_ (i := 8) (N := some 9) (v := ?_) (a' := ?_) #[I,I,I,I,I,I,I,I,I,O] rfl rfl (any_of HT_.out (by kernel_rfl)) (fun _ _ _ h => h) (Or.inl ⟨by rfl, ?_⟩) ?_ ?_; rotate_left; · (intro w'; go_simp; with_reducible rfl)
       rotate_left; · (simp only [Act.put, sT, sZ, sS, i64_w, i32_w]; rfl)
       refine pure_ (i := 9) (N := some 10) (v := ?_) (a' := ?_) #[I,I,I,I,I,I,I,I,I,I] rfl rfl (any_of HT_.out (by kernel_rfl)) (fun _ _ _ h => h) (Or.inl ⟨by rfl, ?_⟩) ?_ ?_; rotate_left; · (intro w'; go_simp; with_reducible rfl)
       rotate_left; · (simp only [Act.put, sT, sZ, sS, i64_w, i32_w]; rfl)
       refine done_ (done_of HT_.out (by kernel_rfl)) ?_
       try go_wp2
       go_ret3
       replace HS := Aside0.mk (SL.tail (SL.get1 (SL.tail HS.out)))
       unfold zone_Add.Post
       exact ⟨A287, c288, by first | rfl | (simp; done) | (simp [*]; done) | (simp at c45b0 ⊢; first | exact c45b0 | (simp [c45b0]; done)), HS.out, HK.out⟩
      ·rw [if_neg c45] at H
       exact absurd H (by simp)
   ·replace c39 := Bool.eq_false_iff.mpr c39
    subst c39
    rw [if_neg (show ¬ (false = true) by decide)] at H
    simp only [Option.some.injEq, Prod.mk.injEq] at H
    obtain ⟨rfl, rfl, rfl⟩ := H
    have n2_ := Aside0.mk (SL.nil_row k37 37 HS.out)
    clear HS
    have HS := n2_
    clear n2_
    refine hG_.out ?_
    go_wp2
    go_ret3
    replace HS := Aside0.mk (SL.tail (SL.get1 HS.out))
    unfold zone_Add.Post
    exact ⟨none, 0, by first | rfl | (simp; done) | (simp [*]; done) | (simp at c1b0 ⊢; first | exact c1b0 | (simp [c1b0]; done)), HS.out, HK.out⟩
  ·replace c34 := Bool.eq_false_iff.mpr c34
   subst c34
   rw [if_neg (show ¬ (false = true) by decide)] at H
   simp only [Option.some.injEq, Prod.mk.injEq] at H
   obtain ⟨rfl, rfl, rfl⟩ := H
   go_enter Try.func12, Try.ntmps12
   go_wp2_with (first | ((with_reducible refine gate_dst (N := 5) rfl ?_); refine wpList_plain rfl (fun K_ hK_ => ?_); refine op_box (S := S) (cs := #[.int .i64 a1_0, .int .i64 a1_1, .int .i64 a1_2, .int .i64 a1_3, .int .i64 a1_4, .int .i64 a1_5, .int .i64 a1_6, .int .i64 a1_7, .int .i64 a1_8, .int .i64 a1_9, .int .i64 a1_10, .int .i64 a1_11, .int .i64 a1_12, .int .i64 a1_13, .int .i64 a1_14, .int .i64 a1_15]) (t := 37) (HF.out.keep HK.out) HS.out (by first | (go_simp; done) | (go_simp; rfl)) ?_; intro g3000022 w59 hs_ hk_; refine hK_ _ _ ?_; clear hK_ K_; replace HS := Aside0.mk (hs_); replace HK := Aside0.mk (HK.out.trans hk_)) | ((with_reducible refine gate_dst (N := 25) rfl ?_); refine goesL_ (some 25) rfl rfl Try.func14 (by kernel_rfl) rfl #[.slice A0 l0.length c0] rfl (by (try simp only [List.map_toArray, List.map_cons, List.map_nil]); first | done | rfl | (simp; done)) ?_; (with_reducible refine (zone_Right.calls k _ _ _ _ _ (RO.at_ HR0.out HK.out) HC0.out Hc33.out).mono ?_); rintro e_ w60 ⟨rfl, hb_⟩; refine ⟨_, rfl, ?_⟩; replace HS := Aside0.mk (HS.out.below hb_); replace HK := Aside0.mk (HK.out.trans (Keep.below hb_)); have n2_ := Aside0.mk (SL.nil_row k37 37 HS.out); clear HS; have HS := n2_; clear n2_))
   go_ret3
   replace HS := Aside0.mk (SL.tail (SL.get1 HS.out))
   unfold zone_Add.Post
   exact ⟨none, 0, by first | rfl | (simp; done) | (simp [*]; done) | (simp at c1b0 ⊢; first | exact c1b0 | (simp [c1b0]; done)), HS.out, HK.out⟩

end Go.Proofs.Ytiadhonhjnbliaa.XZT
