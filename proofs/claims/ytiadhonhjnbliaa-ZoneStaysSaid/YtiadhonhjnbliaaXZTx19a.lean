-- Written by xprint.py (a program of this session) for this claim
import Derived.Test.YtiadhonhjnbliaaSq
import Derived.Test.YtiadhonhjnbliaaXZTx19p
import Derived.Test.YtiadhonhjnbliaaSL5
import Derived.Test.YtiadhonhjnbliaaSL4
import Derived.Test.YtiadhonhjnbliaaXZTx0
import Derived.Test.YtiadhonhjnbliaaXZTx7
import Derived.Test.YtiadhonhjnbliaaXZTx9
import Derived.Test.YtiadhonhjnbliaaXZTx11
import Derived.Test.YtiadhonhjnbliaaXZTx12
import Derived.Test.YtiadhonhjnbliaaXZTx14
import Derived.Test.YtiadhonhjnbliaaXZTx15
import Derived.Test.YtiadhonhjnbliaaXZTx16
import Derived.Test.YtiadhonhjnbliaaXZTx18
namespace Go.Proofs.Ytiadhonhjnbliaa.XZT
open Go.Proofs.YtiadhonhjnbliaaV Go.Proofs.YtiadhonhjnbliaaS
open Go.RowKit Go.Proofs.YtiadhonhjnbliaaW.PrintWords Go.Proofs.YtiadhonhjnbliaaW.PrintLast Go.Proofs.YtiadhonhjnbliaaW.PrintMore
attribute [local go_sem] max2_int min2_int max_two min_two max_three min_three max_four min_four   -- for this text's walks alone
set_option linter.unusedVariables false
set_option linter.unusedSimpArgs false

set_option maxHeartbeats 8000000 in
set_option maxRecDepth 100000 in
theorem barrowlaw33_ZoneStays.slcallsA (k : Nat) (A0 : Option Addr) (c0 : Nat) (l0 : List (S37)) (a1_0 : Int) (a1_1 : Int) (a1_2 : Int) (a1_3 : Int) (a1_4 : Int) (a1_5 : Int) (a1_6 : Int) (a1_7 : Int) (a1_8 : Int) (a1_9 : Int) (a1_10 : Int) (a1_11 : Int) (a1_12 : Int) (a1_13 : Int) (a1_14 : Int) (a1_15 : Int) (A2 : Option Addr) (c2 : Nat) (l2 : List (S44)) (a3 : Int) (a4_0 : Int) (a4_1 : Int) (r : Bool) (S : Nat → Prop) (L : List Asr) (w : World) (hf : Fresh S w) (hs : SL (L) w S) (hr0 : RO S w (fun w_ => Kd.C k37 w_ A0 l0.length l0)) (hc0 : l0.length ≤ c0) (hr2 : RO S w (fun w_ => Kd.C k44 w_ A2 l2.length l2)) (hc2 : l2.length ≤ c2) (hX : ∀ q1 q2 q3, zone_Add.f k l0 a1_0 a1_1 a1_2 a1_3 a1_4 a1_5 a1_6 a1_7 a1_8 a1_9 a1_10 a1_11 a1_12 a1_13 a1_14 a1_15 a3 5 = some (q1, q2, q3) → q3 = 0) (h : barrowlaw33_ZoneStays.f k l0 a1_0 a1_1 a1_2 a1_3 a1_4 a1_5 a1_6 a1_7 a1_8 a1_9 a1_10 a1_11 a1_12 a1_13 a1_14 a1_15 l2 a3 a4_0 a4_1 = some r) :
  Calls Try.prog 6 #[.slice A0 l0.length c0, .agg #[.int .i64 a1_0, .int .i64 a1_1, .int .i64 a1_2, .int .i64 a1_3, .int .i64 a1_4, .int .i64 a1_5, .int .i64 a1_6, .int .i64 a1_7, .int .i64 a1_8, .int .i64 a1_9, .int .i64 a1_10, .int .i64 a1_11, .int .i64 a1_12, .int .i64 a1_13, .int .i64 a1_14, .int .i64 a1_15], .slice A2 l2.length c2, .int .i64 a3, .agg #[.int .i64 a4_0, .int .i64 a4_1]] w (barrowlaw33_ZoneStays.Post r S L w) := by
 have HX := Aside0.mk hX
 clear hX
 have HR0 := Aside0.mk hr0
 have HC0 := Aside0.mk hc0
 clear hr0 hc0
 have HR2 := Aside0.mk hr2
 have HC2 := Aside0.mk hc2
 clear hr2 hc2
 have HF := Aside0.mk hf
 have HS := Aside0.mk hs
 have HK := Aside0.mk (Keep.refl S w)
 clear hf hs
 have hu31 := Try.underlying31
 have hu33 := Try.underlying33
 have hu37 := Try.underlying37
 have H : ((barrowlaw33_small.f k).bind fun t539 => (if (l0.length : Int) > 60 then (some t539) else (if (l2.length : Int) > 60 then (some t539) else ((zone_Right.f k l0).bind fun t541 => (if t541 = true then ((zone_Add.f k l0 a1_0 a1_1 a1_2 a1_3 a1_4 a1_5 a1_6 a1_7 a1_8 a1_9 a1_10 a1_11 a1_12 a1_13 a1_14 a1_15 a3 5).bind fun bt542 => (if bt542.2.2 = 0 then ((zone_Drop.f k bt542.1 bt542.2.1).bind fun bt559 => ((zone_Right.f k bt542.1).bind fun t563 => (if t563 = true then (if bt559.2 = true then ((barrowref33_Same.f k bt559.1 l0).bind fun t564 => (if t564 = true then ((zone_Shift.f k bt542.1 bt542.2.1 a4_0 a4_1).bind fun bt565 => (if bt565.2 = 0 then ((zone_Shift.f k bt565.1 bt542.2.1 a1_2 a1_3).bind fun bt567 => ((zone_Right.f k bt565.1).bind fun t571 => (if t571 = true then (if bt567.2 = 0 then ((barrowref33_Same.f k bt567.1 bt542.1).bind fun t572 => (if t572 = true then (barrowlaw33_ZoneStays.l899 k l2 a3 t539 bt542.1) else (none))) else (none)) else (none)))) else (barrowlaw33_ZoneStays.l899 k l2 a3 t539 bt542.1))) else (none))) else (none)) else (none)))) else ((zone_Tick.f k l0 l2 a3).bind fun bt585 => (barrowlaw33_ZoneStays.l100 k l0 l2 0 t539 bt585.1 bt585.2)))) else (some t539)))))) = some r := h
 clear h
 replace H := Option.bind_eq_some_iff.1 H
 obtain ⟨t539, Hc10, H⟩ := H
 try dsimp only at H
 have Hc1 := Aside0.mk Hc10
 clear Hc10
 have H' := Aside0.mk H
 clear H
 go_enter Try.func6, Try.ntmps6
 go_wp2_with (first | ((with_reducible refine gate_dst (N := 6) rfl ?_); refine wpList_plain rfl (fun K_ hK_ => ?_); refine op_box (S := S) (cs := #[.int .i64 a1_0, .int .i64 a1_1, .int .i64 a1_2, .int .i64 a1_3, .int .i64 a1_4, .int .i64 a1_5, .int .i64 a1_6, .int .i64 a1_7, .int .i64 a1_8, .int .i64 a1_9, .int .i64 a1_10, .int .i64 a1_11, .int .i64 a1_12, .int .i64 a1_13, .int .i64 a1_14, .int .i64 a1_15]) (t := 37) (HF.out.keep HK.out) HS.out (by first | (go_simp; done) | (go_simp; rfl)) ?_; intro g3000049 w2 hs_ hk_; refine hK_ _ _ ?_; clear hK_ K_; replace HS := Aside0.mk (hs_); replace HK := Aside0.mk (HK.out.trans hk_)) | ((with_reducible refine gate_dst (N := 9) rfl ?_); refine wpList_plain rfl (fun K_ hK_ => ?_); refine op_box (S := S) (cs := #[.int .i64 a4_0, .int .i64 a4_1]) (t := 31) (HF.out.keep HK.out) HS.out (by first | (go_simp; done) | (go_simp; rfl)) ?_; intro g3000050 w3 hs_ hk_; refine hK_ _ _ ?_; clear hK_ K_; replace HS := Aside0.mk (hs_); replace HK := Aside0.mk (HK.out.trans hk_)) | ((with_reducible refine gate_dst (N := 27) rfl ?_); refine goesL_ (some 27) rfl rfl Try.func7 (by kernel_rfl) rfl #[] rfl (by (try simp only [List.map_toArray, List.map_cons, List.map_nil]); first | done | rfl | (simp; done)) ?_; (with_reducible refine (barrowlaw33_small.calls k _ _  Hc1.out).mono ?_); rintro e_ w4 ⟨rfl, hb_⟩; refine ⟨_, rfl, ?_⟩; replace HS := Aside0.mk (HS.out.below hb_); replace HK := Aside0.mk (HK.out.trans (Keep.below hb_)); refine stop_ ?_; intro G_ hG_))
 have H := H'.out
 clear H'
 by_cases c5 : (l0.length : Int) > 60
 ·rw [if_pos c5] at H
  have c5b0 : decide (60 < (l0.length : Int)) = true := decide_eq_true c5
  have c5b1 : decide (60 < l0.length) = true := decide_eq_true (by omega)
  clear c5
  obtain rfl := Option.some.inj H
  refine hG_.out ?_
  try simp only [c5b0, c5b1]
  go_wp2
  go_ret
  replace HS := Aside0.mk (SL.tail (SL.tail HS.out))
  unfold barrowlaw33_ZoneStays.Post
  exact ⟨by first | rfl | (simp; done) | (simp [*]; done) | (simp at c5b0 ⊢; first | exact c5b0 | (simp [c5b0]; done)), HS.out, HK.out⟩
 ·rw [if_neg c5] at H
  have c5b0 : decide (60 < (l0.length : Int)) = false := decide_eq_false c5
  have c5b1 : decide (60 < l0.length) = false := decide_eq_false (by omega)
  clear c5
  by_cases c6 : (l2.length : Int) > 60
  ·rw [if_pos c6] at H
   have c6b0 : decide (60 < (l2.length : Int)) = true := decide_eq_true c6
   have c6b1 : decide (60 < l2.length) = true := decide_eq_true (by omega)
   clear c6
   obtain rfl := Option.some.inj H
   refine hG_.out ?_
   try simp only [c5b0, c5b1, c6b0, c6b1]
   go_wp2
   go_ret
   replace HS := Aside0.mk (SL.tail (SL.tail HS.out))
   unfold barrowlaw33_ZoneStays.Post
   exact ⟨by first | rfl | (simp; done) | (simp [*]; done) | (simp at c6b0 ⊢; first | exact c6b0 | (simp [c6b0]; done)), HS.out, HK.out⟩
  ·rw [if_neg c6] at H
   have c6b0 : decide (60 < (l2.length : Int)) = false := decide_eq_false c6
   have c6b1 : decide (60 < l2.length) = false := decide_eq_false (by omega)
   clear c6
   replace H := Option.bind_eq_some_iff.1 H
   obtain ⟨t541, Hc70, H⟩ := H
   try dsimp only at H
   have Hc7 := Aside0.mk Hc70
   clear Hc70
   by_cases c8 : t541 = true
   ·subst c8
    rw [if_pos rfl] at H
    replace H := Option.bind_eq_some_iff.1 H
    obtain ⟨⟨t542, t543, t544⟩, Hc90, H⟩ := H
    try dsimp only at H
    have Hc9 := Aside0.mk Hc90
    clear Hc90
    by_cases c10 : t544 = 0
    ·rw [if_pos c10] at H
     have c10b0 : (t544 == 0) = true := beq_iff_eq.mpr c10
     have c10b1 : (t544 != 0) = false := bne_eq_false_iff_eq.mpr c10
     clear c10
     replace H := Option.bind_eq_some_iff.1 H
     obtain ⟨⟨t559, t560⟩, Hc110, H⟩ := H
     try dsimp only at H
     have Hc11 := Aside0.mk Hc110
     clear Hc110
     replace H := Option.bind_eq_some_iff.1 H
     obtain ⟨t563, Hc120, H⟩ := H
     try dsimp only at H
     have Hc12 := Aside0.mk Hc120
     clear Hc120
     by_cases c13 : t563 = true
     ·subst c13
      rw [if_pos rfl] at H
      by_cases c14 : t560 = true
      ·subst c14
       rw [if_pos rfl] at H
       replace H := Option.bind_eq_some_iff.1 H
       obtain ⟨t564, Hc150, H⟩ := H
       try dsimp only at H
       have Hc15 := Aside0.mk Hc150
       clear Hc150
       by_cases c16 : t564 = true
       ·subst c16
        rw [if_pos rfl] at H
        replace H := Option.bind_eq_some_iff.1 H
        obtain ⟨⟨t565, t566⟩, Hc170, H⟩ := H
        try dsimp only at H
        have Hc17 := Aside0.mk Hc170
        clear Hc170
        have H' := Aside0.mk H
        clear H
        refine hG_.out ?_
        try simp only [c5b0, c5b1, c6b0, c6b1, c10b0, c10b1]
        try go_upto_if 79 with (first | ((with_reducible refine gate_dst (N := 38) rfl ?_); (try (refine gate_guard (by rfl) ?_; dsimp only)); refine goesL_ (some 38) rfl rfl Try.func14 (by kernel_rfl) rfl #[.slice A0 l0.length c0] rfl (by (try simp only [List.map_toArray, List.map_cons, List.map_nil]); first | done | rfl | (simp; done)) ?_; (with_reducible refine (zone_Right.calls k _ _ _ _ _ (RO.at_ HR0.out HK.out) HC0.out Hc7.out).mono ?_); rintro e_ w18 ⟨rfl, hb_⟩; refine ⟨_, rfl, ?_⟩; replace HS := Aside0.mk (HS.out.below hb_); replace HK := Aside0.mk (HK.out.trans (Keep.below hb_)); have hb_ := SL.at_ (SL.get1 HS.out); have hz3000049_0_1 := ((blk_cell hb_ 0).trans rfl : _ = some (.int .i64 a1_0)); have hz3000049_1_1 := ((blk_cell hb_ 1).trans rfl : _ = some (.int .i64 a1_1)); have hz3000049_2_1 := ((blk_cell hb_ 2).trans rfl : _ = some (.int .i64 a1_2)); have hz3000049_3_1 := ((blk_cell hb_ 3).trans rfl : _ = some (.int .i64 a1_3)); have hz3000049_4_1 := ((blk_cell hb_ 4).trans rfl : _ = some (.int .i64 a1_4)); have hz3000049_5_1 := ((blk_cell hb_ 5).trans rfl : _ = some (.int .i64 a1_5)); have hz3000049_6_1 := ((blk_cell hb_ 6).trans rfl : _ = some (.int .i64 a1_6)); have hz3000049_7_1 := ((blk_cell hb_ 7).trans rfl : _ = some (.int .i64 a1_7)); have hz3000049_8_1 := ((blk_cell hb_ 8).trans rfl : _ = some (.int .i64 a1_8)); have hz3000049_9_1 := ((blk_cell hb_ 9).trans rfl : _ = some (.int .i64 a1_9)); have hz3000049_10_1 := ((blk_cell hb_ 10).trans rfl : _ = some (.int .i64 a1_10)); have hz3000049_11_1 := ((blk_cell hb_ 11).trans rfl : _ = some (.int .i64 a1_11)); have hz3000049_12_1 := ((blk_cell hb_ 12).trans rfl : _ = some (.int .i64 a1_12)); have hz3000049_13_1 := ((blk_cell hb_ 13).trans rfl : _ = some (.int .i64 a1_13)); have hz3000049_14_1 := ((blk_cell hb_ 14).trans rfl : _ = some (.int .i64 a1_14)); have hz3000049_15_1 := ((blk_cell hb_ 15).trans rfl : _ = some (.int .i64 a1_15)); clear hb_) | ((with_reducible refine gate_dst (N := 44) rfl ?_); refine wpList_loadA rfl 37 (.tmp 6) rfl _ rfl [.int .i64 a1_0, .int .i64 a1_1, .int .i64 a1_2, .int .i64 a1_3, .int .i64 a1_4, .int .i64 a1_5, .int .i64 a1_6, .int .i64 a1_7, .int .i64 a1_8, .int .i64 a1_9, .int .i64 a1_10, .int .i64 a1_11, .int .i64 a1_12, .int .i64 a1_13, .int .i64 a1_14, .int .i64 a1_15] _ (cells_at (SL.at_ (SL.get1 HS.out)) 0 _ rfl) Try.underlying37 rfl (by kernel_rfl) ?_) | ((with_reducible refine gate_dst (N := 46) rfl ?_); refine goesL_ (some 46) rfl rfl Try.func12 (by kernel_rfl) rfl #[.slice A0 l0.length c0, .agg #[.int .i64 a1_0, .int .i64 a1_1, .int .i64 a1_2, .int .i64 a1_3, .int .i64 a1_4, .int .i64 a1_5, .int .i64 a1_6, .int .i64 a1_7, .int .i64 a1_8, .int .i64 a1_9, .int .i64 a1_10, .int .i64 a1_11, .int .i64 a1_12, .int .i64 a1_13, .int .i64 a1_14, .int .i64 a1_15], .int .i64 a3, .int .i64 5] rfl (by (try simp only [List.map_toArray, List.map_cons, List.map_nil]); first | done | rfl | (simp; done)) ?_; have hs0_ := HS.out; (with_reducible refine (zone_Add.slcalls k _ _ _ _ _ _ _ _ _ _ _ _ _ _ _ _ _ _ _ _ _ _ _ _ _ _ _ (HF.out.keep HK.out) hs0_ (HR0.out.keep HK.out) HC0.out Hc9.out).mono ?_); rintro e_ w19 ⟨Az3000051, cz3000051, rfl, hsr_, hkr_⟩; refine ⟨_, rfl, ?_⟩; replace HS := Aside0.mk (hsr_); replace HK := Aside0.mk (HK.out.trans hkr_); (try clear hz3000049_0_1 hz3000049_1_1 hz3000049_2_1 hz3000049_3_1 hz3000049_4_1 hz3000049_5_1 hz3000049_6_1 hz3000049_7_1 hz3000049_8_1 hz3000049_9_1 hz3000049_10_1 hz3000049_11_1 hz3000049_12_1 hz3000049_13_1 hz3000049_14_1 hz3000049_15_1)) | ((with_reducible refine gate_dst (N := 55) rfl ?_); refine goesL_ (some 55) rfl rfl Try.func16 (by kernel_rfl) rfl #[.slice Az3000051 t542.length cz3000051, .int .i64 t543] rfl (by (try simp only [List.map_toArray, List.map_cons, List.map_nil]); first | done | rfl | (simp; done)) ?_; have hs0_ := HS.out; obtain ⟨U1_, hfU1_, hsub1_, hs1_, hro1_, hback1_⟩ := SL.lend (HF.out.keep HK.out) hs0_ (p := fun w_ => Kd.C k37 w_ Az3000051 t542.length t542) (fun w_ T_ h_ => (Qs_c h_).2.2); (with_reducible refine (zone_Drop.slcalls k _ _ _ _ _ _ _ _ _ hfU1_ hs1_ hro1_ (SL.row_c HS.out).2.1 Hc11.out).mono ?_); rintro e_ w20 ⟨Az3000052, cz3000052, rfl, hsr_, hkr_⟩; refine ⟨_, rfl, ?_⟩; replace HS := Aside0.mk ((hback1_ _ _ hkr_ hsr_)); replace HK := Aside0.mk (HK.out.trans (Keep.sub hkr_ (fun k_ h_ => hsub1_ k_ h_)))) | ((with_reducible refine gate_dst (N := 59) rfl ?_); refine goesL_ (some 59) rfl rfl Try.func14 (by kernel_rfl) rfl #[.slice Az3000051 t542.length cz3000051] rfl (by (try simp only [List.map_toArray, List.map_cons, List.map_nil]); first | done | rfl | (simp; done)) ?_; (with_reducible refine (zone_Right.calls k _ _ _ _ _ (SL.row_c HS.out).2.2 (SL.row_c HS.out).2.1 Hc12.out).mono ?_); rintro e_ w21 ⟨rfl, hb_⟩; refine ⟨_, rfl, ?_⟩; replace HS := Aside0.mk (HS.out.below hb_); replace HK := Aside0.mk (HK.out.trans (Keep.below hb_))) | ((with_reducible refine gate_dst (N := 68) rfl ?_); (try (refine gate_guard (by rfl) ?_; dsimp only)); refine goesL_ (some 68) rfl rfl Try.func10 (by kernel_rfl) rfl #[.slice Az3000052 t559.length cz3000052, .slice A0 l0.length c0] rfl (by (try simp only [List.map_toArray, List.map_cons, List.map_nil]); first | done | rfl | (simp; done)) ?_; (with_reducible refine (barrowref33_Same.calls k _ _ _ _ _ _ _ _ (SL.row_c (SL.get1 HS.out)).2.2 (SL.row_c (SL.get1 HS.out)).2.1 (RO.at_ HR0.out HK.out) HC0.out Hc15.out).mono ?_); rintro e_ w22 ⟨rfl, hb_⟩; refine ⟨_, rfl, ?_⟩; replace hb_ := Drawn0.below hb_; replace HS := Aside0.mk (HS.out.below hb_); replace HK := Aside0.mk (HK.out.trans (Keep.below hb_)); have hb_ := SL.at_ (SL.get2 HS.out); have hz3000050_0_5 := ((blk_cell hb_ 0).trans rfl : _ = some (.int .i64 a4_0)); have hz3000050_1_5 := ((blk_cell hb_ 1).trans rfl : _ = some (.int .i64 a4_1)); clear hb_) | ((with_reducible refine gate_dst (N := 75) rfl ?_); refine goesL_ (some 75) rfl rfl Try.func18 (by kernel_rfl) rfl #[.slice Az3000051 t542.length cz3000051, .int .i64 t543, .agg #[.int .i64 a4_0, .int .i64 a4_1]] rfl (by (try simp only [List.map_toArray, List.map_cons, List.map_nil]); first | done | rfl | (simp; done)) ?_; have hs0_ := HS.out; obtain ⟨U1_, hfU1_, hsub1_, hs1_, hro1_, hback1_⟩ := SL.lend (HF.out.keep HK.out) hs0_ (p := fun w_ => Kd.C k37 w_ Az3000051 t542.length t542) (fun w_ T_ h_ => (Qs_c h_).2.2); (with_reducible refine (zone_Shift.slcalls k _ _ _ _ _ _ _ _ _ _ _ hfU1_ hs1_ hro1_ (SL.row_c HS.out).2.1 Hc17.out).mono ?_); rintro e_ w23 ⟨Az3000053, cz3000053, rfl, hsr_, hkr_⟩; refine ⟨_, rfl, ?_⟩; replace HS := Aside0.mk ((hback1_ _ _ hkr_ hsr_)); replace HK := Aside0.mk (HK.out.trans (Keep.sub hkr_ (fun k_ h_ => hsub1_ k_ h_))); (try clear hz3000050_0_5 hz3000050_1_5)))
        (try simp only [Act.put, sT, sZ, sS])
        go_cut [] (fun wc => ∃ (kq : Nat), Aside0 (barrowlaw33_ZoneStays.l899 kq l2 a3 t539 t542 = some r) ∧ Aside0 (kq ≤ k) ∧ Aside0 (SL (row k37 37 (.slice Az3000051 t542.length cz3000051) t542 :: row k37 37 (.slice Az3000053 t565.length cz3000053) t565 :: row k37 37 (.slice Az3000052 t559.length cz3000052) t559 :: cells g3000050 31 [.int .i64 a4_0, .int .i64 a4_1].toArray :: cells g3000049 37 [.int .i64 a1_0, .int .i64 a1_1, .int .i64 a1_2, .int .i64 a1_3, .int .i64 a1_4, .int .i64 a1_5, .int .i64 a1_6, .int .i64 a1_7, .int .i64 a1_8, .int .i64 a1_9, .int .i64 a1_10, .int .i64 a1_11, .int .i64 a1_12, .int .i64 a1_13, .int .i64 a1_14, .int .i64 a1_15].toArray :: L) wc S) ∧ Aside0 (Keep S w wc))
        case first =>
         have H := H'.out
         clear H'
         by_cases c24 : t566 = 0
         ·rw [if_pos c24] at H
          have c24b0 : (t566 == 0) = true := beq_iff_eq.mpr c24
          have c24b1 : (t566 != 0) = false := bne_eq_false_iff_eq.mpr c24
          clear c24
          replace H := Option.bind_eq_some_iff.1 H
          obtain ⟨⟨t567, t568⟩, Hc250, H⟩ := H
          try dsimp only at H
          have Hc25 := Aside0.mk Hc250
          clear Hc250
          replace H := Option.bind_eq_some_iff.1 H
          obtain ⟨t571, Hc260, H⟩ := H
          try dsimp only at H
          have Hc26 := Aside0.mk Hc260
          clear Hc260
          by_cases c27 : t571 = true
          ·subst c27
           rw [if_pos rfl] at H
           by_cases c28 : t568 = 0
           ·rw [if_pos c28] at H
            have c28b0 : (t568 == 0) = true := beq_iff_eq.mpr c28
            have c28b1 : (t568 != 0) = false := bne_eq_false_iff_eq.mpr c28
            clear c28
            replace H := Option.bind_eq_some_iff.1 H
            obtain ⟨t572, Hc290, H⟩ := H
            try dsimp only at H
            have Hc29 := Aside0.mk Hc290
            clear Hc290
            by_cases c30 : t572 = true
            ·subst c30
             rw [if_pos rfl] at H
             have H' := Aside0.mk H
             clear H
             have hb_ := SL.at_ (SL.get4 HS.out)
             have hz3000049_0_0 := ((blk_cell hb_ 0).trans rfl : _ = some (.int .i64 a1_0))
             have hz3000049_1_0 := ((blk_cell hb_ 1).trans rfl : _ = some (.int .i64 a1_1))
             have hz3000049_2_0 := ((blk_cell hb_ 2).trans rfl : _ = some (.int .i64 a1_2))
             have hz3000049_3_0 := ((blk_cell hb_ 3).trans rfl : _ = some (.int .i64 a1_3))
             have hz3000049_4_0 := ((blk_cell hb_ 4).trans rfl : _ = some (.int .i64 a1_4))
             have hz3000049_5_0 := ((blk_cell hb_ 5).trans rfl : _ = some (.int .i64 a1_5))
             have hz3000049_6_0 := ((blk_cell hb_ 6).trans rfl : _ = some (.int .i64 a1_6))
             have hz3000049_7_0 := ((blk_cell hb_ 7).trans rfl : _ = some (.int .i64 a1_7))
             have hz3000049_8_0 := ((blk_cell hb_ 8).trans rfl : _ = some (.int .i64 a1_8))
             have hz3000049_9_0 := ((blk_cell hb_ 9).trans rfl : _ = some (.int .i64 a1_9))
             have hz3000049_10_0 := ((blk_cell hb_ 10).trans rfl : _ = some (.int .i64 a1_10))
             have hz3000049_11_0 := ((blk_cell hb_ 11).trans rfl : _ = some (.int .i64 a1_11))
             have hz3000049_12_0 := ((blk_cell hb_ 12).trans rfl : _ = some (.int .i64 a1_12))
             have hz3000049_13_0 := ((blk_cell hb_ 13).trans rfl : _ = some (.int .i64 a1_13))
             have hz3000049_14_0 := ((blk_cell hb_ 14).trans rfl : _ = some (.int .i64 a1_14))
             have hz3000049_15_0 := ((blk_cell hb_ 15).trans rfl : _ = some (.int .i64 a1_15))
             clear hb_
             go_wp2_with (first | ((with_reducible refine gate_dst (N := 86) rfl ?_); refine goesL_ (some 86) rfl rfl Try.func18 (by kernel_rfl) rfl #[.slice Az3000053 t565.length cz3000053, .int .i64 t543, .agg #[.int .i64 a1_2, .int .i64 a1_3]] rfl (by (try simp only [List.map_toArray, List.map_cons, List.map_nil]); first | done | rfl | (simp; done)) ?_; have hs0_ := (SL.get1 HS.out); obtain ⟨U1_, hfU1_, hsub1_, hs1_, hro1_, hback1_⟩ := SL.lend (HF.out.keep HK.out) hs0_ (p := fun w_ => Kd.C k37 w_ Az3000053 t565.length t565) (fun w_ T_ h_ => (Qs_c h_).2.2); (with_reducible refine (zone_Shift.slcalls k _ _ _ _ _ _ _ _ _ _ _ hfU1_ hs1_ hro1_ (SL.row_c (SL.get1 HS.out)).2.1 Hc25.out).mono ?_); rintro e_ w31 ⟨Az3000054, cz3000054, rfl, hsr_, hkr_⟩; refine ⟨_, rfl, ?_⟩; replace HS := Aside0.mk ((hback1_ _ _ hkr_ hsr_)); replace HK := Aside0.mk (HK.out.trans (Keep.sub hkr_ (fun k_ h_ => hsub1_ k_ h_))); (try clear hz3000049_0_0 hz3000049_1_0 hz3000049_2_0 hz3000049_3_0 hz3000049_4_0 hz3000049_5_0 hz3000049_6_0 hz3000049_7_0 hz3000049_8_0 hz3000049_9_0 hz3000049_10_0 hz3000049_11_0 hz3000049_12_0 hz3000049_13_0 hz3000049_14_0 hz3000049_15_0)) | ((with_reducible refine gate_dst (N := 90) rfl ?_); refine goesL_ (some 90) rfl rfl Try.func14 (by kernel_rfl) rfl #[.slice Az3000053 t565.length cz3000053] rfl (by (try simp only [List.map_toArray, List.map_cons, List.map_nil]); first | done | rfl | (simp; done)) ?_; (with_reducible refine (zone_Right.calls k _ _ _ _ _ (SL.row_c HS.out).2.2 (SL.row_c HS.out).2.1 Hc26.out).mono ?_); rintro e_ w32 ⟨rfl, hb_⟩; refine ⟨_, rfl, ?_⟩; replace HS := Aside0.mk (HS.out.below hb_); replace HK := Aside0.mk (HK.out.trans (Keep.below hb_))) | ((with_reducible refine gate_dst (N := 99) rfl ?_); (try (refine gate_guard (by rfl) ?_; dsimp only)); refine goesL_ (some 99) rfl rfl Try.func10 (by kernel_rfl) rfl #[.slice Az3000054 t567.length cz3000054, .slice Az3000051 t542.length cz3000051] rfl (by (try simp only [List.map_toArray, List.map_cons, List.map_nil]); first | done | rfl | (simp; done)) ?_; (with_reducible refine (barrowref33_Same.calls k _ _ _ _ _ _ _ _ (SL.row_c (SL.get1 HS.out)).2.2 (SL.row_c (SL.get1 HS.out)).2.1 (SL.row_c (SL.get2 HS.out)).2.2 (SL.row_c (SL.get2 HS.out)).2.1 Hc29.out).mono ?_); rintro e_ w33 ⟨rfl, hb_⟩; refine ⟨_, rfl, ?_⟩; replace hb_ := Drawn0.below hb_; replace HS := Aside0.mk (HS.out.below hb_); replace HK := Aside0.mk (HK.out.trans (Keep.below hb_))))
             replace HS := Aside0.mk (SL.get4 (SL.get3 (SL.get4 (SL.get4 (SL.get4 (SL.tail (SL.get1 HS.out)))))))
             go_meet
             case rel => exact ⟨k, H', ⟨by omega⟩, HS, HK⟩
            ·replace c30 := Bool.eq_false_iff.mpr c30
             subst c30
             rw [if_neg (show ¬ (false = true) by decide)] at H
             exact absurd H (by simp)
           ·rw [if_neg c28] at H
            exact absurd H (by simp)
          ·replace c27 := Bool.eq_false_iff.mpr c27
           subst c27
           rw [if_neg (show ¬ (false = true) by decide)] at H
           exact absurd H (by simp)
         ·rw [if_neg c24] at H
          have c24b0 : (t566 == 0) = false := beq_eq_false_iff_ne.mpr c24
          have c24b1 : (t566 != 0) = true := bne_iff_ne.mpr c24
          have H' := Aside0.mk H
          clear H
          go_wp2
          go_meet
          case rel => exact ⟨k, H', ⟨by omega⟩, HS, HK⟩
        case rest =>
         clear H' HS HK
         try clear hz3000049_0_0 hz3000049_1_0 hz3000049_2_0 hz3000049_3_0 hz3000049_4_0 hz3000049_5_0 hz3000049_6_0 hz3000049_7_0 hz3000049_8_0 hz3000049_9_0 hz3000049_10_0 hz3000049_11_0 hz3000049_12_0 hz3000049_13_0 hz3000049_14_0 hz3000049_15_0
         try clear hz3000050_0_0 hz3000050_1_0
         obtain ⟨kq, HA, HQ1, HS, HK⟩ := hcut
         cases kq with
         | zero => exact absurd HA.out (by simp [barrowlaw33_ZoneStays.l899])
         | succ k1 =>
          have H := HA.out
          clear HA
          simp only [barrowlaw33_ZoneStays.l899] at H
          replace H := Option.bind_eq_some_iff.1 H
          obtain ⟨⟨t573, t574⟩, Hc340, H⟩ := H
          try dsimp only at H
          have Hc34 := Aside0.mk Hc340
          clear Hc340
          have H' := Aside0.mk H
          clear H
          go_wp2_with (first | ((with_reducible refine gate_dst (N := 107) rfl ?_); refine goesL_ (some 107) rfl rfl Try.func8 (by kernel_rfl) rfl #[.slice Az3000051 t542.length cz3000051, .slice A2 l2.length c2, .int .i64 a3] rfl (by (try simp only [List.map_toArray, List.map_cons, List.map_nil]); first | done | rfl | (simp; done)) ?_; have hs0_ := HS.out; obtain ⟨U1_, hfU1_, hsub1_, hs1_, hro1_, hback1_⟩ := SL.lend (HF.out.keep HK.out) hs0_ (p := fun w_ => Kd.C k37 w_ Az3000051 t542.length t542) (fun w_ T_ h_ => (Qs_c h_).2.2); (with_reducible refine (zone_Tick.slcalls k1 _ _ _ _ _ _ _ _ _ _ _ _ hfU1_ hs1_ hro1_ (SL.row_c HS.out).2.1 (RO.sub (HR2.out.keep HK.out) (fun k_ h_ => hsub1_ k_ h_)) HC2.out Hc34.out).mono ?_); rintro e_ w35 ⟨Az3000055, cz3000055, Az3000056, cz3000056, rfl, hsr_, hkr_⟩; refine ⟨_, rfl, ?_⟩; replace HS := Aside0.mk ((hback1_ _ _ hkr_ hsr_)); replace HK := Aside0.mk (HK.out.trans (Keep.sub hkr_ (fun k_ h_ => hsub1_ k_ h_)))))
          try go_simp
          go_loopg [23] k1 (fun kq v23 w' => ∃ (x23_0 : Int), v23 = .int .i64 x23_0 ∧ Aside0 (barrowlaw33_ZoneStays.l0 kq l2 x23_0 t539 t542 t573 t574 = some r) ∧ Aside0 (kq ≤ k1) ∧ Aside0 (SL (row k37 37 (.slice Az3000051 t542.length cz3000051) t542 :: row k37 37 (.slice Az3000055 t573.length cz3000055) t573 :: row k56 56 (.slice Az3000056 t574.length cz3000056) t574 :: row k37 37 (.slice Az3000053 t565.length cz3000053) t565 :: row k37 37 (.slice Az3000052 t559.length cz3000052) t559 :: cells g3000050 31 [.int .i64 a4_0, .int .i64 a4_1].toArray :: cells g3000049 37 [.int .i64 a1_0, .int .i64 a1_1, .int .i64 a1_2, .int .i64 a1_3, .int .i64 a1_4, .int .i64 a1_5, .int .i64 a1_6, .int .i64 a1_7, .int .i64 a1_8, .int .i64 a1_9, .int .i64 a1_10, .int .i64 a1_11, .int .i64 a1_12, .int .i64 a1_13, .int .i64 a1_14, .int .i64 a1_15].toArray :: L) w' S) ∧ Aside0 (Keep S w w'))
          case atStart => exact ⟨(0), (by first | rfl | (simp; done) | (simp [*]; done)), H', ⟨Nat.le_refl _⟩, HS, HK⟩
          case round =>
           clear H' HS HK
           obtain ⟨x23_0, rfl, HA, HQ2, HS, HK⟩ := hrel
           cases gk with
           | zero => exact absurd HA.out (by simp [barrowlaw33_ZoneStays.l0])
           | succ k2 =>
            have H := HA.out
            clear HA
            simp only [barrowlaw33_ZoneStays.l0] at H
            by_cases c36 : x23_0 < (t574.length : Int)
            ·rw [if_pos c36] at H
             have c36b0 : decide (x23_0 < (t574.length : Int)) = true := decide_eq_true c36
             clear c36
             have H' := Aside0.mk H
             clear H
             go_wp2
             go_loopg [24, 25] k2 (fun kq v24 v25 w' => ∃ (x24_1 : Bool) (x25_1 : Int), v24 = .bool x24_1 ∧ v25 = .int .i64 x25_1 ∧ Aside0 (barrowlaw33_ZoneStays.l1 kq l2 x23_0 x24_1 x25_1 t539 t542 t573 t574 = some r) ∧ Aside0 (kq ≤ k2) ∧ Aside0 (SL (row k37 37 (.slice Az3000051 t542.length cz3000051) t542 :: row k37 37 (.slice Az3000055 t573.length cz3000055) t573 :: row k56 56 (.slice Az3000056 t574.length cz3000056) t574 :: row k37 37 (.slice Az3000053 t565.length cz3000053) t565 :: row k37 37 (.slice Az3000052 t559.length cz3000052) t559 :: cells g3000050 31 [.int .i64 a4_0, .int .i64 a4_1].toArray :: cells g3000049 37 [.int .i64 a1_0, .int .i64 a1_1, .int .i64 a1_2, .int .i64 a1_3, .int .i64 a1_4, .int .i64 a1_5, .int .i64 a1_6, .int .i64 a1_7, .int .i64 a1_8, .int .i64 a1_9, .int .i64 a1_10, .int .i64 a1_11, .int .i64 a1_12, .int .i64 a1_13, .int .i64 a1_14, .int .i64 a1_15].toArray :: L) w' S) ∧ Aside0 (Keep S w w'))
             case atStart => exact ⟨(false), (0), (by first | rfl | (simp; done) | (simp [*]; done)), (by first | rfl | (simp; done) | (simp [*]; done)), H', ⟨Nat.le_refl _⟩, HS, HK⟩
             case round =>
              clear H' HS HK
              obtain ⟨x24_1, x25_1, rfl, rfl, HA, HQ3, HS, HK⟩ := hrel
              cases gk with
              | zero => exact absurd HA.out (by simp [barrowlaw33_ZoneStays.l1])
              | succ k3 =>
               have H := HA.out
               clear HA
               simp only [barrowlaw33_ZoneStays.l1] at H
               by_cases c37 : x25_1 < (t542.length : Int)
               ·rw [if_pos c37] at H
                have c37b0 : decide (x25_1 < (t542.length : Int)) = true := decide_eq_true c37
                clear c37
                have H' := Aside0.mk H
                clear H
                go_wp2
                go_loopg [24, 26] k3 (fun kq v24 v26 w' => ∃ (x24_2 : Bool) (x26_2 : Int), v24 = .bool x24_2 ∧ v26 = .int .i64 x26_2 ∧ Aside0 (barrowlaw33_ZoneStays.l2 kq l2 x23_0 x25_1 x24_2 x26_2 t539 t542 t573 t574 = some r) ∧ Aside0 (kq ≤ k3) ∧ Aside0 (SL (row k37 37 (.slice Az3000051 t542.length cz3000051) t542 :: row k37 37 (.slice Az3000055 t573.length cz3000055) t573 :: row k56 56 (.slice Az3000056 t574.length cz3000056) t574 :: row k37 37 (.slice Az3000053 t565.length cz3000053) t565 :: row k37 37 (.slice Az3000052 t559.length cz3000052) t559 :: cells g3000050 31 [.int .i64 a4_0, .int .i64 a4_1].toArray :: cells g3000049 37 [.int .i64 a1_0, .int .i64 a1_1, .int .i64 a1_2, .int .i64 a1_3, .int .i64 a1_4, .int .i64 a1_5, .int .i64 a1_6, .int .i64 a1_7, .int .i64 a1_8, .int .i64 a1_9, .int .i64 a1_10, .int .i64 a1_11, .int .i64 a1_12, .int .i64 a1_13, .int .i64 a1_14, .int .i64 a1_15].toArray :: L) w' S) ∧ Aside0 (Keep S w w'))
                case atStart => exact ⟨(x24_1), (0), (by first | rfl | (simp; done) | (simp [*]; done)), (by first | rfl | (simp; done) | (simp [*]; done)), H', ⟨Nat.le_refl _⟩, HS, HK⟩
                case round =>
                 clear H' HS HK
                 obtain ⟨x24_2, x26_2, rfl, rfl, HA, HQ4, HS, HK⟩ := hrel
                 cases gk with
                 | zero => exact absurd HA.out (by simp [barrowlaw33_ZoneStays.l2])
                 | succ k4 =>
                  have H := HA.out
                  clear HA
                  simp only [barrowlaw33_ZoneStays.l2] at H
                  by_cases c38 : x26_2 < (l2.length : Int)
                  ·rw [if_pos c38] at H
                   have c38b0 : decide (x26_2 < (l2.length : Int)) = true := decide_eq_true c38
                   clear c38
                   by_cases c39 : x24_2 = true
                   ·subst c39
                    rw [if_pos rfl] at H
                    have H' := Aside0.mk H
                    clear H
                    try go_wp2
                    refine start_ (n := 49) (S := fun w' => True) (ds := []) #[O,O,O,O,O,O,O,O,O,O,O,O,O,O,O,O,O,O,O,O,O,O,O,O,O,O,O,O,O,O,O,O,O,O,O,O,O,O,O,O,O,O,O,O,O,O,O,O,O] (by kernel_rfl) rfl rfl trivial (fun hHeld => ?_); refine with_tabW barrowlaw33_ZoneStays.tab26 barrowlaw33_ZoneStays.bits26 (fun HT_ HW_ => ?_)
                    replace HK := Aside0.mk (Keep.drew HK.out)
                    replace HS := Aside0.mk (SL.drew HS.out)
                    refine pV 0 128 ?_ (mq 49 1) rfl rfl (any_of HT_.out (by kernel_rfl)) (fun _ _ _ h => h) (by rfl) ?_ ?_ ?_ ?_; rotate_left; · (intro w'; go_simp; with_reducible rfl)
                    rotate_left; · (simp only [Act.put, sT, sZ, sS, i64_w, i32_w]; rfl)
                    refine pV 1 129 ?_ (mq 49 3) rfl rfl (any_of HT_.out (by kernel_rfl)) (fun _ _ _ h => h) (by rfl) ?_ ?_ ?_ ?_; rotate_left; · (intro w'; go_simp; with_reducible rfl)
                    rotate_left; · (simp only [Act.put, sT, sZ, sS, i64_w, i32_w]; rfl)
                    refine pO 2 130 (mq 49 7) rfl rfl (any_of HT_.out (by kernel_rfl)) (fun _ _ _ h => h) (by rfl) ?_ ?_ ?_; rotate_left; · (simp only [Act.put, sT, sZ, sS, i64_w, i32_w]; rfl)
                    refine pO 3 131 (mq 49 15) rfl rfl (any_of HT_.out (by kernel_rfl)) (fun _ _ _ h => h) (by rfl) ?_ ?_ ?_; rotate_left; · (simp only [Act.put, sT, sZ, sS, i64_w, i32_w]; rfl)
                    refine pO 4 132 (mq 49 31) rfl rfl (any_of HT_.out (by kernel_rfl)) (fun _ _ _ h => h) (by rfl) ?_ ?_ ?_; rotate_left; · (simp only [Act.put, sT, sZ, sS, i64_w, i32_w]; rfl)
                    refine pO 5 133 (mq 49 63) rfl rfl (any_of HT_.out (by kernel_rfl)) (fun _ _ _ h => h) (by rfl) ?_ ?_ ?_; rotate_left; · (simp only [Act.put, sT, sZ, sS, i64_w, i32_w]; rfl)
                    refine pO 6 134 (mq 49 127) rfl rfl (any_of HT_.out (by kernel_rfl)) (fun _ _ _ h => h) (by rfl) ?_ ?_ ?_; rotate_left; · (simp only [Act.put, sT, sZ, sS, i64_w, i32_w]; rfl)
                    refine pO 7 135 (mq 49 255) rfl rfl (any_of HT_.out (by kernel_rfl)) (fun _ _ _ h => h) (by rfl) ?_ ?_ ?_; rotate_left; · (simp only [Act.put, sT, sZ, sS, i64_w, i32_w]; rfl)
                    refine pO 8 136 (mq 49 511) rfl rfl (any_of HT_.out (by kernel_rfl)) (fun _ _ _ h => h) (by rfl) ?_ ?_ ?_; rotate_left; · (simp only [Act.put, sT, sZ, sS, i64_w, i32_w]; rfl)
                    refine pO 9 137 (mq 49 1023) rfl rfl (any_of HT_.out (by kernel_rfl)) (fun _ _ _ h => h) (by rfl) ?_ ?_ ?_; rotate_left; · (simp only [Act.put, sT, sZ, sS, i64_w, i32_w]; rfl)
                    refine pO 10 138 (mq 49 2047) rfl rfl (any_of HT_.out (by kernel_rfl)) (fun _ _ _ h => h) (by rfl) ?_ ?_ ?_; rotate_left; · (simp only [Act.put, sT, sZ, sS, i64_w, i32_w]; rfl)
                    refine pO 11 139 (mq 49 4095) rfl rfl (any_of HT_.out (by kernel_rfl)) (fun _ _ _ h => h) (by rfl) ?_ ?_ ?_; rotate_left; · (simp only [Act.put, sT, sZ, sS, i64_w, i32_w]; rfl)
                    refine pO 12 140 (mq 49 8191) rfl rfl (any_of HT_.out (by kernel_rfl)) (fun _ _ _ h => h) (by rfl) ?_ ?_ ?_; rotate_left; · (simp only [Act.put, sT, sZ, sS, i64_w, i32_w]; rfl)
                    refine pO 13 141 (mq 49 16383) rfl rfl (any_of HT_.out (by kernel_rfl)) (fun _ _ _ h => h) (by rfl) ?_ ?_ ?_; rotate_left; · (simp only [Act.put, sT, sZ, sS, i64_w, i32_w]; rfl)
                    refine pO 14 142 (mq 49 32767) rfl rfl (any_of HT_.out (by kernel_rfl)) (fun _ _ _ h => h) (by rfl) ?_ ?_ ?_; rotate_left; · (simp only [Act.put, sT, sZ, sS, i64_w, i32_w]; rfl)
                    refine pO 15 143 (mq 49 65535) rfl rfl (any_of HT_.out (by kernel_rfl)) (fun _ _ _ h => h) (by rfl) ?_ ?_ ?_; rotate_left; · (simp only [Act.put, sT, sZ, sS, i64_w, i32_w]; rfl)
                    refine pO 16 144 (mq 49 131071) rfl rfl (any_of HT_.out (by kernel_rfl)) (fun _ _ _ h => h) (by rfl) ?_ ?_ ?_; rotate_left; · (simp only [Act.put, sT, sZ, sS, i64_w, i32_w]; rfl)
                    refine pO 17 145 (mq 49 262143) rfl rfl (any_of HT_.out (by kernel_rfl)) (fun _ _ _ h => h) (by rfl) ?_ ?_ ?_; rotate_left; · (simp only [Act.put, sT, sZ, sS, i64_w, i32_w]; rfl)
                    refine pO 18 146 (mq 49 524287) rfl rfl (any_of HT_.out (by kernel_rfl)) (fun _ _ _ h => h) (by rfl) ?_ ?_ ?_; rotate_left; · (simp only [Act.put, sT, sZ, sS, i64_w, i32_w]; rfl)
                    refine pO 19 147 (mq 49 0xfffff) rfl rfl (any_of HT_.out (by kernel_rfl)) (fun _ _ _ h => h) (by rfl) ?_ ?_ ?_; rotate_left; · (simp only [Act.put, sT, sZ, sS, i64_w, i32_w]; rfl)
                    refine pO 20 148 (mq 49 0x1fffff) rfl rfl (any_of HT_.out (by kernel_rfl)) (fun _ _ _ h => h) (by rfl) ?_ ?_ ?_; rotate_left; · (simp only [Act.put, sT, sZ, sS, i64_w, i32_w]; rfl)
                    refine pO 21 149 (mq 49 0x3fffff) rfl rfl (any_of HT_.out (by kernel_rfl)) (fun _ _ _ h => h) (by rfl) ?_ ?_ ?_; rotate_left; · (simp only [Act.put, sT, sZ, sS, i64_w, i32_w]; rfl)
                    refine pO 22 150 (mq 49 0x7fffff) rfl rfl (any_of HT_.out (by kernel_rfl)) (fun _ _ _ h => h) (by rfl) ?_ ?_ ?_; rotate_left; · (simp only [Act.put, sT, sZ, sS, i64_w, i32_w]; rfl)
                    refine pO 23 151 (mq 49 0xffffff) rfl rfl (any_of HT_.out (by kernel_rfl)) (fun _ _ _ h => h) (by rfl) ?_ ?_ ?_; rotate_left; · (simp only [Act.put, sT, sZ, sS, i64_w, i32_w]; rfl)
                    refine pO 24 152 (mq 49 0x1ffffff) rfl rfl (any_of HT_.out (by kernel_rfl)) (fun _ _ _ h => h) (by rfl) ?_ ?_ ?_; rotate_left; · (simp only [Act.put, sT, sZ, sS, i64_w, i32_w]; rfl)
                    refine pO 25 153 (mq 49 0x3ffffff) rfl rfl (any_of HT_.out (by kernel_rfl)) (fun _ _ _ h => h) (by rfl) ?_ ?_ ?_; rotate_left; · (simp only [Act.put, sT, sZ, sS, i64_w, i32_w]; rfl)
                    refine pO 26 154 (mq 49 0x7ffffff) rfl rfl (any_of HT_.out (by kernel_rfl)) (fun _ _ _ h => h) (by rfl) ?_ ?_ ?_; rotate_left; · (simp only [Act.put, sT, sZ, sS, i64_w, i32_w]; rfl)
                    refine pO 27 155 (mq 49 0xfffffff) rfl rfl (any_of HT_.out (by kernel_rfl)) (fun _ _ _ h => h) (by rfl) ?_ ?_ ?_; rotate_left; · (simp only [Act.put, sT, sZ, sS, i64_w, i32_w]; rfl)
                    refine pO 28 156 (mq 49 0x1fffffff) rfl rfl (any_of HT_.out (by kernel_rfl)) (fun _ _ _ h => h) (by rfl) ?_ ?_ ?_; rotate_left; · (simp only [Act.put, sT, sZ, sS, i64_w, i32_w]; rfl)
                    refine pO 29 157 (mq 49 0x3fffffff) rfl rfl (any_of HT_.out (by kernel_rfl)) (fun _ _ _ h => h) (by rfl) ?_ ?_ ?_; rotate_left; · (simp only [Act.put, sT, sZ, sS, i64_w, i32_w]; rfl)
                    refine pO 30 158 (mq 49 0x7fffffff) rfl rfl (any_of HT_.out (by kernel_rfl)) (fun _ _ _ h => h) (by rfl) ?_ ?_ ?_; rotate_left; · (simp only [Act.put, sT, sZ, sS, i64_w, i32_w]; rfl)
                    refine pO 31 159 (mq 49 0xffffffff) rfl rfl (any_of HT_.out (by kernel_rfl)) (fun _ _ _ h => h) (by rfl) ?_ ?_ ?_; rotate_left; · (simp only [Act.put, sT, sZ, sS, i64_w, i32_w]; rfl)
                    refine pO 32 160 (mq 49 0x1ffffffff) rfl rfl (any_of HT_.out (by kernel_rfl)) (fun _ _ _ h => h) (by rfl) ?_ ?_ ?_; rotate_left; · (simp only [Act.put, sT, sZ, sS, i64_w, i32_w]; rfl)
                    refine pO 33 161 (mq 49 0x3ffffffff) rfl rfl (any_of HT_.out (by kernel_rfl)) (fun _ _ _ h => h) (by rfl) ?_ ?_ ?_; rotate_left; · (simp only [Act.put, sT, sZ, sS, i64_w, i32_w]; rfl)
                    refine pO 34 162 (mq 49 0x7ffffffff) rfl rfl (any_of HT_.out (by kernel_rfl)) (fun _ _ _ h => h) (by rfl) ?_ ?_ ?_; rotate_left; · (simp only [Act.put, sT, sZ, sS, i64_w, i32_w]; rfl)
                    refine pO 35 163 (mq 49 0xfffffffff) rfl rfl (any_of HT_.out (by kernel_rfl)) (fun _ _ _ h => h) (by rfl) ?_ ?_ ?_; rotate_left; · (simp only [Act.put, sT, sZ, sS, i64_w, i32_w]; rfl)
                    refine pO 36 164 (mq 49 0x1fffffffff) rfl rfl (any_of HT_.out (by kernel_rfl)) (fun _ _ _ h => h) (by rfl) ?_ ?_ ?_; rotate_left; · (simp only [Act.put, sT, sZ, sS, i64_w, i32_w]; rfl)
                    refine pO 37 165 (mq 49 0x3fffffffff) rfl rfl (any_of HT_.out (by kernel_rfl)) (fun _ _ _ h => h) (by rfl) ?_ ?_ ?_; rotate_left; · (simp only [Act.put, sT, sZ, sS, i64_w, i32_w]; rfl)
                    refine pO 38 166 (mq 49 0x7fffffffff) rfl rfl (any_of HT_.out (by kernel_rfl)) (fun _ _ _ h => h) (by rfl) ?_ ?_ ?_; rotate_left; · (simp only [Act.put, sT, sZ, sS, i64_w, i32_w]; rfl)
                    refine pO 39 167 (mq 49 0xffffffffff) rfl rfl (any_of HT_.out (by kernel_rfl)) (fun _ _ _ h => h) (by rfl) ?_ ?_ ?_; rotate_left; · (simp only [Act.put, sT, sZ, sS, i64_w, i32_w]; rfl)
                    refine pO 40 168 (mq 49 0x1ffffffffff) rfl rfl (any_of HT_.out (by kernel_rfl)) (fun _ _ _ h => h) (by rfl) ?_ ?_ ?_; rotate_left; · (simp only [Act.put, sT, sZ, sS, i64_w, i32_w]; rfl)
                    refine pO 41 169 (mq 49 0x3ffffffffff) rfl rfl (any_of HT_.out (by kernel_rfl)) (fun _ _ _ h => h) (by rfl) ?_ ?_ ?_; rotate_left; · (simp only [Act.put, sT, sZ, sS, i64_w, i32_w]; rfl)
                    refine pO 42 170 (mq 49 0x7ffffffffff) rfl rfl (any_of HT_.out (by kernel_rfl)) (fun _ _ _ h => h) (by rfl) ?_ ?_ ?_; rotate_left; · (simp only [Act.put, sT, sZ, sS, i64_w, i32_w]; rfl)
                    refine pO 43 171 (mq 49 0xfffffffffff) rfl rfl (any_of HT_.out (by kernel_rfl)) (fun _ _ _ h => h) (by rfl) ?_ ?_ ?_; rotate_left; · (simp only [Act.put, sT, sZ, sS, i64_w, i32_w]; rfl)
                    refine pO 44 172 (mq 49 0x1fffffffffff) rfl rfl (any_of HT_.out (by kernel_rfl)) (fun _ _ _ h => h) (by rfl) ?_ ?_ ?_; rotate_left; · (simp only [Act.put, sT, sZ, sS, i64_w, i32_w]; rfl)
                    refine pO 45 173 (mq 49 0x3fffffffffff) rfl rfl (any_of HT_.out (by kernel_rfl)) (fun _ _ _ h => h) (by rfl) ?_ ?_ ?_; rotate_left; · (simp only [Act.put, sT, sZ, sS, i64_w, i32_w]; rfl)
                    refine pO 46 174 (mq 49 0x7fffffffffff) rfl rfl (any_of HT_.out (by kernel_rfl)) (fun _ _ _ h => h) (by rfl) ?_ ?_ ?_; rotate_left; · (simp only [Act.put, sT, sZ, sS, i64_w, i32_w]; rfl)
                    refine pV 47 175 ?_ (mq 49 0xffffffffffff) rfl rfl (any_of HT_.out (by kernel_rfl)) (fun _ _ _ h => h) (by rfl) ?_ ?_ ?_ ?_; rotate_left; · (intro w'; go_simp; with_reducible rfl)
                    rotate_left; · (simp only [Act.put, sT, sZ, sS, i64_w, i32_w]; rfl)
                    refine pV 48 24 ?_ (mq 49 0x1ffffffffffff) rfl rfl (any_of HT_.out (by kernel_rfl)) (fun _ _ _ h => h) (by rfl) ?_ ?_ ?_ ?_; rotate_left; · (intro w'; go_simp; with_reducible rfl)
                    rotate_left; · (simp only [Act.put, sT, sZ, sS, i64_w, i32_w]; rfl)
                    refine done_ (done_of HT_.out (by kernel_rfl)) ?_
                    try go_wp2
                    go_roundg k4
                    case measure => have := HQ1.out; have := HQ2.out; have := HQ3.out; have := HQ4.out; omega
                    case rel => exact ⟨(true), (wrap64 (x26_2 + 1)), (by first | rfl | (simp; done) | (simp [*]; done)), (by first | rfl | (simp; done) | (simp [*]; done)), H', ⟨by have := HQ1.out; have := HQ2.out; have := HQ3.out; have := HQ4.out; omega⟩, HS, HK⟩
                   ·replace c39 := Bool.eq_false_iff.mpr c39
                    subst c39
                    rw [if_neg (show ¬ (false = true) by decide)] at H
                    by_cases c40 : 0 ≤ x25_1
                    ·rw [if_pos c40] at H
                     have c40b0 : decide (0 ≤ x25_1) = true := decide_eq_true c40
                     clear c40
                     by_cases c41 : x25_1 < (t542.length : Int)
                     ·rw [if_pos c41] at H
                      have c41b0 : decide (x25_1 < (t542.length : Int)) = true := decide_eq_true c41
                      clear c41
                      by_cases c42 : 0 ≤ x23_0
                      ·rw [if_pos c42] at H
                       have c42b0 : decide (0 ≤ x23_0) = true := decide_eq_true c42
                       clear c42
                       by_cases c43 : x23_0 < (t574.length : Int)
                       ·rw [if_pos c43] at H
                        have c43b0 : decide (x23_0 < (t574.length : Int)) = true := decide_eq_true c43
                        clear c43
                        by_cases c44 : ((rd_T37 t542 x25_1).f0) = ((rd_T56 t574 x23_0).f0)
                        ·rw [if_pos c44] at H
                         have c44b0 : (((rd_T37 t542 x25_1).f0) == ((rd_T56 t574 x23_0).f0)) = true := beq_iff_eq.mpr c44
                         have c44b1 : (((rd_T37 t542 x25_1).f0) != ((rd_T56 t574 x23_0).f0)) = false := bne_eq_false_iff_eq.mpr c44
                         clear c44
                         by_cases c45 : 0 ≤ x26_2
                         ·rw [if_pos c45] at H
                          have c45b0 : decide (0 ≤ x26_2) = true := decide_eq_true c45
                          clear c45
                          by_cases c46 : ((rd_T44 l2 x26_2).f0) = ((rd_T56 t574 x23_0).f1)
                          ·rw [if_pos c46] at H
                           have c46b0 : (((rd_T44 l2 x26_2).f0) == ((rd_T56 t574 x23_0).f1)) = true := beq_iff_eq.mpr c46
                           have c46b1 : (((rd_T44 l2 x26_2).f0) != ((rd_T56 t574 x23_0).f1)) = false := bne_eq_false_iff_eq.mpr c46
                           clear c46
                           replace H := Option.bind_eq_some_iff.1 H
                           obtain ⟨t582, Hc470, H⟩ := H
                           try dsimp only at H
                           have Hc47 := Aside0.mk Hc470
                           clear Hc470
                           by_cases c48 : t582 = true
                           ·subst c48
                            rw [if_pos rfl] at H
                            have H' := Aside0.mk H
                            clear H
                            try go_wp2
                            have pq576 : 0 ≤ (x25_1 : Int) := of_decide_eq_true (by first | (with_reducible assumption) | assumption)
                            have qq576 : x25_1 < ((t542.length : Int) : Int) := of_decide_eq_true (by first | (with_reducible assumption) | assumption)
                            obtain ⟨adq576, eq576, hxq576_0, hxq576_1, hxq576_2, hxq576_3, hxq576_4, hxq576_5, hxq576_6, hxq576_7, hxq576_8, hxq576_9, hxq576_10, hxq576_11, hxq576_12, hxq576_13, hxq576_14, hxq576_15⟩ := at_T37 (SL.row_c HS.out).2.2 x25_1 pq576 qq576
                            cases eq576
                            replace pq576 := eq_true pq576
                            replace qq576 := eq_true qq576
                            have pq577 : 0 ≤ (x23_0 : Int) := of_decide_eq_true (by first | (with_reducible assumption) | assumption)
                            have qq577 : x23_0 < ((t574.length : Int) : Int) := of_decide_eq_true (by first | (with_reducible assumption) | assumption)
                            obtain ⟨adq577, eq577, hxq577_0, hxq577_1⟩ := at_T56 (SL.row_c (SL.get2 HS.out)).2.2 x23_0 pq577 qq577
                            cases eq577
                            replace pq577 := eq_true pq577
                            replace qq577 := eq_true qq577
                            have pq578 : 0 ≤ (x26_2 : Int) := of_decide_eq_true (by first | (with_reducible assumption) | assumption)
                            have qq578 : x26_2 < ((l2.length : Int) : Int) := of_decide_eq_true (by first | (with_reducible assumption) | assumption)
                            obtain ⟨adq578, eq578, hxq578_0, hxq578_1, hxq578_2, hxq578_3, hxq578_4, hxq578_5, hxq578_6, hxq578_7, hxq578_8, hxq578_9⟩ := at_T44 (RO.at_ HR2.out HK.out) x26_2 pq578 qq578
                            cases eq578
                            replace pq578 := eq_true pq578
                            replace qq578 := eq_true qq578
                            have pq579 : 0 ≤ (x23_0 : Int) := of_decide_eq_true (by first | (with_reducible assumption) | assumption)
                            have qq579 : x23_0 < ((t574.length : Int) : Int) := of_decide_eq_true (by first | (with_reducible assumption) | assumption)
                            obtain ⟨adq579, eq579, hxq579_0, hxq579_1⟩ := at_T56 (SL.row_c (SL.get2 HS.out)).2.2 x23_0 pq579 qq579
                            obtain rfl : adq577 = adq579 := (by injection eq579)
                            replace pq579 := eq_true pq579
                            replace qq579 := eq_true qq579
                            have pq580 : 0 ≤ (x25_1 : Int) := of_decide_eq_true (by first | (with_reducible assumption) | assumption)
                            have qq580 : x25_1 < ((t542.length : Int) : Int) := of_decide_eq_true (by first | (with_reducible assumption) | assumption)
                            obtain ⟨adq580, eq580, hxq580_0, hxq580_1, hxq580_2, hxq580_3, hxq580_4, hxq580_5, hxq580_6, hxq580_7, hxq580_8, hxq580_9, hxq580_10, hxq580_11, hxq580_12, hxq580_13, hxq580_14, hxq580_15⟩ := at_T37 (SL.row_c HS.out).2.2 x25_1 pq580 qq580
                            obtain rfl : adq576 = adq580 := (by injection eq580)
                            replace pq580 := eq_true pq580
                            replace qq580 := eq_true qq580
                            have pq581 : 0 ≤ (x26_2 : Int) := of_decide_eq_true (by first | (with_reducible assumption) | assumption)
                            have qq581 : x26_2 < ((l2.length : Int) : Int) := of_decide_eq_true (by first | (with_reducible assumption) | assumption)
                            obtain ⟨adq581, eq581, hxq581_0, hxq581_1, hxq581_2, hxq581_3, hxq581_4, hxq581_5, hxq581_6, hxq581_7, hxq581_8, hxq581_9⟩ := at_T44 (RO.at_ HR2.out HK.out) x26_2 pq581 qq581
                            obtain rfl : adq578 = adq581 := (by injection eq581)
                            replace pq581 := eq_true pq581
                            replace qq581 := eq_true qq581
                            have pq583 : 0 ≤ (x26_2 : Int) := of_decide_eq_true (by first | (with_reducible assumption) | assumption)
                            have qq583 : x26_2 < ((l2.length : Int) : Int) := of_decide_eq_true (by first | (with_reducible assumption) | assumption)
                            obtain ⟨adq583, eq583, hxq583_0, hxq583_1, hxq583_2, hxq583_3, hxq583_4, hxq583_5, hxq583_6, hxq583_7, hxq583_8, hxq583_9⟩ := at_T44 (RO.at_ HR2.out HK.out) x26_2 pq583 qq583
                            obtain rfl : adq578 = adq583 := (by injection eq583)
                            replace pq583 := eq_true pq583
                            replace qq583 := eq_true qq583
                            refine start_ (n := 49) (S := fun w' => w'.cell? (adq576.add (x25_1.toNat * 16)) = some (.int .i64 ((rd_T37 t542 x25_1).f0)) ∧ w'.cell? ⟨(adq576.add (x25_1.toNat * 16)).block, (adq576.add (x25_1.toNat * 16)).off + 1, none⟩ = some (.int .i64 ((rd_T37 t542 x25_1).f1.f0)) ∧ w'.cell? ⟨(adq576.add (x25_1.toNat * 16)).block, (adq576.add (x25_1.toNat * 16)).off + 2, none⟩ = some (.int .i64 ((rd_T37 t542 x25_1).f1.f1.f0)) ∧ w'.cell? ⟨(adq576.add (x25_1.toNat * 16)).block, (adq576.add (x25_1.toNat * 16)).off + 3, none⟩ = some (.int .i64 ((rd_T37 t542 x25_1).f1.f1.f1)) ∧ w'.cell? ⟨(adq576.add (x25_1.toNat * 16)).block, (adq576.add (x25_1.toNat * 16)).off + 4, none⟩ = some (.int .i64 ((rd_T37 t542 x25_1).f1.f2.f0)) ∧ w'.cell? ⟨(adq576.add (x25_1.toNat * 16)).block, (adq576.add (x25_1.toNat * 16)).off + 5, none⟩ = some (.int .i64 ((rd_T37 t542 x25_1).f1.f2.f1)) ∧ w'.cell? ⟨(adq576.add (x25_1.toNat * 16)).block, (adq576.add (x25_1.toNat * 16)).off + 6, none⟩ = some (.int .i64 ((rd_T37 t542 x25_1).f1.f3)) ∧ w'.cell? ⟨(adq576.add (x25_1.toNat * 16)).block, (adq576.add (x25_1.toNat * 16)).off + 7, none⟩ = some (.int .i64 ((rd_T37 t542 x25_1).f1.f4)) ∧ w'.cell? ⟨(adq576.add (x25_1.toNat * 16)).block, (adq576.add (x25_1.toNat * 16)).off + 8, none⟩ = some (.int .i64 ((rd_T37 t542 x25_1).f2)) ∧ w'.cell? ⟨(adq576.add (x25_1.toNat * 16)).block, (adq576.add (x25_1.toNat * 16)).off + 9, none⟩ = some (.int .i64 ((rd_T37 t542 x25_1).f3)) ∧ w'.cell? ⟨(adq576.add (x25_1.toNat * 16)).block, (adq576.add (x25_1.toNat * 16)).off + 10, none⟩ = some (.int .i64 ((rd_T37 t542 x25_1).f4)) ∧ w'.cell? ⟨(adq576.add (x25_1.toNat * 16)).block, (adq576.add (x25_1.toNat * 16)).off + 11, none⟩ = some (.int .i64 ((rd_T37 t542 x25_1).f5.f0)) ∧ w'.cell? ⟨(adq576.add (x25_1.toNat * 16)).block, (adq576.add (x25_1.toNat * 16)).off + 12, none⟩ = some (.int .i64 ((rd_T37 t542 x25_1).f5.f1)) ∧ w'.cell? ⟨(adq576.add (x25_1.toNat * 16)).block, (adq576.add (x25_1.toNat * 16)).off + 13, none⟩ = some (.int .i64 ((rd_T37 t542 x25_1).f5.f2)) ∧ w'.cell? ⟨(adq576.add (x25_1.toNat * 16)).block, (adq576.add (x25_1.toNat * 16)).off + 14, none⟩ = some (.int .i64 ((rd_T37 t542 x25_1).f6)) ∧ w'.cell? ⟨(adq576.add (x25_1.toNat * 16)).block, (adq576.add (x25_1.toNat * 16)).off + 15, none⟩ = some (.int .i64 ((rd_T37 t542 x25_1).f7)) ∧ w'.cell? (adq577.add (x23_0.toNat * 2)) = some (.int .i64 ((rd_T56 t574 x23_0).f0)) ∧ w'.cell? ⟨(adq577.add (x23_0.toNat * 2)).block, (adq577.add (x23_0.toNat * 2)).off + 1, none⟩ = some (.int .i64 ((rd_T56 t574 x23_0).f1)) ∧ w'.cell? (adq578.add (x26_2.toNat * 10)) = some (.int .i64 ((rd_T44 l2 x26_2).f0)) ∧ w'.cell? ⟨(adq578.add (x26_2.toNat * 10)).block, (adq578.add (x26_2.toNat * 10)).off + 1, none⟩ = some (.int .i64 ((rd_T44 l2 x26_2).f1)) ∧ w'.cell? ⟨(adq578.add (x26_2.toNat * 10)).block, (adq578.add (x26_2.toNat * 10)).off + 2, none⟩ = some (.int .i64 ((rd_T44 l2 x26_2).f2)) ∧ w'.cell? ⟨(adq578.add (x26_2.toNat * 10)).block, (adq578.add (x26_2.toNat * 10)).off + 3, none⟩ = some (.int .i64 ((rd_T44 l2 x26_2).f3)) ∧ w'.cell? ⟨(adq578.add (x26_2.toNat * 10)).block, (adq578.add (x26_2.toNat * 10)).off + 4, none⟩ = some (.int .i64 ((rd_T44 l2 x26_2).f4)) ∧ w'.cell? ⟨(adq578.add (x26_2.toNat * 10)).block, (adq578.add (x26_2.toNat * 10)).off + 5, none⟩ = some (.int .i64 ((rd_T44 l2 x26_2).f5)) ∧ w'.cell? ⟨(adq578.add (x26_2.toNat * 10)).block, (adq578.add (x26_2.toNat * 10)).off + 6, none⟩ = some (.int .i64 ((rd_T44 l2 x26_2).f6)) ∧ w'.cell? ⟨(adq578.add (x26_2.toNat * 10)).block, (adq578.add (x26_2.toNat * 10)).off + 7, none⟩ = some (.int .i64 ((rd_T44 l2 x26_2).f7.f0)) ∧ w'.cell? ⟨(adq578.add (x26_2.toNat * 10)).block, (adq578.add (x26_2.toNat * 10)).off + 8, none⟩ = some (.int .i64 ((rd_T44 l2 x26_2).f7.f1)) ∧ w'.cell? ⟨(adq578.add (x26_2.toNat * 10)).block, (adq578.add (x26_2.toNat * 10)).off + 9, none⟩ = some (.int .i64 ((rd_T44 l2 x26_2).f8)) ∧ w'.cell? (adq577.add (x23_0.toNat * 2)) = some (.int .i64 ((rd_T56 t574 x23_0).f0)) ∧ w'.cell? ⟨(adq577.add (x23_0.toNat * 2)).block, (adq577.add (x23_0.toNat * 2)).off + 1, none⟩ = some (.int .i64 ((rd_T56 t574 x23_0).f1)) ∧ w'.cell? (adq576.add (x25_1.toNat * 16)) = some (.int .i64 ((rd_T37 t542 x25_1).f0)) ∧ w'.cell? ⟨(adq576.add (x25_1.toNat * 16)).block, (adq576.add (x25_1.toNat * 16)).off + 1, none⟩ = some (.int .i64 ((rd_T37 t542 x25_1).f1.f0)) ∧ w'.cell? ⟨(adq576.add (x25_1.toNat * 16)).block, (adq576.add (x25_1.toNat * 16)).off + 2, none⟩ = some (.int .i64 ((rd_T37 t542 x25_1).f1.f1.f0)) ∧ w'.cell? ⟨(adq576.add (x25_1.toNat * 16)).block, (adq576.add (x25_1.toNat * 16)).off + 3, none⟩ = some (.int .i64 ((rd_T37 t542 x25_1).f1.f1.f1)) ∧ w'.cell? ⟨(adq576.add (x25_1.toNat * 16)).block, (adq576.add (x25_1.toNat * 16)).off + 4, none⟩ = some (.int .i64 ((rd_T37 t542 x25_1).f1.f2.f0)) ∧ w'.cell? ⟨(adq576.add (x25_1.toNat * 16)).block, (adq576.add (x25_1.toNat * 16)).off + 5, none⟩ = some (.int .i64 ((rd_T37 t542 x25_1).f1.f2.f1)) ∧ w'.cell? ⟨(adq576.add (x25_1.toNat * 16)).block, (adq576.add (x25_1.toNat * 16)).off + 6, none⟩ = some (.int .i64 ((rd_T37 t542 x25_1).f1.f3)) ∧ w'.cell? ⟨(adq576.add (x25_1.toNat * 16)).block, (adq576.add (x25_1.toNat * 16)).off + 7, none⟩ = some (.int .i64 ((rd_T37 t542 x25_1).f1.f4)) ∧ w'.cell? ⟨(adq576.add (x25_1.toNat * 16)).block, (adq576.add (x25_1.toNat * 16)).off + 8, none⟩ = some (.int .i64 ((rd_T37 t542 x25_1).f2)) ∧ w'.cell? ⟨(adq576.add (x25_1.toNat * 16)).block, (adq576.add (x25_1.toNat * 16)).off + 9, none⟩ = some (.int .i64 ((rd_T37 t542 x25_1).f3)) ∧ w'.cell? ⟨(adq576.add (x25_1.toNat * 16)).block, (adq576.add (x25_1.toNat * 16)).off + 10, none⟩ = some (.int .i64 ((rd_T37 t542 x25_1).f4)) ∧ w'.cell? ⟨(adq576.add (x25_1.toNat * 16)).block, (adq576.add (x25_1.toNat * 16)).off + 11, none⟩ = some (.int .i64 ((rd_T37 t542 x25_1).f5.f0)) ∧ w'.cell? ⟨(adq576.add (x25_1.toNat * 16)).block, (adq576.add (x25_1.toNat * 16)).off + 12, none⟩ = some (.int .i64 ((rd_T37 t542 x25_1).f5.f1)) ∧ w'.cell? ⟨(adq576.add (x25_1.toNat * 16)).block, (adq576.add (x25_1.toNat * 16)).off + 13, none⟩ = some (.int .i64 ((rd_T37 t542 x25_1).f5.f2)) ∧ w'.cell? ⟨(adq576.add (x25_1.toNat * 16)).block, (adq576.add (x25_1.toNat * 16)).off + 14, none⟩ = some (.int .i64 ((rd_T37 t542 x25_1).f6)) ∧ w'.cell? ⟨(adq576.add (x25_1.toNat * 16)).block, (adq576.add (x25_1.toNat * 16)).off + 15, none⟩ = some (.int .i64 ((rd_T37 t542 x25_1).f7)) ∧ w'.cell? (adq578.add (x26_2.toNat * 10)) = some (.int .i64 ((rd_T44 l2 x26_2).f0)) ∧ w'.cell? ⟨(adq578.add (x26_2.toNat * 10)).block, (adq578.add (x26_2.toNat * 10)).off + 1, none⟩ = some (.int .i64 ((rd_T44 l2 x26_2).f1)) ∧ w'.cell? ⟨(adq578.add (x26_2.toNat * 10)).block, (adq578.add (x26_2.toNat * 10)).off + 2, none⟩ = some (.int .i64 ((rd_T44 l2 x26_2).f2)) ∧ w'.cell? ⟨(adq578.add (x26_2.toNat * 10)).block, (adq578.add (x26_2.toNat * 10)).off + 3, none⟩ = some (.int .i64 ((rd_T44 l2 x26_2).f3)) ∧ w'.cell? ⟨(adq578.add (x26_2.toNat * 10)).block, (adq578.add (x26_2.toNat * 10)).off + 4, none⟩ = some (.int .i64 ((rd_T44 l2 x26_2).f4)) ∧ w'.cell? ⟨(adq578.add (x26_2.toNat * 10)).block, (adq578.add (x26_2.toNat * 10)).off + 5, none⟩ = some (.int .i64 ((rd_T44 l2 x26_2).f5)) ∧ w'.cell? ⟨(adq578.add (x26_2.toNat * 10)).block, (adq578.add (x26_2.toNat * 10)).off + 6, none⟩ = some (.int .i64 ((rd_T44 l2 x26_2).f6)) ∧ w'.cell? ⟨(adq578.add (x26_2.toNat * 10)).block, (adq578.add (x26_2.toNat * 10)).off + 7, none⟩ = some (.int .i64 ((rd_T44 l2 x26_2).f7.f0)) ∧ w'.cell? ⟨(adq578.add (x26_2.toNat * 10)).block, (adq578.add (x26_2.toNat * 10)).off + 8, none⟩ = some (.int .i64 ((rd_T44 l2 x26_2).f7.f1)) ∧ w'.cell? ⟨(adq578.add (x26_2.toNat * 10)).block, (adq578.add (x26_2.toNat * 10)).off + 9, none⟩ = some (.int .i64 ((rd_T44 l2 x26_2).f8)) ∧ w'.cell? (adq578.add (x26_2.toNat * 10)) = some (.int .i64 ((rd_T44 l2 x26_2).f0)) ∧ w'.cell? ⟨(adq578.add (x26_2.toNat * 10)).block, (adq578.add (x26_2.toNat * 10)).off + 1, none⟩ = some (.int .i64 ((rd_T44 l2 x26_2).f1)) ∧ w'.cell? ⟨(adq578.add (x26_2.toNat * 10)).block, (adq578.add (x26_2.toNat * 10)).off + 2, none⟩ = some (.int .i64 ((rd_T44 l2 x26_2).f2)) ∧ w'.cell? ⟨(adq578.add (x26_2.toNat * 10)).block, (adq578.add (x26_2.toNat * 10)).off + 3, none⟩ = some (.int .i64 ((rd_T44 l2 x26_2).f3)) ∧ w'.cell? ⟨(adq578.add (x26_2.toNat * 10)).block, (adq578.add (x26_2.toNat * 10)).off + 4, none⟩ = some (.int .i64 ((rd_T44 l2 x26_2).f4)) ∧ w'.cell? ⟨(adq578.add (x26_2.toNat * 10)).block, (adq578.add (x26_2.toNat * 10)).off + 5, none⟩ = some (.int .i64 ((rd_T44 l2 x26_2).f5)) ∧ w'.cell? ⟨(adq578.add (x26_2.toNat * 10)).block, (adq578.add (x26_2.toNat * 10)).off + 6, none⟩ = some (.int .i64 ((rd_T44 l2 x26_2).f6)) ∧ w'.cell? ⟨(adq578.add (x26_2.toNat * 10)).block, (adq578.add (x26_2.toNat * 10)).off + 7, none⟩ = some (.int .i64 ((rd_T44 l2 x26_2).f7.f0)) ∧ w'.cell? ⟨(adq578.add (x26_2.toNat * 10)).block, (adq578.add (x26_2.toNat * 10)).off + 8, none⟩ = some (.int .i64 ((rd_T44 l2 x26_2).f7.f1)) ∧ w'.cell? ⟨(adq578.add (x26_2.toNat * 10)).block, (adq578.add (x26_2.toNat * 10)).off + 9, none⟩ = some (.int .i64 ((rd_T44 l2 x26_2).f8))) (ds := []) #[O,O,O,O,O,O,O,O,O,O,O,O,O,O,O,O,O,O,O,O,O,O,O,O,O,O,O,O,O,O,O,O,O,O,O,O,O,O,O,O,O,O,O,O,O,O,O,O,O] (by kernel_rfl) rfl rfl ⟨(by obtain ⟨a_, e_, h0_, h1_, h2_, h3_, h4_, h5_, h6_, h7_, h8_, h9_, h10_, h11_, h12_, h13_, h14_, h15_⟩ := at_T37 (SL.row_c HS.out).2.2 x25_1 (of_eq_true pq576) (of_eq_true qq576); obtain rfl := Option.some.inj e_; exact h0_), (by obtain ⟨a_, e_, h0_, h1_, h2_, h3_, h4_, h5_, h6_, h7_, h8_, h9_, h10_, h11_, h12_, h13_, h14_, h15_⟩ := at_T37 (SL.row_c HS.out).2.2 x25_1 (of_eq_true pq576) (of_eq_true qq576); obtain rfl := Option.some.inj e_; exact h1_), (by obtain ⟨a_, e_, h0_, h1_, h2_, h3_, h4_, h5_, h6_, h7_, h8_, h9_, h10_, h11_, h12_, h13_, h14_, h15_⟩ := at_T37 (SL.row_c HS.out).2.2 x25_1 (of_eq_true pq576) (of_eq_true qq576); obtain rfl := Option.some.inj e_; exact h2_), (by obtain ⟨a_, e_, h0_, h1_, h2_, h3_, h4_, h5_, h6_, h7_, h8_, h9_, h10_, h11_, h12_, h13_, h14_, h15_⟩ := at_T37 (SL.row_c HS.out).2.2 x25_1 (of_eq_true pq576) (of_eq_true qq576); obtain rfl := Option.some.inj e_; exact h3_), (by obtain ⟨a_, e_, h0_, h1_, h2_, h3_, h4_, h5_, h6_, h7_, h8_, h9_, h10_, h11_, h12_, h13_, h14_, h15_⟩ := at_T37 (SL.row_c HS.out).2.2 x25_1 (of_eq_true pq576) (of_eq_true qq576); obtain rfl := Option.some.inj e_; exact h4_), (by obtain ⟨a_, e_, h0_, h1_, h2_, h3_, h4_, h5_, h6_, h7_, h8_, h9_, h10_, h11_, h12_, h13_, h14_, h15_⟩ := at_T37 (SL.row_c HS.out).2.2 x25_1 (of_eq_true pq576) (of_eq_true qq576); obtain rfl := Option.some.inj e_; exact h5_), (by obtain ⟨a_, e_, h0_, h1_, h2_, h3_, h4_, h5_, h6_, h7_, h8_, h9_, h10_, h11_, h12_, h13_, h14_, h15_⟩ := at_T37 (SL.row_c HS.out).2.2 x25_1 (of_eq_true pq576) (of_eq_true qq576); obtain rfl := Option.some.inj e_; exact h6_), (by obtain ⟨a_, e_, h0_, h1_, h2_, h3_, h4_, h5_, h6_, h7_, h8_, h9_, h10_, h11_, h12_, h13_, h14_, h15_⟩ := at_T37 (SL.row_c HS.out).2.2 x25_1 (of_eq_true pq576) (of_eq_true qq576); obtain rfl := Option.some.inj e_; exact h7_), (by obtain ⟨a_, e_, h0_, h1_, h2_, h3_, h4_, h5_, h6_, h7_, h8_, h9_, h10_, h11_, h12_, h13_, h14_, h15_⟩ := at_T37 (SL.row_c HS.out).2.2 x25_1 (of_eq_true pq576) (of_eq_true qq576); obtain rfl := Option.some.inj e_; exact h8_), (by obtain ⟨a_, e_, h0_, h1_, h2_, h3_, h4_, h5_, h6_, h7_, h8_, h9_, h10_, h11_, h12_, h13_, h14_, h15_⟩ := at_T37 (SL.row_c HS.out).2.2 x25_1 (of_eq_true pq576) (of_eq_true qq576); obtain rfl := Option.some.inj e_; exact h9_), (by obtain ⟨a_, e_, h0_, h1_, h2_, h3_, h4_, h5_, h6_, h7_, h8_, h9_, h10_, h11_, h12_, h13_, h14_, h15_⟩ := at_T37 (SL.row_c HS.out).2.2 x25_1 (of_eq_true pq576) (of_eq_true qq576); obtain rfl := Option.some.inj e_; exact h10_), (by obtain ⟨a_, e_, h0_, h1_, h2_, h3_, h4_, h5_, h6_, h7_, h8_, h9_, h10_, h11_, h12_, h13_, h14_, h15_⟩ := at_T37 (SL.row_c HS.out).2.2 x25_1 (of_eq_true pq576) (of_eq_true qq576); obtain rfl := Option.some.inj e_; exact h11_), (by obtain ⟨a_, e_, h0_, h1_, h2_, h3_, h4_, h5_, h6_, h7_, h8_, h9_, h10_, h11_, h12_, h13_, h14_, h15_⟩ := at_T37 (SL.row_c HS.out).2.2 x25_1 (of_eq_true pq576) (of_eq_true qq576); obtain rfl := Option.some.inj e_; exact h12_), (by obtain ⟨a_, e_, h0_, h1_, h2_, h3_, h4_, h5_, h6_, h7_, h8_, h9_, h10_, h11_, h12_, h13_, h14_, h15_⟩ := at_T37 (SL.row_c HS.out).2.2 x25_1 (of_eq_true pq576) (of_eq_true qq576); obtain rfl := Option.some.inj e_; exact h13_), (by obtain ⟨a_, e_, h0_, h1_, h2_, h3_, h4_, h5_, h6_, h7_, h8_, h9_, h10_, h11_, h12_, h13_, h14_, h15_⟩ := at_T37 (SL.row_c HS.out).2.2 x25_1 (of_eq_true pq576) (of_eq_true qq576); obtain rfl := Option.some.inj e_; exact h14_), (by obtain ⟨a_, e_, h0_, h1_, h2_, h3_, h4_, h5_, h6_, h7_, h8_, h9_, h10_, h11_, h12_, h13_, h14_, h15_⟩ := at_T37 (SL.row_c HS.out).2.2 x25_1 (of_eq_true pq576) (of_eq_true qq576); obtain rfl := Option.some.inj e_; exact h15_), (by obtain ⟨a_, e_, h0_, h1_⟩ := at_T56 (SL.row_c (SL.get2 HS.out)).2.2 x23_0 (of_eq_true pq577) (of_eq_true qq577); obtain rfl := Option.some.inj e_; exact h0_), (by obtain ⟨a_, e_, h0_, h1_⟩ := at_T56 (SL.row_c (SL.get2 HS.out)).2.2 x23_0 (of_eq_true pq577) (of_eq_true qq577); obtain rfl := Option.some.inj e_; exact h1_), (by obtain ⟨a_, e_, h0_, h1_, h2_, h3_, h4_, h5_, h6_, h7_, h8_, h9_⟩ := at_T44 (RO.at_ HR2.out HK.out) x26_2 (of_eq_true pq578) (of_eq_true qq578); obtain rfl := Option.some.inj e_; exact h0_), (by obtain ⟨a_, e_, h0_, h1_, h2_, h3_, h4_, h5_, h6_, h7_, h8_, h9_⟩ := at_T44 (RO.at_ HR2.out HK.out) x26_2 (of_eq_true pq578) (of_eq_true qq578); obtain rfl := Option.some.inj e_; exact h1_), (by obtain ⟨a_, e_, h0_, h1_, h2_, h3_, h4_, h5_, h6_, h7_, h8_, h9_⟩ := at_T44 (RO.at_ HR2.out HK.out) x26_2 (of_eq_true pq578) (of_eq_true qq578); obtain rfl := Option.some.inj e_; exact h2_), (by obtain ⟨a_, e_, h0_, h1_, h2_, h3_, h4_, h5_, h6_, h7_, h8_, h9_⟩ := at_T44 (RO.at_ HR2.out HK.out) x26_2 (of_eq_true pq578) (of_eq_true qq578); obtain rfl := Option.some.inj e_; exact h3_), (by obtain ⟨a_, e_, h0_, h1_, h2_, h3_, h4_, h5_, h6_, h7_, h8_, h9_⟩ := at_T44 (RO.at_ HR2.out HK.out) x26_2 (of_eq_true pq578) (of_eq_true qq578); obtain rfl := Option.some.inj e_; exact h4_), (by obtain ⟨a_, e_, h0_, h1_, h2_, h3_, h4_, h5_, h6_, h7_, h8_, h9_⟩ := at_T44 (RO.at_ HR2.out HK.out) x26_2 (of_eq_true pq578) (of_eq_true qq578); obtain rfl := Option.some.inj e_; exact h5_), (by obtain ⟨a_, e_, h0_, h1_, h2_, h3_, h4_, h5_, h6_, h7_, h8_, h9_⟩ := at_T44 (RO.at_ HR2.out HK.out) x26_2 (of_eq_true pq578) (of_eq_true qq578); obtain rfl := Option.some.inj e_; exact h6_), (by obtain ⟨a_, e_, h0_, h1_, h2_, h3_, h4_, h5_, h6_, h7_, h8_, h9_⟩ := at_T44 (RO.at_ HR2.out HK.out) x26_2 (of_eq_true pq578) (of_eq_true qq578); obtain rfl := Option.some.inj e_; exact h7_), (by obtain ⟨a_, e_, h0_, h1_, h2_, h3_, h4_, h5_, h6_, h7_, h8_, h9_⟩ := at_T44 (RO.at_ HR2.out HK.out) x26_2 (of_eq_true pq578) (of_eq_true qq578); obtain rfl := Option.some.inj e_; exact h8_), (by obtain ⟨a_, e_, h0_, h1_, h2_, h3_, h4_, h5_, h6_, h7_, h8_, h9_⟩ := at_T44 (RO.at_ HR2.out HK.out) x26_2 (of_eq_true pq578) (of_eq_true qq578); obtain rfl := Option.some.inj e_; exact h9_), (by obtain ⟨a_, e_, h0_, h1_⟩ := at_T56 (SL.row_c (SL.get2 HS.out)).2.2 x23_0 (of_eq_true pq579) (of_eq_true qq579); obtain rfl := Option.some.inj e_; exact h0_), (by obtain ⟨a_, e_, h0_, h1_⟩ := at_T56 (SL.row_c (SL.get2 HS.out)).2.2 x23_0 (of_eq_true pq579) (of_eq_true qq579); obtain rfl := Option.some.inj e_; exact h1_), (by obtain ⟨a_, e_, h0_, h1_, h2_, h3_, h4_, h5_, h6_, h7_, h8_, h9_, h10_, h11_, h12_, h13_, h14_, h15_⟩ := at_T37 (SL.row_c HS.out).2.2 x25_1 (of_eq_true pq580) (of_eq_true qq580); obtain rfl := Option.some.inj e_; exact h0_), (by obtain ⟨a_, e_, h0_, h1_, h2_, h3_, h4_, h5_, h6_, h7_, h8_, h9_, h10_, h11_, h12_, h13_, h14_, h15_⟩ := at_T37 (SL.row_c HS.out).2.2 x25_1 (of_eq_true pq580) (of_eq_true qq580); obtain rfl := Option.some.inj e_; exact h1_), (by obtain ⟨a_, e_, h0_, h1_, h2_, h3_, h4_, h5_, h6_, h7_, h8_, h9_, h10_, h11_, h12_, h13_, h14_, h15_⟩ := at_T37 (SL.row_c HS.out).2.2 x25_1 (of_eq_true pq580) (of_eq_true qq580); obtain rfl := Option.some.inj e_; exact h2_), (by obtain ⟨a_, e_, h0_, h1_, h2_, h3_, h4_, h5_, h6_, h7_, h8_, h9_, h10_, h11_, h12_, h13_, h14_, h15_⟩ := at_T37 (SL.row_c HS.out).2.2 x25_1 (of_eq_true pq580) (of_eq_true qq580); obtain rfl := Option.some.inj e_; exact h3_), (by obtain ⟨a_, e_, h0_, h1_, h2_, h3_, h4_, h5_, h6_, h7_, h8_, h9_, h10_, h11_, h12_, h13_, h14_, h15_⟩ := at_T37 (SL.row_c HS.out).2.2 x25_1 (of_eq_true pq580) (of_eq_true qq580); obtain rfl := Option.some.inj e_; exact h4_), (by obtain ⟨a_, e_, h0_, h1_, h2_, h3_, h4_, h5_, h6_, h7_, h8_, h9_, h10_, h11_, h12_, h13_, h14_, h15_⟩ := at_T37 (SL.row_c HS.out).2.2 x25_1 (of_eq_true pq580) (of_eq_true qq580); obtain rfl := Option.some.inj e_; exact h5_), (by obtain ⟨a_, e_, h0_, h1_, h2_, h3_, h4_, h5_, h6_, h7_, h8_, h9_, h10_, h11_, h12_, h13_, h14_, h15_⟩ := at_T37 (SL.row_c HS.out).2.2 x25_1 (of_eq_true pq580) (of_eq_true qq580); obtain rfl := Option.some.inj e_; exact h6_), (by obtain ⟨a_, e_, h0_, h1_, h2_, h3_, h4_, h5_, h6_, h7_, h8_, h9_, h10_, h11_, h12_, h13_, h14_, h15_⟩ := at_T37 (SL.row_c HS.out).2.2 x25_1 (of_eq_true pq580) (of_eq_true qq580); obtain rfl := Option.some.inj e_; exact h7_), (by obtain ⟨a_, e_, h0_, h1_, h2_, h3_, h4_, h5_, h6_, h7_, h8_, h9_, h10_, h11_, h12_, h13_, h14_, h15_⟩ := at_T37 (SL.row_c HS.out).2.2 x25_1 (of_eq_true pq580) (of_eq_true qq580); obtain rfl := Option.some.inj e_; exact h8_), (by obtain ⟨a_, e_, h0_, h1_, h2_, h3_, h4_, h5_, h6_, h7_, h8_, h9_, h10_, h11_, h12_, h13_, h14_, h15_⟩ := at_T37 (SL.row_c HS.out).2.2 x25_1 (of_eq_true pq580) (of_eq_true qq580); obtain rfl := Option.some.inj e_; exact h9_), (by obtain ⟨a_, e_, h0_, h1_, h2_, h3_, h4_, h5_, h6_, h7_, h8_, h9_, h10_, h11_, h12_, h13_, h14_, h15_⟩ := at_T37 (SL.row_c HS.out).2.2 x25_1 (of_eq_true pq580) (of_eq_true qq580); obtain rfl := Option.some.inj e_; exact h10_), (by obtain ⟨a_, e_, h0_, h1_, h2_, h3_, h4_, h5_, h6_, h7_, h8_, h9_, h10_, h11_, h12_, h13_, h14_, h15_⟩ := at_T37 (SL.row_c HS.out).2.2 x25_1 (of_eq_true pq580) (of_eq_true qq580); obtain rfl := Option.some.inj e_; exact h11_), (by obtain ⟨a_, e_, h0_, h1_, h2_, h3_, h4_, h5_, h6_, h7_, h8_, h9_, h10_, h11_, h12_, h13_, h14_, h15_⟩ := at_T37 (SL.row_c HS.out).2.2 x25_1 (of_eq_true pq580) (of_eq_true qq580); obtain rfl := Option.some.inj e_; exact h12_), (by obtain ⟨a_, e_, h0_, h1_, h2_, h3_, h4_, h5_, h6_, h7_, h8_, h9_, h10_, h11_, h12_, h13_, h14_, h15_⟩ := at_T37 (SL.row_c HS.out).2.2 x25_1 (of_eq_true pq580) (of_eq_true qq580); obtain rfl := Option.some.inj e_; exact h13_), (by obtain ⟨a_, e_, h0_, h1_, h2_, h3_, h4_, h5_, h6_, h7_, h8_, h9_, h10_, h11_, h12_, h13_, h14_, h15_⟩ := at_T37 (SL.row_c HS.out).2.2 x25_1 (of_eq_true pq580) (of_eq_true qq580); obtain rfl := Option.some.inj e_; exact h14_), (by obtain ⟨a_, e_, h0_, h1_, h2_, h3_, h4_, h5_, h6_, h7_, h8_, h9_, h10_, h11_, h12_, h13_, h14_, h15_⟩ := at_T37 (SL.row_c HS.out).2.2 x25_1 (of_eq_true pq580) (of_eq_true qq580); obtain rfl := Option.some.inj e_; exact h15_), (by obtain ⟨a_, e_, h0_, h1_, h2_, h3_, h4_, h5_, h6_, h7_, h8_, h9_⟩ := at_T44 (RO.at_ HR2.out HK.out) x26_2 (of_eq_true pq581) (of_eq_true qq581); obtain rfl := Option.some.inj e_; exact h0_), (by obtain ⟨a_, e_, h0_, h1_, h2_, h3_, h4_, h5_, h6_, h7_, h8_, h9_⟩ := at_T44 (RO.at_ HR2.out HK.out) x26_2 (of_eq_true pq581) (of_eq_true qq581); obtain rfl := Option.some.inj e_; exact h1_), (by obtain ⟨a_, e_, h0_, h1_, h2_, h3_, h4_, h5_, h6_, h7_, h8_, h9_⟩ := at_T44 (RO.at_ HR2.out HK.out) x26_2 (of_eq_true pq581) (of_eq_true qq581); obtain rfl := Option.some.inj e_; exact h2_), (by obtain ⟨a_, e_, h0_, h1_, h2_, h3_, h4_, h5_, h6_, h7_, h8_, h9_⟩ := at_T44 (RO.at_ HR2.out HK.out) x26_2 (of_eq_true pq581) (of_eq_true qq581); obtain rfl := Option.some.inj e_; exact h3_), (by obtain ⟨a_, e_, h0_, h1_, h2_, h3_, h4_, h5_, h6_, h7_, h8_, h9_⟩ := at_T44 (RO.at_ HR2.out HK.out) x26_2 (of_eq_true pq581) (of_eq_true qq581); obtain rfl := Option.some.inj e_; exact h4_), (by obtain ⟨a_, e_, h0_, h1_, h2_, h3_, h4_, h5_, h6_, h7_, h8_, h9_⟩ := at_T44 (RO.at_ HR2.out HK.out) x26_2 (of_eq_true pq581) (of_eq_true qq581); obtain rfl := Option.some.inj e_; exact h5_), (by obtain ⟨a_, e_, h0_, h1_, h2_, h3_, h4_, h5_, h6_, h7_, h8_, h9_⟩ := at_T44 (RO.at_ HR2.out HK.out) x26_2 (of_eq_true pq581) (of_eq_true qq581); obtain rfl := Option.some.inj e_; exact h6_), (by obtain ⟨a_, e_, h0_, h1_, h2_, h3_, h4_, h5_, h6_, h7_, h8_, h9_⟩ := at_T44 (RO.at_ HR2.out HK.out) x26_2 (of_eq_true pq581) (of_eq_true qq581); obtain rfl := Option.some.inj e_; exact h7_), (by obtain ⟨a_, e_, h0_, h1_, h2_, h3_, h4_, h5_, h6_, h7_, h8_, h9_⟩ := at_T44 (RO.at_ HR2.out HK.out) x26_2 (of_eq_true pq581) (of_eq_true qq581); obtain rfl := Option.some.inj e_; exact h8_), (by obtain ⟨a_, e_, h0_, h1_, h2_, h3_, h4_, h5_, h6_, h7_, h8_, h9_⟩ := at_T44 (RO.at_ HR2.out HK.out) x26_2 (of_eq_true pq581) (of_eq_true qq581); obtain rfl := Option.some.inj e_; exact h9_), (by obtain ⟨a_, e_, h0_, h1_, h2_, h3_, h4_, h5_, h6_, h7_, h8_, h9_⟩ := at_T44 (RO.at_ HR2.out HK.out) x26_2 (of_eq_true pq583) (of_eq_true qq583); obtain rfl := Option.some.inj e_; exact h0_), (by obtain ⟨a_, e_, h0_, h1_, h2_, h3_, h4_, h5_, h6_, h7_, h8_, h9_⟩ := at_T44 (RO.at_ HR2.out HK.out) x26_2 (of_eq_true pq583) (of_eq_true qq583); obtain rfl := Option.some.inj e_; exact h1_), (by obtain ⟨a_, e_, h0_, h1_, h2_, h3_, h4_, h5_, h6_, h7_, h8_, h9_⟩ := at_T44 (RO.at_ HR2.out HK.out) x26_2 (of_eq_true pq583) (of_eq_true qq583); obtain rfl := Option.some.inj e_; exact h2_), (by obtain ⟨a_, e_, h0_, h1_, h2_, h3_, h4_, h5_, h6_, h7_, h8_, h9_⟩ := at_T44 (RO.at_ HR2.out HK.out) x26_2 (of_eq_true pq583) (of_eq_true qq583); obtain rfl := Option.some.inj e_; exact h3_), (by obtain ⟨a_, e_, h0_, h1_, h2_, h3_, h4_, h5_, h6_, h7_, h8_, h9_⟩ := at_T44 (RO.at_ HR2.out HK.out) x26_2 (of_eq_true pq583) (of_eq_true qq583); obtain rfl := Option.some.inj e_; exact h4_), (by obtain ⟨a_, e_, h0_, h1_, h2_, h3_, h4_, h5_, h6_, h7_, h8_, h9_⟩ := at_T44 (RO.at_ HR2.out HK.out) x26_2 (of_eq_true pq583) (of_eq_true qq583); obtain rfl := Option.some.inj e_; exact h5_), (by obtain ⟨a_, e_, h0_, h1_, h2_, h3_, h4_, h5_, h6_, h7_, h8_, h9_⟩ := at_T44 (RO.at_ HR2.out HK.out) x26_2 (of_eq_true pq583) (of_eq_true qq583); obtain rfl := Option.some.inj e_; exact h6_), (by obtain ⟨a_, e_, h0_, h1_, h2_, h3_, h4_, h5_, h6_, h7_, h8_, h9_⟩ := at_T44 (RO.at_ HR2.out HK.out) x26_2 (of_eq_true pq583) (of_eq_true qq583); obtain rfl := Option.some.inj e_; exact h7_), (by obtain ⟨a_, e_, h0_, h1_, h2_, h3_, h4_, h5_, h6_, h7_, h8_, h9_⟩ := at_T44 (RO.at_ HR2.out HK.out) x26_2 (of_eq_true pq583) (of_eq_true qq583); obtain rfl := Option.some.inj e_; exact h8_), (by obtain ⟨a_, e_, h0_, h1_, h2_, h3_, h4_, h5_, h6_, h7_, h8_, h9_⟩ := at_T44 (RO.at_ HR2.out HK.out) x26_2 (of_eq_true pq583) (of_eq_true qq583); obtain rfl := Option.some.inj e_; exact h9_)⟩ (fun hHeld => ?_); refine with_tabW barrowlaw33_ZoneStays.tab26 barrowlaw33_ZoneStays.bits26 (fun HT_ HW_ => ?_)
                            replace HK := Aside0.mk (Keep.drew HK.out)
                            replace HS := Aside0.mk (SL.drew HS.out)
                            refine pV 0 128 ?_ (mq 49 1) rfl rfl (any_of HT_.out (by kernel_rfl)) (fun _ _ _ h => h) (by rfl) ?_ ?_ ?_ ?_; rotate_left; · (intro w'; go_simp; with_reducible rfl)
                            rotate_left; · (simp only [Act.put, sT, sZ, sS, i64_w, i32_w]; rfl)
                            refine pV 1 129 ?_ (mq 49 3) rfl rfl (any_of HT_.out (by kernel_rfl)) (fun _ _ _ h => h) (by rfl) ?_ ?_ ?_ ?_; rotate_left; · (intro w'; go_simp; with_reducible rfl)
                            rotate_left; · (simp only [Act.put, sT, sZ, sS, i64_w, i32_w]; rfl)
                            refine pV 2 130 ?_ (mq 49 7) rfl rfl (any_of HT_.out (by kernel_rfl)) (fun _ _ _ h => h) (by rfl) ?_ ?_ ?_ ?_; rotate_left; · (intro w'; go_simp; with_reducible rfl)
                            rotate_left; · (simp only [Act.put, sT, sZ, sS, i64_w, i32_w]; rfl)
                            refine pV 3 131 ?_ (mq 49 15) rfl rfl (any_of HT_.out (by kernel_rfl)) (fun _ _ _ h => h) (by rfl) ?_ ?_ ?_ ?_; rotate_left; · (intro w'; go_simp; with_reducible rfl)
                            rotate_left; · (simp only [Act.put, sT, sZ, sS, i64_w, i32_w]; rfl)
                            refine pV 4 132 ?_ (mq 49 31) rfl rfl (any_of HT_.out (by kernel_rfl)) (fun _ _ _ h => h) (by rfl) ?_ ?_ ?_ ?_; rotate_left; · (intro w'; go_simp; with_reducible rfl)
                            rotate_left; · (simp only [Act.put, sT, sZ, sS, i64_w, i32_w]; rfl)
                            refine pV 5 133 ?_ (mq 49 63) rfl rfl (any_of HT_.out (by kernel_rfl)) (fun _ _ _ h => h) (by rfl) ?_ ?_ ?_ ?_; rotate_left; · (intro w'; go_simp; with_reducible rfl)
                            rotate_left; · (simp only [Act.put, sT, sZ, sS, i64_w, i32_w]; rfl)
                            refine pV 7 135 ?_ (mq 49 191) rfl rfl (any_of HT_.out (by kernel_rfl)) (fun _ _ _ h => h) (by rfl) ?_ ?_ ?_ ?_; rotate_left; · (intro w'; go_simp; with_reducible rfl)
                            rotate_left; · (simp only [Act.put, sT, sZ, sS, i64_w, i32_w]; rfl)
                            refine pV 8 136 ?_ (mq 49 447) rfl rfl (any_of HT_.out (by kernel_rfl)) (fun _ _ _ h => h) (by rfl) ?_ ?_ ?_ ?_; rotate_left; · (intro w'; go_simp; with_reducible rfl)
                            rotate_left; · (simp only [Act.put, sT, sZ, sS, i64_w, i32_w]; rfl)
                            refine pV 9 137 ?_ (mq 49 959) rfl rfl (any_of HT_.out (by kernel_rfl)) (fun _ _ _ h => h) (by rfl) ?_ ?_ ?_ ?_; rotate_left; · (intro w'; go_simp; with_reducible rfl)
                            rotate_left; · (simp only [Act.put, sT, sZ, sS, i64_w, i32_w]; rfl)
                            refine pV 10 138 ?_ (mq 49 1983) rfl rfl (any_of HT_.out (by kernel_rfl)) (fun _ _ _ h => h) (by rfl) ?_ ?_ ?_ ?_; rotate_left; · (intro w'; go_simp; with_reducible rfl)
                            rotate_left; · (simp only [Act.put, sT, sZ, sS, i64_w, i32_w]; rfl)
                            refine take_ (i := 6) (N := some 134) (v := ?_) (a' := ?_) (mq 49 2047) rfl rfl (take_ofW HT_.out HW_.out (by kernel_rfl)) (fun _ _ _ h => h) (Or.inl ⟨by rfl, ?_⟩) hHeld ?_ ?_; rotate_left
                            ·rintro w' ⟨s0, s1, s2, s3, s4, s5, s6, s7, s8, s9, s10, s11, s12, s13, s14, s15, s16, s17, s18, s19, s20, s21, s22, s23, s24, s25, s26, s27, s28, s29, s30, s31, s32, s33, s34, s35, s36, s37, s38, s39, s40, s41, s42, s43, s44, s45, s46, s47, s48, s49, s50, s51, s52, s53, s54, s55, s56, s57, s58, s59, s60, s61, s62, s63, s64, s65⟩
                             go_simp
                             with_reducible rfl
                            rotate_left; · (simp only [Act.put, sT, sZ, sS, i64_w, i32_w]; rfl)
                            refine take_ (i := 11) (N := some 139) (v := ?_) (a' := ?_) (mq 49 4095) rfl rfl (take_ofW HT_.out HW_.out (by kernel_rfl)) (fun _ _ _ h => h) (Or.inl ⟨by rfl, ?_⟩) hHeld ?_ ?_; rotate_left
                            ·rintro w' ⟨s0, s1, s2, s3, s4, s5, s6, s7, s8, s9, s10, s11, s12, s13, s14, s15, s16, s17, s18, s19, s20, s21, s22, s23, s24, s25, s26, s27, s28, s29, s30, s31, s32, s33, s34, s35, s36, s37, s38, s39, s40, s41, s42, s43, s44, s45, s46, s47, s48, s49, s50, s51, s52, s53, s54, s55, s56, s57, s58, s59, s60, s61, s62, s63, s64, s65⟩
                             go_simp
                             with_reducible rfl
                            rotate_left; · (simp only [Act.put, sT, sZ, sS, i64_w, i32_w]; rfl)
                            refine pV 12 140 ?_ (mq 49 8191) rfl rfl (any_of HT_.out (by kernel_rfl)) (fun _ _ _ h => h) (by rfl) ?_ ?_ ?_ ?_; rotate_left; · (intro w'; go_simp; with_reducible rfl)
                            rotate_left; · (simp only [Act.put, sT, sZ, sS, i64_w, i32_w]; rfl)
                            refine pV 13 141 ?_ (mq 49 16383) rfl rfl (any_of HT_.out (by kernel_rfl)) (fun _ _ _ h => h) (by rfl) ?_ ?_ ?_ ?_; rotate_left; · (intro w'; go_simp; with_reducible rfl)
                            rotate_left; · (simp only [Act.put, sT, sZ, sS, i64_w, i32_w]; rfl)
                            refine pV 14 142 ?_ (mq 49 32767) rfl rfl (any_of HT_.out (by kernel_rfl)) (fun _ _ _ h => h) (by rfl) ?_ ?_ ?_ ?_; rotate_left; · (intro w'; go_simp; with_reducible rfl)
                            rotate_left; · (simp only [Act.put, sT, sZ, sS, i64_w, i32_w]; rfl)
                            refine pV 15 143 ?_ (mq 49 65535) rfl rfl (any_of HT_.out (by kernel_rfl)) (fun _ _ _ h => h) (by rfl) ?_ ?_ ?_ ?_; rotate_left; · (intro w'; go_simp; with_reducible rfl)
                            rotate_left; · (simp only [Act.put, sT, sZ, sS, i64_w, i32_w]; rfl)
                            refine pV 16 144 ?_ (mq 49 131071) rfl rfl (any_of HT_.out (by kernel_rfl)) (fun _ _ _ h => h) (by rfl) ?_ ?_ ?_ ?_; rotate_left; · (intro w'; go_simp; with_reducible rfl)
                            rotate_left; · (simp only [Act.put, sT, sZ, sS, i64_w, i32_w]; rfl)
                            refine pV 17 145 ?_ (mq 49 262143) rfl rfl (any_of HT_.out (by kernel_rfl)) (fun _ _ _ h => h) (by rfl) ?_ ?_ ?_ ?_; rotate_left; · (intro w'; go_simp; with_reducible rfl)
                            rotate_left; · (simp only [Act.put, sT, sZ, sS, i64_w, i32_w]; rfl)
                            refine pV 19 147 ?_ (mq 49 786431) rfl rfl (any_of HT_.out (by kernel_rfl)) (fun _ _ _ h => h) (by rfl) ?_ ?_ ?_ ?_; rotate_left; · (intro w'; go_simp; with_reducible rfl)
                            rotate_left; · (simp only [Act.put, sT, sZ, sS, i64_w, i32_w]; rfl)
                            refine pV 20 148 ?_ (mq 49 0x1bffff) rfl rfl (any_of HT_.out (by kernel_rfl)) (fun _ _ _ h => h) (by rfl) ?_ ?_ ?_ ?_; rotate_left; · (intro w'; go_simp; with_reducible rfl)
                            rotate_left; · (simp only [Act.put, sT, sZ, sS, i64_w, i32_w]; rfl)
                            refine pV 21 149 ?_ (mq 49 0x3bffff) rfl rfl (any_of HT_.out (by kernel_rfl)) (fun _ _ _ h => h) (by rfl) ?_ ?_ ?_ ?_; rotate_left; · (intro w'; go_simp; with_reducible rfl)
                            rotate_left; · (simp only [Act.put, sT, sZ, sS, i64_w, i32_w]; rfl)
                            refine pV 22 150 ?_ (mq 49 0x7bffff) rfl rfl (any_of HT_.out (by kernel_rfl)) (fun _ _ _ h => h) (by rfl) ?_ ?_ ?_ ?_; rotate_left; · (intro w'; go_simp; with_reducible rfl)
                            rotate_left; · (simp only [Act.put, sT, sZ, sS, i64_w, i32_w]; rfl)
                            refine take_ (i := 18) (N := some 146) (v := ?_) (a' := ?_) (mq 49 0x7fffff) rfl rfl (take_ofW HT_.out HW_.out (by kernel_rfl)) (fun _ _ _ h => h) (Or.inl ⟨by rfl, ?_⟩) hHeld ?_ ?_; rotate_left
                            ·rintro w' ⟨s0, s1, s2, s3, s4, s5, s6, s7, s8, s9, s10, s11, s12, s13, s14, s15, s16, s17, s18, s19, s20, s21, s22, s23, s24, s25, s26, s27, s28, s29, s30, s31, s32, s33, s34, s35, s36, s37, s38, s39, s40, s41, s42, s43, s44, s45, s46, s47, s48, s49, s50, s51, s52, s53, s54, s55, s56, s57, s58, s59, s60, s61, s62, s63, s64, s65⟩
                             go_simp
                             with_reducible rfl
                            rotate_left; · (simp only [Act.put, sT, sZ, sS, i64_w, i32_w]; rfl)
                            refine take_ (i := 23) (N := some 151) (v := ?_) (a' := ?_) (mq 49 0xffffff) rfl rfl (take_ofW HT_.out HW_.out (by kernel_rfl)) (fun _ _ _ h => h) (Or.inl ⟨by rfl, ?_⟩) hHeld ?_ ?_; rotate_left
                            ·rintro w' ⟨s0, s1, s2, s3, s4, s5, s6, s7, s8, s9, s10, s11, s12, s13, s14, s15, s16, s17, s18, s19, s20, s21, s22, s23, s24, s25, s26, s27, s28, s29, s30, s31, s32, s33, s34, s35, s36, s37, s38, s39, s40, s41, s42, s43, s44, s45, s46, s47, s48, s49, s50, s51, s52, s53, s54, s55, s56, s57, s58, s59, s60, s61, s62, s63, s64, s65⟩
                             go_simp
                             with_reducible rfl
                            rotate_left; · (simp only [Act.put, sT, sZ, sS, i64_w, i32_w]; rfl)
                            refine pV 24 152 ?_ (mq 49 0x1ffffff) rfl rfl (any_of HT_.out (by kernel_rfl)) (fun _ _ _ h => h) (by rfl) ?_ ?_ ?_ ?_; rotate_left; · (intro w'; go_simp; with_reducible rfl)
                            rotate_left; · (simp only [Act.put, sT, sZ, sS, i64_w, i32_w]; rfl)
                            refine pV 25 153 ?_ (mq 49 0x3ffffff) rfl rfl (any_of HT_.out (by kernel_rfl)) (fun _ _ _ h => h) (by rfl) ?_ ?_ ?_ ?_; rotate_left; · (intro w'; go_simp; with_reducible rfl)
                            rotate_left; · (simp only [Act.put, sT, sZ, sS, i64_w, i32_w]; rfl)
                            refine pV 26 154 ?_ (mq 49 0x7ffffff) rfl rfl (any_of HT_.out (by kernel_rfl)) (fun _ _ _ h => h) (by rfl) ?_ ?_ ?_ ?_; rotate_left; · (intro w'; go_simp; with_reducible rfl)
                            rotate_left; · (simp only [Act.put, sT, sZ, sS, i64_w, i32_w]; rfl)
                            refine pV 27 155 ?_ (mq 49 0xfffffff) rfl rfl (any_of HT_.out (by kernel_rfl)) (fun _ _ _ h => h) (by rfl) ?_ ?_ ?_ ?_; rotate_left; · (intro w'; go_simp; with_reducible rfl)
                            rotate_left; · (simp only [Act.put, sT, sZ, sS, i64_w, i32_w]; rfl)
                            refine pV 28 156 ?_ (mq 49 0x1fffffff) rfl rfl (any_of HT_.out (by kernel_rfl)) (fun _ _ _ h => h) (by rfl) ?_ ?_ ?_ ?_; rotate_left; · (intro w'; go_simp; with_reducible rfl)
                            rotate_left; · (simp only [Act.put, sT, sZ, sS, i64_w, i32_w]; rfl)
                            refine pV 29 157 ?_ (mq 49 0x3fffffff) rfl rfl (any_of HT_.out (by kernel_rfl)) (fun _ _ _ h => h) (by rfl) ?_ ?_ ?_ ?_; rotate_left; · (intro w'; go_simp; with_reducible rfl)
                            rotate_left; · (simp only [Act.put, sT, sZ, sS, i64_w, i32_w]; rfl)
                            refine pV 30 158 ?_ (mq 49 0x7fffffff) rfl rfl (any_of HT_.out (by kernel_rfl)) (fun _ _ _ h => h) (by rfl) ?_ ?_ ?_ ?_; rotate_left; · (intro w'; go_simp; with_reducible rfl)
                            rotate_left; · (simp only [Act.put, sT, sZ, sS, i64_w, i32_w]; rfl)
                            refine pV 32 160 ?_ (mq 49 0x17fffffff) rfl rfl (any_of HT_.out (by kernel_rfl)) (fun _ _ _ h => h) (by rfl) ?_ ?_ ?_ ?_; rotate_left; · (intro w'; go_simp; with_reducible rfl)
                            rotate_left; · (simp only [Act.put, sT, sZ, sS, i64_w, i32_w]; rfl)
                            refine pV 33 161 ?_ (mq 49 0x37fffffff) rfl rfl (any_of HT_.out (by kernel_rfl)) (fun _ _ _ h => h) (by rfl) ?_ ?_ ?_ ?_; rotate_left; · (intro w'; go_simp; with_reducible rfl)
                            rotate_left; · (simp only [Act.put, sT, sZ, sS, i64_w, i32_w]; rfl)
                            refine pV 34 162 ?_ (mq 49 0x77fffffff) rfl rfl (any_of HT_.out (by kernel_rfl)) (fun _ _ _ h => h) (by rfl) ?_ ?_ ?_ ?_; rotate_left; · (intro w'; go_simp; with_reducible rfl)
                            rotate_left; · (simp only [Act.put, sT, sZ, sS, i64_w, i32_w]; rfl)
                            refine pV 35 163 ?_ (mq 49 0xf7fffffff) rfl rfl (any_of HT_.out (by kernel_rfl)) (fun _ _ _ h => h) (by rfl) ?_ ?_ ?_ ?_; rotate_left; · (intro w'; go_simp; with_reducible rfl)
                            rotate_left; · (simp only [Act.put, sT, sZ, sS, i64_w, i32_w]; rfl)
                            refine take_ (i := 31) (N := some 159) (v := ?_) (a' := ?_) (mq 49 0xfffffffff) rfl rfl (take_ofW HT_.out HW_.out (by kernel_rfl)) (fun _ _ _ h => h) (Or.inl ⟨by rfl, ?_⟩) hHeld ?_ ?_; rotate_left
                            ·rintro w' ⟨s0, s1, s2, s3, s4, s5, s6, s7, s8, s9, s10, s11, s12, s13, s14, s15, s16, s17, s18, s19, s20, s21, s22, s23, s24, s25, s26, s27, s28, s29, s30, s31, s32, s33, s34, s35, s36, s37, s38, s39, s40, s41, s42, s43, s44, s45, s46, s47, s48, s49, s50, s51, s52, s53, s54, s55, s56, s57, s58, s59, s60, s61, s62, s63, s64, s65⟩
                             go_simp
                             with_reducible rfl
                            rotate_left; · (simp only [Act.put, sT, sZ, sS, i64_w, i32_w]; rfl)
                            refine take_ (i := 36) (N := some 164) (v := ?_) (a' := ?_) (mq 49 0x1fffffffff) rfl rfl (take_ofW HT_.out HW_.out (by kernel_rfl)) (fun _ _ _ h => h) (Or.inl ⟨by rfl, ?_⟩) hHeld ?_ ?_; rotate_left
                            ·rintro w' ⟨s0, s1, s2, s3, s4, s5, s6, s7, s8, s9, s10, s11, s12, s13, s14, s15, s16, s17, s18, s19, s20, s21, s22, s23, s24, s25, s26, s27, s28, s29, s30, s31, s32, s33, s34, s35, s36, s37, s38, s39, s40, s41, s42, s43, s44, s45, s46, s47, s48, s49, s50, s51, s52, s53, s54, s55, s56, s57, s58, s59, s60, s61, s62, s63, s64, s65⟩
                             go_simp
                             with_reducible rfl
                            rotate_left; · (simp only [Act.put, sT, sZ, sS, i64_w, i32_w]; rfl)
                            refine one_ (i := 37) (N := some 165) (mq 49 0x3fffffffff) rfl rfl (one_of HT_.out (by kernel_rfl)) (by decide) (fun K hK => ?_)
                            refine goes_ Try.func24 (by kernel_rfl) rfl #[.agg #[.int .i64 ((rd_T37 t542 x25_1).f1.f0), .int .i64 ((rd_T37 t542 x25_1).f1.f1.f0), .int .i64 ((rd_T37 t542 x25_1).f1.f1.f1), .int .i64 ((rd_T37 t542 x25_1).f1.f2.f0), .int .i64 ((rd_T37 t542 x25_1).f1.f2.f1), .int .i64 ((rd_T37 t542 x25_1).f1.f3), .int .i64 ((rd_T37 t542 x25_1).f1.f4)], .agg #[.int .i64 ((rd_T44 l2 x26_2).f7.f0), .int .i64 ((rd_T44 l2 x26_2).f7.f1)]] (by rfl) rfl rfl (by (try simp only [List.map_toArray, List.map_cons, List.map_nil]); first | done | rfl | (simp; done)) ?_
                            (with_reducible refine (area_In.calls k4 _ _ _ _ _ _ _ _ _ _ _  Hc47.out).mono ?_)
                            rintro e_ w49 ⟨rfl, hb_⟩
                            refine ⟨_, rfl, ?_⟩
                            replace HS := Aside0.mk (HS.out.below hb_)
                            replace HK := Aside0.mk (HK.out.trans (Keep.below hb_))
                            refine hK.out _ _ ⟨(by obtain ⟨a_, e_, h0_, h1_, h2_, h3_, h4_, h5_, h6_, h7_, h8_, h9_, h10_, h11_, h12_, h13_, h14_, h15_⟩ := at_T37 (SL.row_c HS.out).2.2 x25_1 (of_eq_true pq576) (of_eq_true qq576); obtain rfl := Option.some.inj e_; exact h0_), (by obtain ⟨a_, e_, h0_, h1_, h2_, h3_, h4_, h5_, h6_, h7_, h8_, h9_, h10_, h11_, h12_, h13_, h14_, h15_⟩ := at_T37 (SL.row_c HS.out).2.2 x25_1 (of_eq_true pq576) (of_eq_true qq576); obtain rfl := Option.some.inj e_; exact h1_), (by obtain ⟨a_, e_, h0_, h1_, h2_, h3_, h4_, h5_, h6_, h7_, h8_, h9_, h10_, h11_, h12_, h13_, h14_, h15_⟩ := at_T37 (SL.row_c HS.out).2.2 x25_1 (of_eq_true pq576) (of_eq_true qq576); obtain rfl := Option.some.inj e_; exact h2_), (by obtain ⟨a_, e_, h0_, h1_, h2_, h3_, h4_, h5_, h6_, h7_, h8_, h9_, h10_, h11_, h12_, h13_, h14_, h15_⟩ := at_T37 (SL.row_c HS.out).2.2 x25_1 (of_eq_true pq576) (of_eq_true qq576); obtain rfl := Option.some.inj e_; exact h3_), (by obtain ⟨a_, e_, h0_, h1_, h2_, h3_, h4_, h5_, h6_, h7_, h8_, h9_, h10_, h11_, h12_, h13_, h14_, h15_⟩ := at_T37 (SL.row_c HS.out).2.2 x25_1 (of_eq_true pq576) (of_eq_true qq576); obtain rfl := Option.some.inj e_; exact h4_), (by obtain ⟨a_, e_, h0_, h1_, h2_, h3_, h4_, h5_, h6_, h7_, h8_, h9_, h10_, h11_, h12_, h13_, h14_, h15_⟩ := at_T37 (SL.row_c HS.out).2.2 x25_1 (of_eq_true pq576) (of_eq_true qq576); obtain rfl := Option.some.inj e_; exact h5_), (by obtain ⟨a_, e_, h0_, h1_, h2_, h3_, h4_, h5_, h6_, h7_, h8_, h9_, h10_, h11_, h12_, h13_, h14_, h15_⟩ := at_T37 (SL.row_c HS.out).2.2 x25_1 (of_eq_true pq576) (of_eq_true qq576); obtain rfl := Option.some.inj e_; exact h6_), (by obtain ⟨a_, e_, h0_, h1_, h2_, h3_, h4_, h5_, h6_, h7_, h8_, h9_, h10_, h11_, h12_, h13_, h14_, h15_⟩ := at_T37 (SL.row_c HS.out).2.2 x25_1 (of_eq_true pq576) (of_eq_true qq576); obtain rfl := Option.some.inj e_; exact h7_), (by obtain ⟨a_, e_, h0_, h1_, h2_, h3_, h4_, h5_, h6_, h7_, h8_, h9_, h10_, h11_, h12_, h13_, h14_, h15_⟩ := at_T37 (SL.row_c HS.out).2.2 x25_1 (of_eq_true pq576) (of_eq_true qq576); obtain rfl := Option.some.inj e_; exact h8_), (by obtain ⟨a_, e_, h0_, h1_, h2_, h3_, h4_, h5_, h6_, h7_, h8_, h9_, h10_, h11_, h12_, h13_, h14_, h15_⟩ := at_T37 (SL.row_c HS.out).2.2 x25_1 (of_eq_true pq576) (of_eq_true qq576); obtain rfl := Option.some.inj e_; exact h9_), (by obtain ⟨a_, e_, h0_, h1_, h2_, h3_, h4_, h5_, h6_, h7_, h8_, h9_, h10_, h11_, h12_, h13_, h14_, h15_⟩ := at_T37 (SL.row_c HS.out).2.2 x25_1 (of_eq_true pq576) (of_eq_true qq576); obtain rfl := Option.some.inj e_; exact h10_), (by obtain ⟨a_, e_, h0_, h1_, h2_, h3_, h4_, h5_, h6_, h7_, h8_, h9_, h10_, h11_, h12_, h13_, h14_, h15_⟩ := at_T37 (SL.row_c HS.out).2.2 x25_1 (of_eq_true pq576) (of_eq_true qq576); obtain rfl := Option.some.inj e_; exact h11_), (by obtain ⟨a_, e_, h0_, h1_, h2_, h3_, h4_, h5_, h6_, h7_, h8_, h9_, h10_, h11_, h12_, h13_, h14_, h15_⟩ := at_T37 (SL.row_c HS.out).2.2 x25_1 (of_eq_true pq576) (of_eq_true qq576); obtain rfl := Option.some.inj e_; exact h12_), (by obtain ⟨a_, e_, h0_, h1_, h2_, h3_, h4_, h5_, h6_, h7_, h8_, h9_, h10_, h11_, h12_, h13_, h14_, h15_⟩ := at_T37 (SL.row_c HS.out).2.2 x25_1 (of_eq_true pq576) (of_eq_true qq576); obtain rfl := Option.some.inj e_; exact h13_), (by obtain ⟨a_, e_, h0_, h1_, h2_, h3_, h4_, h5_, h6_, h7_, h8_, h9_, h10_, h11_, h12_, h13_, h14_, h15_⟩ := at_T37 (SL.row_c HS.out).2.2 x25_1 (of_eq_true pq576) (of_eq_true qq576); obtain rfl := Option.some.inj e_; exact h14_), (by obtain ⟨a_, e_, h0_, h1_, h2_, h3_, h4_, h5_, h6_, h7_, h8_, h9_, h10_, h11_, h12_, h13_, h14_, h15_⟩ := at_T37 (SL.row_c HS.out).2.2 x25_1 (of_eq_true pq576) (of_eq_true qq576); obtain rfl := Option.some.inj e_; exact h15_), (by obtain ⟨a_, e_, h0_, h1_⟩ := at_T56 (SL.row_c (SL.get2 HS.out)).2.2 x23_0 (of_eq_true pq577) (of_eq_true qq577); obtain rfl := Option.some.inj e_; exact h0_), (by obtain ⟨a_, e_, h0_, h1_⟩ := at_T56 (SL.row_c (SL.get2 HS.out)).2.2 x23_0 (of_eq_true pq577) (of_eq_true qq577); obtain rfl := Option.some.inj e_; exact h1_), (by obtain ⟨a_, e_, h0_, h1_, h2_, h3_, h4_, h5_, h6_, h7_, h8_, h9_⟩ := at_T44 (RO.at_ HR2.out HK.out) x26_2 (of_eq_true pq578) (of_eq_true qq578); obtain rfl := Option.some.inj e_; exact h0_), (by obtain ⟨a_, e_, h0_, h1_, h2_, h3_, h4_, h5_, h6_, h7_, h8_, h9_⟩ := at_T44 (RO.at_ HR2.out HK.out) x26_2 (of_eq_true pq578) (of_eq_true qq578); obtain rfl := Option.some.inj e_; exact h1_), (by obtain ⟨a_, e_, h0_, h1_, h2_, h3_, h4_, h5_, h6_, h7_, h8_, h9_⟩ := at_T44 (RO.at_ HR2.out HK.out) x26_2 (of_eq_true pq578) (of_eq_true qq578); obtain rfl := Option.some.inj e_; exact h2_), (by obtain ⟨a_, e_, h0_, h1_, h2_, h3_, h4_, h5_, h6_, h7_, h8_, h9_⟩ := at_T44 (RO.at_ HR2.out HK.out) x26_2 (of_eq_true pq578) (of_eq_true qq578); obtain rfl := Option.some.inj e_; exact h3_), (by obtain ⟨a_, e_, h0_, h1_, h2_, h3_, h4_, h5_, h6_, h7_, h8_, h9_⟩ := at_T44 (RO.at_ HR2.out HK.out) x26_2 (of_eq_true pq578) (of_eq_true qq578); obtain rfl := Option.some.inj e_; exact h4_), (by obtain ⟨a_, e_, h0_, h1_, h2_, h3_, h4_, h5_, h6_, h7_, h8_, h9_⟩ := at_T44 (RO.at_ HR2.out HK.out) x26_2 (of_eq_true pq578) (of_eq_true qq578); obtain rfl := Option.some.inj e_; exact h5_), (by obtain ⟨a_, e_, h0_, h1_, h2_, h3_, h4_, h5_, h6_, h7_, h8_, h9_⟩ := at_T44 (RO.at_ HR2.out HK.out) x26_2 (of_eq_true pq578) (of_eq_true qq578); obtain rfl := Option.some.inj e_; exact h6_), (by obtain ⟨a_, e_, h0_, h1_, h2_, h3_, h4_, h5_, h6_, h7_, h8_, h9_⟩ := at_T44 (RO.at_ HR2.out HK.out) x26_2 (of_eq_true pq578) (of_eq_true qq578); obtain rfl := Option.some.inj e_; exact h7_), (by obtain ⟨a_, e_, h0_, h1_, h2_, h3_, h4_, h5_, h6_, h7_, h8_, h9_⟩ := at_T44 (RO.at_ HR2.out HK.out) x26_2 (of_eq_true pq578) (of_eq_true qq578); obtain rfl := Option.some.inj e_; exact h8_), (by obtain ⟨a_, e_, h0_, h1_, h2_, h3_, h4_, h5_, h6_, h7_, h8_, h9_⟩ := at_T44 (RO.at_ HR2.out HK.out) x26_2 (of_eq_true pq578) (of_eq_true qq578); obtain rfl := Option.some.inj e_; exact h9_), (by obtain ⟨a_, e_, h0_, h1_⟩ := at_T56 (SL.row_c (SL.get2 HS.out)).2.2 x23_0 (of_eq_true pq579) (of_eq_true qq579); obtain rfl := Option.some.inj e_; exact h0_), (by obtain ⟨a_, e_, h0_, h1_⟩ := at_T56 (SL.row_c (SL.get2 HS.out)).2.2 x23_0 (of_eq_true pq579) (of_eq_true qq579); obtain rfl := Option.some.inj e_; exact h1_), (by obtain ⟨a_, e_, h0_, h1_, h2_, h3_, h4_, h5_, h6_, h7_, h8_, h9_, h10_, h11_, h12_, h13_, h14_, h15_⟩ := at_T37 (SL.row_c HS.out).2.2 x25_1 (of_eq_true pq580) (of_eq_true qq580); obtain rfl := Option.some.inj e_; exact h0_), (by obtain ⟨a_, e_, h0_, h1_, h2_, h3_, h4_, h5_, h6_, h7_, h8_, h9_, h10_, h11_, h12_, h13_, h14_, h15_⟩ := at_T37 (SL.row_c HS.out).2.2 x25_1 (of_eq_true pq580) (of_eq_true qq580); obtain rfl := Option.some.inj e_; exact h1_), (by obtain ⟨a_, e_, h0_, h1_, h2_, h3_, h4_, h5_, h6_, h7_, h8_, h9_, h10_, h11_, h12_, h13_, h14_, h15_⟩ := at_T37 (SL.row_c HS.out).2.2 x25_1 (of_eq_true pq580) (of_eq_true qq580); obtain rfl := Option.some.inj e_; exact h2_), (by obtain ⟨a_, e_, h0_, h1_, h2_, h3_, h4_, h5_, h6_, h7_, h8_, h9_, h10_, h11_, h12_, h13_, h14_, h15_⟩ := at_T37 (SL.row_c HS.out).2.2 x25_1 (of_eq_true pq580) (of_eq_true qq580); obtain rfl := Option.some.inj e_; exact h3_), (by obtain ⟨a_, e_, h0_, h1_, h2_, h3_, h4_, h5_, h6_, h7_, h8_, h9_, h10_, h11_, h12_, h13_, h14_, h15_⟩ := at_T37 (SL.row_c HS.out).2.2 x25_1 (of_eq_true pq580) (of_eq_true qq580); obtain rfl := Option.some.inj e_; exact h4_), (by obtain ⟨a_, e_, h0_, h1_, h2_, h3_, h4_, h5_, h6_, h7_, h8_, h9_, h10_, h11_, h12_, h13_, h14_, h15_⟩ := at_T37 (SL.row_c HS.out).2.2 x25_1 (of_eq_true pq580) (of_eq_true qq580); obtain rfl := Option.some.inj e_; exact h5_), (by obtain ⟨a_, e_, h0_, h1_, h2_, h3_, h4_, h5_, h6_, h7_, h8_, h9_, h10_, h11_, h12_, h13_, h14_, h15_⟩ := at_T37 (SL.row_c HS.out).2.2 x25_1 (of_eq_true pq580) (of_eq_true qq580); obtain rfl := Option.some.inj e_; exact h6_), (by obtain ⟨a_, e_, h0_, h1_, h2_, h3_, h4_, h5_, h6_, h7_, h8_, h9_, h10_, h11_, h12_, h13_, h14_, h15_⟩ := at_T37 (SL.row_c HS.out).2.2 x25_1 (of_eq_true pq580) (of_eq_true qq580); obtain rfl := Option.some.inj e_; exact h7_), (by obtain ⟨a_, e_, h0_, h1_, h2_, h3_, h4_, h5_, h6_, h7_, h8_, h9_, h10_, h11_, h12_, h13_, h14_, h15_⟩ := at_T37 (SL.row_c HS.out).2.2 x25_1 (of_eq_true pq580) (of_eq_true qq580); obtain rfl := Option.some.inj e_; exact h8_), (by obtain ⟨a_, e_, h0_, h1_, h2_, h3_, h4_, h5_, h6_, h7_, h8_, h9_, h10_, h11_, h12_, h13_, h14_, h15_⟩ := at_T37 (SL.row_c HS.out).2.2 x25_1 (of_eq_true pq580) (of_eq_true qq580); obtain rfl := Option.some.inj e_; exact h9_), (by obtain ⟨a_, e_, h0_, h1_, h2_, h3_, h4_, h5_, h6_, h7_, h8_, h9_, h10_, h11_, h12_, h13_, h14_, h15_⟩ := at_T37 (SL.row_c HS.out).2.2 x25_1 (of_eq_true pq580) (of_eq_true qq580); obtain rfl := Option.some.inj e_; exact h10_), (by obtain ⟨a_, e_, h0_, h1_, h2_, h3_, h4_, h5_, h6_, h7_, h8_, h9_, h10_, h11_, h12_, h13_, h14_, h15_⟩ := at_T37 (SL.row_c HS.out).2.2 x25_1 (of_eq_true pq580) (of_eq_true qq580); obtain rfl := Option.some.inj e_; exact h11_), (by obtain ⟨a_, e_, h0_, h1_, h2_, h3_, h4_, h5_, h6_, h7_, h8_, h9_, h10_, h11_, h12_, h13_, h14_, h15_⟩ := at_T37 (SL.row_c HS.out).2.2 x25_1 (of_eq_true pq580) (of_eq_true qq580); obtain rfl := Option.some.inj e_; exact h12_), (by obtain ⟨a_, e_, h0_, h1_, h2_, h3_, h4_, h5_, h6_, h7_, h8_, h9_, h10_, h11_, h12_, h13_, h14_, h15_⟩ := at_T37 (SL.row_c HS.out).2.2 x25_1 (of_eq_true pq580) (of_eq_true qq580); obtain rfl := Option.some.inj e_; exact h13_), (by obtain ⟨a_, e_, h0_, h1_, h2_, h3_, h4_, h5_, h6_, h7_, h8_, h9_, h10_, h11_, h12_, h13_, h14_, h15_⟩ := at_T37 (SL.row_c HS.out).2.2 x25_1 (of_eq_true pq580) (of_eq_true qq580); obtain rfl := Option.some.inj e_; exact h14_), (by obtain ⟨a_, e_, h0_, h1_, h2_, h3_, h4_, h5_, h6_, h7_, h8_, h9_, h10_, h11_, h12_, h13_, h14_, h15_⟩ := at_T37 (SL.row_c HS.out).2.2 x25_1 (of_eq_true pq580) (of_eq_true qq580); obtain rfl := Option.some.inj e_; exact h15_), (by obtain ⟨a_, e_, h0_, h1_, h2_, h3_, h4_, h5_, h6_, h7_, h8_, h9_⟩ := at_T44 (RO.at_ HR2.out HK.out) x26_2 (of_eq_true pq581) (of_eq_true qq581); obtain rfl := Option.some.inj e_; exact h0_), (by obtain ⟨a_, e_, h0_, h1_, h2_, h3_, h4_, h5_, h6_, h7_, h8_, h9_⟩ := at_T44 (RO.at_ HR2.out HK.out) x26_2 (of_eq_true pq581) (of_eq_true qq581); obtain rfl := Option.some.inj e_; exact h1_), (by obtain ⟨a_, e_, h0_, h1_, h2_, h3_, h4_, h5_, h6_, h7_, h8_, h9_⟩ := at_T44 (RO.at_ HR2.out HK.out) x26_2 (of_eq_true pq581) (of_eq_true qq581); obtain rfl := Option.some.inj e_; exact h2_), (by obtain ⟨a_, e_, h0_, h1_, h2_, h3_, h4_, h5_, h6_, h7_, h8_, h9_⟩ := at_T44 (RO.at_ HR2.out HK.out) x26_2 (of_eq_true pq581) (of_eq_true qq581); obtain rfl := Option.some.inj e_; exact h3_), (by obtain ⟨a_, e_, h0_, h1_, h2_, h3_, h4_, h5_, h6_, h7_, h8_, h9_⟩ := at_T44 (RO.at_ HR2.out HK.out) x26_2 (of_eq_true pq581) (of_eq_true qq581); obtain rfl := Option.some.inj e_; exact h4_), (by obtain ⟨a_, e_, h0_, h1_, h2_, h3_, h4_, h5_, h6_, h7_, h8_, h9_⟩ := at_T44 (RO.at_ HR2.out HK.out) x26_2 (of_eq_true pq581) (of_eq_true qq581); obtain rfl := Option.some.inj e_; exact h5_), (by obtain ⟨a_, e_, h0_, h1_, h2_, h3_, h4_, h5_, h6_, h7_, h8_, h9_⟩ := at_T44 (RO.at_ HR2.out HK.out) x26_2 (of_eq_true pq581) (of_eq_true qq581); obtain rfl := Option.some.inj e_; exact h6_), (by obtain ⟨a_, e_, h0_, h1_, h2_, h3_, h4_, h5_, h6_, h7_, h8_, h9_⟩ := at_T44 (RO.at_ HR2.out HK.out) x26_2 (of_eq_true pq581) (of_eq_true qq581); obtain rfl := Option.some.inj e_; exact h7_), (by obtain ⟨a_, e_, h0_, h1_, h2_, h3_, h4_, h5_, h6_, h7_, h8_, h9_⟩ := at_T44 (RO.at_ HR2.out HK.out) x26_2 (of_eq_true pq581) (of_eq_true qq581); obtain rfl := Option.some.inj e_; exact h8_), (by obtain ⟨a_, e_, h0_, h1_, h2_, h3_, h4_, h5_, h6_, h7_, h8_, h9_⟩ := at_T44 (RO.at_ HR2.out HK.out) x26_2 (of_eq_true pq581) (of_eq_true qq581); obtain rfl := Option.some.inj e_; exact h9_), (by obtain ⟨a_, e_, h0_, h1_, h2_, h3_, h4_, h5_, h6_, h7_, h8_, h9_⟩ := at_T44 (RO.at_ HR2.out HK.out) x26_2 (of_eq_true pq583) (of_eq_true qq583); obtain rfl := Option.some.inj e_; exact h0_), (by obtain ⟨a_, e_, h0_, h1_, h2_, h3_, h4_, h5_, h6_, h7_, h8_, h9_⟩ := at_T44 (RO.at_ HR2.out HK.out) x26_2 (of_eq_true pq583) (of_eq_true qq583); obtain rfl := Option.some.inj e_; exact h1_), (by obtain ⟨a_, e_, h0_, h1_, h2_, h3_, h4_, h5_, h6_, h7_, h8_, h9_⟩ := at_T44 (RO.at_ HR2.out HK.out) x26_2 (of_eq_true pq583) (of_eq_true qq583); obtain rfl := Option.some.inj e_; exact h2_), (by obtain ⟨a_, e_, h0_, h1_, h2_, h3_, h4_, h5_, h6_, h7_, h8_, h9_⟩ := at_T44 (RO.at_ HR2.out HK.out) x26_2 (of_eq_true pq583) (of_eq_true qq583); obtain rfl := Option.some.inj e_; exact h3_), (by obtain ⟨a_, e_, h0_, h1_, h2_, h3_, h4_, h5_, h6_, h7_, h8_, h9_⟩ := at_T44 (RO.at_ HR2.out HK.out) x26_2 (of_eq_true pq583) (of_eq_true qq583); obtain rfl := Option.some.inj e_; exact h4_), (by obtain ⟨a_, e_, h0_, h1_, h2_, h3_, h4_, h5_, h6_, h7_, h8_, h9_⟩ := at_T44 (RO.at_ HR2.out HK.out) x26_2 (of_eq_true pq583) (of_eq_true qq583); obtain rfl := Option.some.inj e_; exact h5_), (by obtain ⟨a_, e_, h0_, h1_, h2_, h3_, h4_, h5_, h6_, h7_, h8_, h9_⟩ := at_T44 (RO.at_ HR2.out HK.out) x26_2 (of_eq_true pq583) (of_eq_true qq583); obtain rfl := Option.some.inj e_; exact h6_), (by obtain ⟨a_, e_, h0_, h1_, h2_, h3_, h4_, h5_, h6_, h7_, h8_, h9_⟩ := at_T44 (RO.at_ HR2.out HK.out) x26_2 (of_eq_true pq583) (of_eq_true qq583); obtain rfl := Option.some.inj e_; exact h7_), (by obtain ⟨a_, e_, h0_, h1_, h2_, h3_, h4_, h5_, h6_, h7_, h8_, h9_⟩ := at_T44 (RO.at_ HR2.out HK.out) x26_2 (of_eq_true pq583) (of_eq_true qq583); obtain rfl := Option.some.inj e_; exact h8_), (by obtain ⟨a_, e_, h0_, h1_, h2_, h3_, h4_, h5_, h6_, h7_, h8_, h9_⟩ := at_T44 (RO.at_ HR2.out HK.out) x26_2 (of_eq_true pq583) (of_eq_true qq583); obtain rfl := Option.some.inj e_; exact h9_)⟩ (fun hHeld => ?_)
                            clear hK K
                            refine norm_ (a' := ?_) ?_ ?_; rotate_left
                            ·show Act.put _ (some 165) _ = _
                             simp only [Act.put, sT, sZ, sS, i64_w, i32_w]
                             rfl
                            refine pV 38 166 ?_ (mq 49 0x7fffffffff) rfl rfl (any_of HT_.out (by kernel_rfl)) (fun _ _ _ h => h) (by rfl) ?_ ?_ ?_ ?_; rotate_left; · (intro w'; go_simp; with_reducible rfl)
                            rotate_left; · (simp only [Act.put, sT, sZ, sS, i64_w, i32_w]; rfl)
                            refine pV 39 167 ?_ (mq 49 0xffffffffff) rfl rfl (any_of HT_.out (by kernel_rfl)) (fun _ _ _ h => h) (by rfl) ?_ ?_ ?_ ?_; rotate_left; · (intro w'; go_simp; with_reducible rfl)
                            rotate_left; · (simp only [Act.put, sT, sZ, sS, i64_w, i32_w]; rfl)
                            refine pV 40 168 ?_ (mq 49 0x1ffffffffff) rfl rfl (any_of HT_.out (by kernel_rfl)) (fun _ _ _ h => h) (by rfl) ?_ ?_ ?_ ?_; rotate_left; · (intro w'; go_simp; with_reducible rfl)
                            rotate_left; · (simp only [Act.put, sT, sZ, sS, i64_w, i32_w]; rfl)
                            refine pV 41 169 ?_ (mq 49 0x3ffffffffff) rfl rfl (any_of HT_.out (by kernel_rfl)) (fun _ _ _ h => h) (by rfl) ?_ ?_ ?_ ?_; rotate_left; · (intro w'; go_simp; with_reducible rfl)
                            rotate_left; · (simp only [Act.put, sT, sZ, sS, i64_w, i32_w]; rfl)
                            refine pV 42 170 ?_ (mq 49 0x7ffffffffff) rfl rfl (any_of HT_.out (by kernel_rfl)) (fun _ _ _ h => h) (by rfl) ?_ ?_ ?_ ?_; rotate_left; · (intro w'; go_simp; with_reducible rfl)
                            rotate_left; · (simp only [Act.put, sT, sZ, sS, i64_w, i32_w]; rfl)
                            refine pV 43 171 ?_ (mq 49 0xfffffffffff) rfl rfl (any_of HT_.out (by kernel_rfl)) (fun _ _ _ h => h) (by rfl) ?_ ?_ ?_ ?_; rotate_left; · (intro w'; go_simp; with_reducible rfl)
                            rotate_left; · (simp only [Act.put, sT, sZ, sS, i64_w, i32_w]; rfl)
                            refine take_ (i := 44) (N := some 172) (v := ?_) (a' := ?_) (mq 49 0x1fffffffffff) rfl rfl (take_ofW HT_.out HW_.out (by kernel_rfl)) (fun _ _ _ h => h) (Or.inl ⟨by rfl, ?_⟩) hHeld ?_ ?_; rotate_left
                            ·rintro w' ⟨s0, s1, s2, s3, s4, s5, s6, s7, s8, s9, s10, s11, s12, s13, s14, s15, s16, s17, s18, s19, s20, s21, s22, s23, s24, s25, s26, s27, s28, s29, s30, s31, s32, s33, s34, s35, s36, s37, s38, s39, s40, s41, s42, s43, s44, s45, s46, s47, s48, s49, s50, s51, s52, s53, s54, s55, s56, s57, s58, s59, s60, s61, s62, s63, s64, s65⟩
                             go_simp
                             with_reducible rfl
                            rotate_left; · (simp only [Act.put, sT, sZ, sS, i64_w, i32_w]; rfl)
                            refine pV 45 173 ?_ (mq 49 0x3fffffffffff) rfl rfl (any_of HT_.out (by kernel_rfl)) (fun _ _ _ h => h) (by rfl) ?_ ?_ ?_ ?_; rotate_left; · (intro w'; go_simp; with_reducible rfl)
                            rotate_left; · (simp only [Act.put, sT, sZ, sS, i64_w, i32_w]; rfl)
                            refine pV 46 174 ?_ (mq 49 0x7fffffffffff) rfl rfl (any_of HT_.out (by kernel_rfl)) (fun _ _ _ h => h) (by rfl) ?_ ?_ ?_ ?_; rotate_left; · (intro w'; go_simp; with_reducible rfl)
                            rotate_left; · (simp only [Act.put, sT, sZ, sS, i64_w, i32_w]; rfl)
                            refine pV 47 175 ?_ (mq 49 0xffffffffffff) rfl rfl (any_of HT_.out (by kernel_rfl)) (fun _ _ _ h => h) (by rfl) ?_ ?_ ?_ ?_; rotate_left; · (intro w'; go_simp; with_reducible rfl)
                            rotate_left; · (simp only [Act.put, sT, sZ, sS, i64_w, i32_w]; rfl)
                            refine pV 48 24 ?_ (mq 49 0x1ffffffffffff) rfl rfl (any_of HT_.out (by kernel_rfl)) (fun _ _ _ h => h) (by rfl) ?_ ?_ ?_ ?_; rotate_left; · (intro w'; go_simp; with_reducible rfl)
                            rotate_left; · (simp only [Act.put, sT, sZ, sS, i64_w, i32_w]; rfl)
                            refine done_ (done_of HT_.out (by kernel_rfl)) ?_
                            try go_wp2
                            go_roundg k4
                            case measure => have := HQ1.out; have := HQ2.out; have := HQ3.out; have := HQ4.out; omega
                            case rel => exact ⟨(decide (((rd_T44 l2 x26_2).f3) > 0)), (wrap64 (x26_2 + 1)), (by first | rfl | (simp; done) | (simp [*]; done)), (by first | rfl | (simp; done) | (simp [*]; done)), H', ⟨by have := HQ1.out; have := HQ2.out; have := HQ3.out; have := HQ4.out; omega⟩, HS, HK⟩
                           ·replace c48 := Bool.eq_false_iff.mpr c48
                            subst c48
                            rw [if_neg (show ¬ (false = true) by decide)] at H
                            have H' := Aside0.mk H
                            clear H
                            try go_wp2
                            have pq576 : 0 ≤ (x25_1 : Int) := of_decide_eq_true (by first | (with_reducible assumption) | assumption)
                            have qq576 : x25_1 < ((t542.length : Int) : Int) := of_decide_eq_true (by first | (with_reducible assumption) | assumption)
                            obtain ⟨adq576, eq576, hxq576_0, hxq576_1, hxq576_2, hxq576_3, hxq576_4, hxq576_5, hxq576_6, hxq576_7, hxq576_8, hxq576_9, hxq576_10, hxq576_11, hxq576_12, hxq576_13, hxq576_14, hxq576_15⟩ := at_T37 (SL.row_c HS.out).2.2 x25_1 pq576 qq576
                            cases eq576
                            replace pq576 := eq_true pq576
                            replace qq576 := eq_true qq576
                            have pq577 : 0 ≤ (x23_0 : Int) := of_decide_eq_true (by first | (with_reducible assumption) | assumption)
                            have qq577 : x23_0 < ((t574.length : Int) : Int) := of_decide_eq_true (by first | (with_reducible assumption) | assumption)
                            obtain ⟨adq577, eq577, hxq577_0, hxq577_1⟩ := at_T56 (SL.row_c (SL.get2 HS.out)).2.2 x23_0 pq577 qq577
                            cases eq577
                            replace pq577 := eq_true pq577
                            replace qq577 := eq_true qq577
                            have pq578 : 0 ≤ (x26_2 : Int) := of_decide_eq_true (by first | (with_reducible assumption) | assumption)
                            have qq578 : x26_2 < ((l2.length : Int) : Int) := of_decide_eq_true (by first | (with_reducible assumption) | assumption)
                            obtain ⟨adq578, eq578, hxq578_0, hxq578_1, hxq578_2, hxq578_3, hxq578_4, hxq578_5, hxq578_6, hxq578_7, hxq578_8, hxq578_9⟩ := at_T44 (RO.at_ HR2.out HK.out) x26_2 pq578 qq578
                            cases eq578
                            replace pq578 := eq_true pq578
                            replace qq578 := eq_true qq578
                            have pq579 : 0 ≤ (x23_0 : Int) := of_decide_eq_true (by first | (with_reducible assumption) | assumption)
                            have qq579 : x23_0 < ((t574.length : Int) : Int) := of_decide_eq_true (by first | (with_reducible assumption) | assumption)
                            obtain ⟨adq579, eq579, hxq579_0, hxq579_1⟩ := at_T56 (SL.row_c (SL.get2 HS.out)).2.2 x23_0 pq579 qq579
                            obtain rfl : adq577 = adq579 := (by injection eq579)
                            replace pq579 := eq_true pq579
                            replace qq579 := eq_true qq579
                            have pq580 : 0 ≤ (x25_1 : Int) := of_decide_eq_true (by first | (with_reducible assumption) | assumption)
                            have qq580 : x25_1 < ((t542.length : Int) : Int) := of_decide_eq_true (by first | (with_reducible assumption) | assumption)
                            obtain ⟨adq580, eq580, hxq580_0, hxq580_1, hxq580_2, hxq580_3, hxq580_4, hxq580_5, hxq580_6, hxq580_7, hxq580_8, hxq580_9, hxq580_10, hxq580_11, hxq580_12, hxq580_13, hxq580_14, hxq580_15⟩ := at_T37 (SL.row_c HS.out).2.2 x25_1 pq580 qq580
                            obtain rfl : adq576 = adq580 := (by injection eq580)
                            replace pq580 := eq_true pq580
                            replace qq580 := eq_true qq580
                            have pq581 : 0 ≤ (x26_2 : Int) := of_decide_eq_true (by first | (with_reducible assumption) | assumption)
                            have qq581 : x26_2 < ((l2.length : Int) : Int) := of_decide_eq_true (by first | (with_reducible assumption) | assumption)
                            obtain ⟨adq581, eq581, hxq581_0, hxq581_1, hxq581_2, hxq581_3, hxq581_4, hxq581_5, hxq581_6, hxq581_7, hxq581_8, hxq581_9⟩ := at_T44 (RO.at_ HR2.out HK.out) x26_2 pq581 qq581
                            obtain rfl : adq578 = adq581 := (by injection eq581)
                            replace pq581 := eq_true pq581
                            replace qq581 := eq_true qq581
                            refine start_ (n := 49) (S := fun w' => w'.cell? (adq576.add (x25_1.toNat * 16)) = some (.int .i64 ((rd_T37 t542 x25_1).f0)) ∧ w'.cell? ⟨(adq576.add (x25_1.toNat * 16)).block, (adq576.add (x25_1.toNat * 16)).off + 1, none⟩ = some (.int .i64 ((rd_T37 t542 x25_1).f1.f0)) ∧ w'.cell? ⟨(adq576.add (x25_1.toNat * 16)).block, (adq576.add (x25_1.toNat * 16)).off + 2, none⟩ = some (.int .i64 ((rd_T37 t542 x25_1).f1.f1.f0)) ∧ w'.cell? ⟨(adq576.add (x25_1.toNat * 16)).block, (adq576.add (x25_1.toNat * 16)).off + 3, none⟩ = some (.int .i64 ((rd_T37 t542 x25_1).f1.f1.f1)) ∧ w'.cell? ⟨(adq576.add (x25_1.toNat * 16)).block, (adq576.add (x25_1.toNat * 16)).off + 4, none⟩ = some (.int .i64 ((rd_T37 t542 x25_1).f1.f2.f0)) ∧ w'.cell? ⟨(adq576.add (x25_1.toNat * 16)).block, (adq576.add (x25_1.toNat * 16)).off + 5, none⟩ = some (.int .i64 ((rd_T37 t542 x25_1).f1.f2.f1)) ∧ w'.cell? ⟨(adq576.add (x25_1.toNat * 16)).block, (adq576.add (x25_1.toNat * 16)).off + 6, none⟩ = some (.int .i64 ((rd_T37 t542 x25_1).f1.f3)) ∧ w'.cell? ⟨(adq576.add (x25_1.toNat * 16)).block, (adq576.add (x25_1.toNat * 16)).off + 7, none⟩ = some (.int .i64 ((rd_T37 t542 x25_1).f1.f4)) ∧ w'.cell? ⟨(adq576.add (x25_1.toNat * 16)).block, (adq576.add (x25_1.toNat * 16)).off + 8, none⟩ = some (.int .i64 ((rd_T37 t542 x25_1).f2)) ∧ w'.cell? ⟨(adq576.add (x25_1.toNat * 16)).block, (adq576.add (x25_1.toNat * 16)).off + 9, none⟩ = some (.int .i64 ((rd_T37 t542 x25_1).f3)) ∧ w'.cell? ⟨(adq576.add (x25_1.toNat * 16)).block, (adq576.add (x25_1.toNat * 16)).off + 10, none⟩ = some (.int .i64 ((rd_T37 t542 x25_1).f4)) ∧ w'.cell? ⟨(adq576.add (x25_1.toNat * 16)).block, (adq576.add (x25_1.toNat * 16)).off + 11, none⟩ = some (.int .i64 ((rd_T37 t542 x25_1).f5.f0)) ∧ w'.cell? ⟨(adq576.add (x25_1.toNat * 16)).block, (adq576.add (x25_1.toNat * 16)).off + 12, none⟩ = some (.int .i64 ((rd_T37 t542 x25_1).f5.f1)) ∧ w'.cell? ⟨(adq576.add (x25_1.toNat * 16)).block, (adq576.add (x25_1.toNat * 16)).off + 13, none⟩ = some (.int .i64 ((rd_T37 t542 x25_1).f5.f2)) ∧ w'.cell? ⟨(adq576.add (x25_1.toNat * 16)).block, (adq576.add (x25_1.toNat * 16)).off + 14, none⟩ = some (.int .i64 ((rd_T37 t542 x25_1).f6)) ∧ w'.cell? ⟨(adq576.add (x25_1.toNat * 16)).block, (adq576.add (x25_1.toNat * 16)).off + 15, none⟩ = some (.int .i64 ((rd_T37 t542 x25_1).f7)) ∧ w'.cell? (adq577.add (x23_0.toNat * 2)) = some (.int .i64 ((rd_T56 t574 x23_0).f0)) ∧ w'.cell? ⟨(adq577.add (x23_0.toNat * 2)).block, (adq577.add (x23_0.toNat * 2)).off + 1, none⟩ = some (.int .i64 ((rd_T56 t574 x23_0).f1)) ∧ w'.cell? (adq578.add (x26_2.toNat * 10)) = some (.int .i64 ((rd_T44 l2 x26_2).f0)) ∧ w'.cell? ⟨(adq578.add (x26_2.toNat * 10)).block, (adq578.add (x26_2.toNat * 10)).off + 1, none⟩ = some (.int .i64 ((rd_T44 l2 x26_2).f1)) ∧ w'.cell? ⟨(adq578.add (x26_2.toNat * 10)).block, (adq578.add (x26_2.toNat * 10)).off + 2, none⟩ = some (.int .i64 ((rd_T44 l2 x26_2).f2)) ∧ w'.cell? ⟨(adq578.add (x26_2.toNat * 10)).block, (adq578.add (x26_2.toNat * 10)).off + 3, none⟩ = some (.int .i64 ((rd_T44 l2 x26_2).f3)) ∧ w'.cell? ⟨(adq578.add (x26_2.toNat * 10)).block, (adq578.add (x26_2.toNat * 10)).off + 4, none⟩ = some (.int .i64 ((rd_T44 l2 x26_2).f4)) ∧ w'.cell? ⟨(adq578.add (x26_2.toNat * 10)).block, (adq578.add (x26_2.toNat * 10)).off + 5, none⟩ = some (.int .i64 ((rd_T44 l2 x26_2).f5)) ∧ w'.cell? ⟨(adq578.add (x26_2.toNat * 10)).block, (adq578.add (x26_2.toNat * 10)).off + 6, none⟩ = some (.int .i64 ((rd_T44 l2 x26_2).f6)) ∧ w'.cell? ⟨(adq578.add (x26_2.toNat * 10)).block, (adq578.add (x26_2.toNat * 10)).off + 7, none⟩ = some (.int .i64 ((rd_T44 l2 x26_2).f7.f0)) ∧ w'.cell? ⟨(adq578.add (x26_2.toNat * 10)).block, (adq578.add (x26_2.toNat * 10)).off + 8, none⟩ = some (.int .i64 ((rd_T44 l2 x26_2).f7.f1)) ∧ w'.cell? ⟨(adq578.add (x26_2.toNat * 10)).block, (adq578.add (x26_2.toNat * 10)).off + 9, none⟩ = some (.int .i64 ((rd_T44 l2 x26_2).f8)) ∧ w'.cell? (adq577.add (x23_0.toNat * 2)) = some (.int .i64 ((rd_T56 t574 x23_0).f0)) ∧ w'.cell? ⟨(adq577.add (x23_0.toNat * 2)).block, (adq577.add (x23_0.toNat * 2)).off + 1, none⟩ = some (.int .i64 ((rd_T56 t574 x23_0).f1)) ∧ w'.cell? (adq576.add (x25_1.toNat * 16)) = some (.int .i64 ((rd_T37 t542 x25_1).f0)) ∧ w'.cell? ⟨(adq576.add (x25_1.toNat * 16)).block, (adq576.add (x25_1.toNat * 16)).off + 1, none⟩ = some (.int .i64 ((rd_T37 t542 x25_1).f1.f0)) ∧ w'.cell? ⟨(adq576.add (x25_1.toNat * 16)).block, (adq576.add (x25_1.toNat * 16)).off + 2, none⟩ = some (.int .i64 ((rd_T37 t542 x25_1).f1.f1.f0)) ∧ w'.cell? ⟨(adq576.add (x25_1.toNat * 16)).block, (adq576.add (x25_1.toNat * 16)).off + 3, none⟩ = some (.int .i64 ((rd_T37 t542 x25_1).f1.f1.f1)) ∧ w'.cell? ⟨(adq576.add (x25_1.toNat * 16)).block, (adq576.add (x25_1.toNat * 16)).off + 4, none⟩ = some (.int .i64 ((rd_T37 t542 x25_1).f1.f2.f0)) ∧ w'.cell? ⟨(adq576.add (x25_1.toNat * 16)).block, (adq576.add (x25_1.toNat * 16)).off + 5, none⟩ = some (.int .i64 ((rd_T37 t542 x25_1).f1.f2.f1)) ∧ w'.cell? ⟨(adq576.add (x25_1.toNat * 16)).block, (adq576.add (x25_1.toNat * 16)).off + 6, none⟩ = some (.int .i64 ((rd_T37 t542 x25_1).f1.f3)) ∧ w'.cell? ⟨(adq576.add (x25_1.toNat * 16)).block, (adq576.add (x25_1.toNat * 16)).off + 7, none⟩ = some (.int .i64 ((rd_T37 t542 x25_1).f1.f4)) ∧ w'.cell? ⟨(adq576.add (x25_1.toNat * 16)).block, (adq576.add (x25_1.toNat * 16)).off + 8, none⟩ = some (.int .i64 ((rd_T37 t542 x25_1).f2)) ∧ w'.cell? ⟨(adq576.add (x25_1.toNat * 16)).block, (adq576.add (x25_1.toNat * 16)).off + 9, none⟩ = some (.int .i64 ((rd_T37 t542 x25_1).f3)) ∧ w'.cell? ⟨(adq576.add (x25_1.toNat * 16)).block, (adq576.add (x25_1.toNat * 16)).off + 10, none⟩ = some (.int .i64 ((rd_T37 t542 x25_1).f4)) ∧ w'.cell? ⟨(adq576.add (x25_1.toNat * 16)).block, (adq576.add (x25_1.toNat * 16)).off + 11, none⟩ = some (.int .i64 ((rd_T37 t542 x25_1).f5.f0)) ∧ w'.cell? ⟨(adq576.add (x25_1.toNat * 16)).block, (adq576.add (x25_1.toNat * 16)).off + 12, none⟩ = some (.int .i64 ((rd_T37 t542 x25_1).f5.f1)) ∧ w'.cell? ⟨(adq576.add (x25_1.toNat * 16)).block, (adq576.add (x25_1.toNat * 16)).off + 13, none⟩ = some (.int .i64 ((rd_T37 t542 x25_1).f5.f2)) ∧ w'.cell? ⟨(adq576.add (x25_1.toNat * 16)).block, (adq576.add (x25_1.toNat * 16)).off + 14, none⟩ = some (.int .i64 ((rd_T37 t542 x25_1).f6)) ∧ w'.cell? ⟨(adq576.add (x25_1.toNat * 16)).block, (adq576.add (x25_1.toNat * 16)).off + 15, none⟩ = some (.int .i64 ((rd_T37 t542 x25_1).f7)) ∧ w'.cell? (adq578.add (x26_2.toNat * 10)) = some (.int .i64 ((rd_T44 l2 x26_2).f0)) ∧ w'.cell? ⟨(adq578.add (x26_2.toNat * 10)).block, (adq578.add (x26_2.toNat * 10)).off + 1, none⟩ = some (.int .i64 ((rd_T44 l2 x26_2).f1)) ∧ w'.cell? ⟨(adq578.add (x26_2.toNat * 10)).block, (adq578.add (x26_2.toNat * 10)).off + 2, none⟩ = some (.int .i64 ((rd_T44 l2 x26_2).f2)) ∧ w'.cell? ⟨(adq578.add (x26_2.toNat * 10)).block, (adq578.add (x26_2.toNat * 10)).off + 3, none⟩ = some (.int .i64 ((rd_T44 l2 x26_2).f3)) ∧ w'.cell? ⟨(adq578.add (x26_2.toNat * 10)).block, (adq578.add (x26_2.toNat * 10)).off + 4, none⟩ = some (.int .i64 ((rd_T44 l2 x26_2).f4)) ∧ w'.cell? ⟨(adq578.add (x26_2.toNat * 10)).block, (adq578.add (x26_2.toNat * 10)).off + 5, none⟩ = some (.int .i64 ((rd_T44 l2 x26_2).f5)) ∧ w'.cell? ⟨(adq578.add (x26_2.toNat * 10)).block, (adq578.add (x26_2.toNat * 10)).off + 6, none⟩ = some (.int .i64 ((rd_T44 l2 x26_2).f6)) ∧ w'.cell? ⟨(adq578.add (x26_2.toNat * 10)).block, (adq578.add (x26_2.toNat * 10)).off + 7, none⟩ = some (.int .i64 ((rd_T44 l2 x26_2).f7.f0)) ∧ w'.cell? ⟨(adq578.add (x26_2.toNat * 10)).block, (adq578.add (x26_2.toNat * 10)).off + 8, none⟩ = some (.int .i64 ((rd_T44 l2 x26_2).f7.f1)) ∧ w'.cell? ⟨(adq578.add (x26_2.toNat * 10)).block, (adq578.add (x26_2.toNat * 10)).off + 9, none⟩ = some (.int .i64 ((rd_T44 l2 x26_2).f8))) (ds := []) #[O,O,O,O,O,O,O,O,O,O,O,O,O,O,O,O,O,O,O,O,O,O,O,O,O,O,O,O,O,O,O,O,O,O,O,O,O,O,O,O,O,O,O,O,O,O,O,O,O] (by kernel_rfl) rfl rfl ⟨(by obtain ⟨a_, e_, h0_, h1_, h2_, h3_, h4_, h5_, h6_, h7_, h8_, h9_, h10_, h11_, h12_, h13_, h14_, h15_⟩ := at_T37 (SL.row_c HS.out).2.2 x25_1 (of_eq_true pq576) (of_eq_true qq576); obtain rfl := Option.some.inj e_; exact h0_), (by obtain ⟨a_, e_, h0_, h1_, h2_, h3_, h4_, h5_, h6_, h7_, h8_, h9_, h10_, h11_, h12_, h13_, h14_, h15_⟩ := at_T37 (SL.row_c HS.out).2.2 x25_1 (of_eq_true pq576) (of_eq_true qq576); obtain rfl := Option.some.inj e_; exact h1_), (by obtain ⟨a_, e_, h0_, h1_, h2_, h3_, h4_, h5_, h6_, h7_, h8_, h9_, h10_, h11_, h12_, h13_, h14_, h15_⟩ := at_T37 (SL.row_c HS.out).2.2 x25_1 (of_eq_true pq576) (of_eq_true qq576); obtain rfl := Option.some.inj e_; exact h2_), (by obtain ⟨a_, e_, h0_, h1_, h2_, h3_, h4_, h5_, h6_, h7_, h8_, h9_, h10_, h11_, h12_, h13_, h14_, h15_⟩ := at_T37 (SL.row_c HS.out).2.2 x25_1 (of_eq_true pq576) (of_eq_true qq576); obtain rfl := Option.some.inj e_; exact h3_), (by obtain ⟨a_, e_, h0_, h1_, h2_, h3_, h4_, h5_, h6_, h7_, h8_, h9_, h10_, h11_, h12_, h13_, h14_, h15_⟩ := at_T37 (SL.row_c HS.out).2.2 x25_1 (of_eq_true pq576) (of_eq_true qq576); obtain rfl := Option.some.inj e_; exact h4_), (by obtain ⟨a_, e_, h0_, h1_, h2_, h3_, h4_, h5_, h6_, h7_, h8_, h9_, h10_, h11_, h12_, h13_, h14_, h15_⟩ := at_T37 (SL.row_c HS.out).2.2 x25_1 (of_eq_true pq576) (of_eq_true qq576); obtain rfl := Option.some.inj e_; exact h5_), (by obtain ⟨a_, e_, h0_, h1_, h2_, h3_, h4_, h5_, h6_, h7_, h8_, h9_, h10_, h11_, h12_, h13_, h14_, h15_⟩ := at_T37 (SL.row_c HS.out).2.2 x25_1 (of_eq_true pq576) (of_eq_true qq576); obtain rfl := Option.some.inj e_; exact h6_), (by obtain ⟨a_, e_, h0_, h1_, h2_, h3_, h4_, h5_, h6_, h7_, h8_, h9_, h10_, h11_, h12_, h13_, h14_, h15_⟩ := at_T37 (SL.row_c HS.out).2.2 x25_1 (of_eq_true pq576) (of_eq_true qq576); obtain rfl := Option.some.inj e_; exact h7_), (by obtain ⟨a_, e_, h0_, h1_, h2_, h3_, h4_, h5_, h6_, h7_, h8_, h9_, h10_, h11_, h12_, h13_, h14_, h15_⟩ := at_T37 (SL.row_c HS.out).2.2 x25_1 (of_eq_true pq576) (of_eq_true qq576); obtain rfl := Option.some.inj e_; exact h8_), (by obtain ⟨a_, e_, h0_, h1_, h2_, h3_, h4_, h5_, h6_, h7_, h8_, h9_, h10_, h11_, h12_, h13_, h14_, h15_⟩ := at_T37 (SL.row_c HS.out).2.2 x25_1 (of_eq_true pq576) (of_eq_true qq576); obtain rfl := Option.some.inj e_; exact h9_), (by obtain ⟨a_, e_, h0_, h1_, h2_, h3_, h4_, h5_, h6_, h7_, h8_, h9_, h10_, h11_, h12_, h13_, h14_, h15_⟩ := at_T37 (SL.row_c HS.out).2.2 x25_1 (of_eq_true pq576) (of_eq_true qq576); obtain rfl := Option.some.inj e_; exact h10_), (by obtain ⟨a_, e_, h0_, h1_, h2_, h3_, h4_, h5_, h6_, h7_, h8_, h9_, h10_, h11_, h12_, h13_, h14_, h15_⟩ := at_T37 (SL.row_c HS.out).2.2 x25_1 (of_eq_true pq576) (of_eq_true qq576); obtain rfl := Option.some.inj e_; exact h11_), (by obtain ⟨a_, e_, h0_, h1_, h2_, h3_, h4_, h5_, h6_, h7_, h8_, h9_, h10_, h11_, h12_, h13_, h14_, h15_⟩ := at_T37 (SL.row_c HS.out).2.2 x25_1 (of_eq_true pq576) (of_eq_true qq576); obtain rfl := Option.some.inj e_; exact h12_), (by obtain ⟨a_, e_, h0_, h1_, h2_, h3_, h4_, h5_, h6_, h7_, h8_, h9_, h10_, h11_, h12_, h13_, h14_, h15_⟩ := at_T37 (SL.row_c HS.out).2.2 x25_1 (of_eq_true pq576) (of_eq_true qq576); obtain rfl := Option.some.inj e_; exact h13_), (by obtain ⟨a_, e_, h0_, h1_, h2_, h3_, h4_, h5_, h6_, h7_, h8_, h9_, h10_, h11_, h12_, h13_, h14_, h15_⟩ := at_T37 (SL.row_c HS.out).2.2 x25_1 (of_eq_true pq576) (of_eq_true qq576); obtain rfl := Option.some.inj e_; exact h14_), (by obtain ⟨a_, e_, h0_, h1_, h2_, h3_, h4_, h5_, h6_, h7_, h8_, h9_, h10_, h11_, h12_, h13_, h14_, h15_⟩ := at_T37 (SL.row_c HS.out).2.2 x25_1 (of_eq_true pq576) (of_eq_true qq576); obtain rfl := Option.some.inj e_; exact h15_), (by obtain ⟨a_, e_, h0_, h1_⟩ := at_T56 (SL.row_c (SL.get2 HS.out)).2.2 x23_0 (of_eq_true pq577) (of_eq_true qq577); obtain rfl := Option.some.inj e_; exact h0_), (by obtain ⟨a_, e_, h0_, h1_⟩ := at_T56 (SL.row_c (SL.get2 HS.out)).2.2 x23_0 (of_eq_true pq577) (of_eq_true qq577); obtain rfl := Option.some.inj e_; exact h1_), (by obtain ⟨a_, e_, h0_, h1_, h2_, h3_, h4_, h5_, h6_, h7_, h8_, h9_⟩ := at_T44 (RO.at_ HR2.out HK.out) x26_2 (of_eq_true pq578) (of_eq_true qq578); obtain rfl := Option.some.inj e_; exact h0_), (by obtain ⟨a_, e_, h0_, h1_, h2_, h3_, h4_, h5_, h6_, h7_, h8_, h9_⟩ := at_T44 (RO.at_ HR2.out HK.out) x26_2 (of_eq_true pq578) (of_eq_true qq578); obtain rfl := Option.some.inj e_; exact h1_), (by obtain ⟨a_, e_, h0_, h1_, h2_, h3_, h4_, h5_, h6_, h7_, h8_, h9_⟩ := at_T44 (RO.at_ HR2.out HK.out) x26_2 (of_eq_true pq578) (of_eq_true qq578); obtain rfl := Option.some.inj e_; exact h2_), (by obtain ⟨a_, e_, h0_, h1_, h2_, h3_, h4_, h5_, h6_, h7_, h8_, h9_⟩ := at_T44 (RO.at_ HR2.out HK.out) x26_2 (of_eq_true pq578) (of_eq_true qq578); obtain rfl := Option.some.inj e_; exact h3_), (by obtain ⟨a_, e_, h0_, h1_, h2_, h3_, h4_, h5_, h6_, h7_, h8_, h9_⟩ := at_T44 (RO.at_ HR2.out HK.out) x26_2 (of_eq_true pq578) (of_eq_true qq578); obtain rfl := Option.some.inj e_; exact h4_), (by obtain ⟨a_, e_, h0_, h1_, h2_, h3_, h4_, h5_, h6_, h7_, h8_, h9_⟩ := at_T44 (RO.at_ HR2.out HK.out) x26_2 (of_eq_true pq578) (of_eq_true qq578); obtain rfl := Option.some.inj e_; exact h5_), (by obtain ⟨a_, e_, h0_, h1_, h2_, h3_, h4_, h5_, h6_, h7_, h8_, h9_⟩ := at_T44 (RO.at_ HR2.out HK.out) x26_2 (of_eq_true pq578) (of_eq_true qq578); obtain rfl := Option.some.inj e_; exact h6_), (by obtain ⟨a_, e_, h0_, h1_, h2_, h3_, h4_, h5_, h6_, h7_, h8_, h9_⟩ := at_T44 (RO.at_ HR2.out HK.out) x26_2 (of_eq_true pq578) (of_eq_true qq578); obtain rfl := Option.some.inj e_; exact h7_), (by obtain ⟨a_, e_, h0_, h1_, h2_, h3_, h4_, h5_, h6_, h7_, h8_, h9_⟩ := at_T44 (RO.at_ HR2.out HK.out) x26_2 (of_eq_true pq578) (of_eq_true qq578); obtain rfl := Option.some.inj e_; exact h8_), (by obtain ⟨a_, e_, h0_, h1_, h2_, h3_, h4_, h5_, h6_, h7_, h8_, h9_⟩ := at_T44 (RO.at_ HR2.out HK.out) x26_2 (of_eq_true pq578) (of_eq_true qq578); obtain rfl := Option.some.inj e_; exact h9_), (by obtain ⟨a_, e_, h0_, h1_⟩ := at_T56 (SL.row_c (SL.get2 HS.out)).2.2 x23_0 (of_eq_true pq579) (of_eq_true qq579); obtain rfl := Option.some.inj e_; exact h0_), (by obtain ⟨a_, e_, h0_, h1_⟩ := at_T56 (SL.row_c (SL.get2 HS.out)).2.2 x23_0 (of_eq_true pq579) (of_eq_true qq579); obtain rfl := Option.some.inj e_; exact h1_), (by obtain ⟨a_, e_, h0_, h1_, h2_, h3_, h4_, h5_, h6_, h7_, h8_, h9_, h10_, h11_, h12_, h13_, h14_, h15_⟩ := at_T37 (SL.row_c HS.out).2.2 x25_1 (of_eq_true pq580) (of_eq_true qq580); obtain rfl := Option.some.inj e_; exact h0_), (by obtain ⟨a_, e_, h0_, h1_, h2_, h3_, h4_, h5_, h6_, h7_, h8_, h9_, h10_, h11_, h12_, h13_, h14_, h15_⟩ := at_T37 (SL.row_c HS.out).2.2 x25_1 (of_eq_true pq580) (of_eq_true qq580); obtain rfl := Option.some.inj e_; exact h1_), (by obtain ⟨a_, e_, h0_, h1_, h2_, h3_, h4_, h5_, h6_, h7_, h8_, h9_, h10_, h11_, h12_, h13_, h14_, h15_⟩ := at_T37 (SL.row_c HS.out).2.2 x25_1 (of_eq_true pq580) (of_eq_true qq580); obtain rfl := Option.some.inj e_; exact h2_), (by obtain ⟨a_, e_, h0_, h1_, h2_, h3_, h4_, h5_, h6_, h7_, h8_, h9_, h10_, h11_, h12_, h13_, h14_, h15_⟩ := at_T37 (SL.row_c HS.out).2.2 x25_1 (of_eq_true pq580) (of_eq_true qq580); obtain rfl := Option.some.inj e_; exact h3_), (by obtain ⟨a_, e_, h0_, h1_, h2_, h3_, h4_, h5_, h6_, h7_, h8_, h9_, h10_, h11_, h12_, h13_, h14_, h15_⟩ := at_T37 (SL.row_c HS.out).2.2 x25_1 (of_eq_true pq580) (of_eq_true qq580); obtain rfl := Option.some.inj e_; exact h4_), (by obtain ⟨a_, e_, h0_, h1_, h2_, h3_, h4_, h5_, h6_, h7_, h8_, h9_, h10_, h11_, h12_, h13_, h14_, h15_⟩ := at_T37 (SL.row_c HS.out).2.2 x25_1 (of_eq_true pq580) (of_eq_true qq580); obtain rfl := Option.some.inj e_; exact h5_), (by obtain ⟨a_, e_, h0_, h1_, h2_, h3_, h4_, h5_, h6_, h7_, h8_, h9_, h10_, h11_, h12_, h13_, h14_, h15_⟩ := at_T37 (SL.row_c HS.out).2.2 x25_1 (of_eq_true pq580) (of_eq_true qq580); obtain rfl := Option.some.inj e_; exact h6_), (by obtain ⟨a_, e_, h0_, h1_, h2_, h3_, h4_, h5_, h6_, h7_, h8_, h9_, h10_, h11_, h12_, h13_, h14_, h15_⟩ := at_T37 (SL.row_c HS.out).2.2 x25_1 (of_eq_true pq580) (of_eq_true qq580); obtain rfl := Option.some.inj e_; exact h7_), (by obtain ⟨a_, e_, h0_, h1_, h2_, h3_, h4_, h5_, h6_, h7_, h8_, h9_, h10_, h11_, h12_, h13_, h14_, h15_⟩ := at_T37 (SL.row_c HS.out).2.2 x25_1 (of_eq_true pq580) (of_eq_true qq580); obtain rfl := Option.some.inj e_; exact h8_), (by obtain ⟨a_, e_, h0_, h1_, h2_, h3_, h4_, h5_, h6_, h7_, h8_, h9_, h10_, h11_, h12_, h13_, h14_, h15_⟩ := at_T37 (SL.row_c HS.out).2.2 x25_1 (of_eq_true pq580) (of_eq_true qq580); obtain rfl := Option.some.inj e_; exact h9_), (by obtain ⟨a_, e_, h0_, h1_, h2_, h3_, h4_, h5_, h6_, h7_, h8_, h9_, h10_, h11_, h12_, h13_, h14_, h15_⟩ := at_T37 (SL.row_c HS.out).2.2 x25_1 (of_eq_true pq580) (of_eq_true qq580); obtain rfl := Option.some.inj e_; exact h10_), (by obtain ⟨a_, e_, h0_, h1_, h2_, h3_, h4_, h5_, h6_, h7_, h8_, h9_, h10_, h11_, h12_, h13_, h14_, h15_⟩ := at_T37 (SL.row_c HS.out).2.2 x25_1 (of_eq_true pq580) (of_eq_true qq580); obtain rfl := Option.some.inj e_; exact h11_), (by obtain ⟨a_, e_, h0_, h1_, h2_, h3_, h4_, h5_, h6_, h7_, h8_, h9_, h10_, h11_, h12_, h13_, h14_, h15_⟩ := at_T37 (SL.row_c HS.out).2.2 x25_1 (of_eq_true pq580) (of_eq_true qq580); obtain rfl := Option.some.inj e_; exact h12_), (by obtain ⟨a_, e_, h0_, h1_, h2_, h3_, h4_, h5_, h6_, h7_, h8_, h9_, h10_, h11_, h12_, h13_, h14_, h15_⟩ := at_T37 (SL.row_c HS.out).2.2 x25_1 (of_eq_true pq580) (of_eq_true qq580); obtain rfl := Option.some.inj e_; exact h13_), (by obtain ⟨a_, e_, h0_, h1_, h2_, h3_, h4_, h5_, h6_, h7_, h8_, h9_, h10_, h11_, h12_, h13_, h14_, h15_⟩ := at_T37 (SL.row_c HS.out).2.2 x25_1 (of_eq_true pq580) (of_eq_true qq580); obtain rfl := Option.some.inj e_; exact h14_), (by obtain ⟨a_, e_, h0_, h1_, h2_, h3_, h4_, h5_, h6_, h7_, h8_, h9_, h10_, h11_, h12_, h13_, h14_, h15_⟩ := at_T37 (SL.row_c HS.out).2.2 x25_1 (of_eq_true pq580) (of_eq_true qq580); obtain rfl := Option.some.inj e_; exact h15_), (by obtain ⟨a_, e_, h0_, h1_, h2_, h3_, h4_, h5_, h6_, h7_, h8_, h9_⟩ := at_T44 (RO.at_ HR2.out HK.out) x26_2 (of_eq_true pq581) (of_eq_true qq581); obtain rfl := Option.some.inj e_; exact h0_), (by obtain ⟨a_, e_, h0_, h1_, h2_, h3_, h4_, h5_, h6_, h7_, h8_, h9_⟩ := at_T44 (RO.at_ HR2.out HK.out) x26_2 (of_eq_true pq581) (of_eq_true qq581); obtain rfl := Option.some.inj e_; exact h1_), (by obtain ⟨a_, e_, h0_, h1_, h2_, h3_, h4_, h5_, h6_, h7_, h8_, h9_⟩ := at_T44 (RO.at_ HR2.out HK.out) x26_2 (of_eq_true pq581) (of_eq_true qq581); obtain rfl := Option.some.inj e_; exact h2_), (by obtain ⟨a_, e_, h0_, h1_, h2_, h3_, h4_, h5_, h6_, h7_, h8_, h9_⟩ := at_T44 (RO.at_ HR2.out HK.out) x26_2 (of_eq_true pq581) (of_eq_true qq581); obtain rfl := Option.some.inj e_; exact h3_), (by obtain ⟨a_, e_, h0_, h1_, h2_, h3_, h4_, h5_, h6_, h7_, h8_, h9_⟩ := at_T44 (RO.at_ HR2.out HK.out) x26_2 (of_eq_true pq581) (of_eq_true qq581); obtain rfl := Option.some.inj e_; exact h4_), (by obtain ⟨a_, e_, h0_, h1_, h2_, h3_, h4_, h5_, h6_, h7_, h8_, h9_⟩ := at_T44 (RO.at_ HR2.out HK.out) x26_2 (of_eq_true pq581) (of_eq_true qq581); obtain rfl := Option.some.inj e_; exact h5_), (by obtain ⟨a_, e_, h0_, h1_, h2_, h3_, h4_, h5_, h6_, h7_, h8_, h9_⟩ := at_T44 (RO.at_ HR2.out HK.out) x26_2 (of_eq_true pq581) (of_eq_true qq581); obtain rfl := Option.some.inj e_; exact h6_), (by obtain ⟨a_, e_, h0_, h1_, h2_, h3_, h4_, h5_, h6_, h7_, h8_, h9_⟩ := at_T44 (RO.at_ HR2.out HK.out) x26_2 (of_eq_true pq581) (of_eq_true qq581); obtain rfl := Option.some.inj e_; exact h7_), (by obtain ⟨a_, e_, h0_, h1_, h2_, h3_, h4_, h5_, h6_, h7_, h8_, h9_⟩ := at_T44 (RO.at_ HR2.out HK.out) x26_2 (of_eq_true pq581) (of_eq_true qq581); obtain rfl := Option.some.inj e_; exact h8_), (by obtain ⟨a_, e_, h0_, h1_, h2_, h3_, h4_, h5_, h6_, h7_, h8_, h9_⟩ := at_T44 (RO.at_ HR2.out HK.out) x26_2 (of_eq_true pq581) (of_eq_true qq581); obtain rfl := Option.some.inj e_; exact h9_)⟩ (fun hHeld => ?_); refine with_tabW barrowlaw33_ZoneStays.tab26 barrowlaw33_ZoneStays.bits26 (fun HT_ HW_ => ?_)
                            replace HK := Aside0.mk (Keep.drew HK.out)
                            replace HS := Aside0.mk (SL.drew HS.out)
                            refine pV 0 128 ?_ (mq 49 1) rfl rfl (any_of HT_.out (by kernel_rfl)) (fun _ _ _ h => h) (by rfl) ?_ ?_ ?_ ?_; rotate_left; · (intro w'; go_simp; with_reducible rfl)
                            rotate_left; · (simp only [Act.put, sT, sZ, sS, i64_w, i32_w]; rfl)
                            refine pV 1 129 ?_ (mq 49 3) rfl rfl (any_of HT_.out (by kernel_rfl)) (fun _ _ _ h => h) (by rfl) ?_ ?_ ?_ ?_; rotate_left; · (intro w'; go_simp; with_reducible rfl)
                            rotate_left; · (simp only [Act.put, sT, sZ, sS, i64_w, i32_w]; rfl)
                            refine pV 2 130 ?_ (mq 49 7) rfl rfl (any_of HT_.out (by kernel_rfl)) (fun _ _ _ h => h) (by rfl) ?_ ?_ ?_ ?_; rotate_left; · (intro w'; go_simp; with_reducible rfl)
                            rotate_left; · (simp only [Act.put, sT, sZ, sS, i64_w, i32_w]; rfl)
                            refine pV 3 131 ?_ (mq 49 15) rfl rfl (any_of HT_.out (by kernel_rfl)) (fun _ _ _ h => h) (by rfl) ?_ ?_ ?_ ?_; rotate_left; · (intro w'; go_simp; with_reducible rfl)
                            rotate_left; · (simp only [Act.put, sT, sZ, sS, i64_w, i32_w]; rfl)
                            refine pV 4 132 ?_ (mq 49 31) rfl rfl (any_of HT_.out (by kernel_rfl)) (fun _ _ _ h => h) (by rfl) ?_ ?_ ?_ ?_; rotate_left; · (intro w'; go_simp; with_reducible rfl)
                            rotate_left; · (simp only [Act.put, sT, sZ, sS, i64_w, i32_w]; rfl)
                            refine pV 5 133 ?_ (mq 49 63) rfl rfl (any_of HT_.out (by kernel_rfl)) (fun _ _ _ h => h) (by rfl) ?_ ?_ ?_ ?_; rotate_left; · (intro w'; go_simp; with_reducible rfl)
                            rotate_left; · (simp only [Act.put, sT, sZ, sS, i64_w, i32_w]; rfl)
                            refine pV 7 135 ?_ (mq 49 191) rfl rfl (any_of HT_.out (by kernel_rfl)) (fun _ _ _ h => h) (by rfl) ?_ ?_ ?_ ?_; rotate_left; · (intro w'; go_simp; with_reducible rfl)
                            rotate_left; · (simp only [Act.put, sT, sZ, sS, i64_w, i32_w]; rfl)
                            refine pV 8 136 ?_ (mq 49 447) rfl rfl (any_of HT_.out (by kernel_rfl)) (fun _ _ _ h => h) (by rfl) ?_ ?_ ?_ ?_; rotate_left; · (intro w'; go_simp; with_reducible rfl)
                            rotate_left; · (simp only [Act.put, sT, sZ, sS, i64_w, i32_w]; rfl)
                            refine pV 9 137 ?_ (mq 49 959) rfl rfl (any_of HT_.out (by kernel_rfl)) (fun _ _ _ h => h) (by rfl) ?_ ?_ ?_ ?_; rotate_left; · (intro w'; go_simp; with_reducible rfl)
                            rotate_left; · (simp only [Act.put, sT, sZ, sS, i64_w, i32_w]; rfl)
                            refine pV 10 138 ?_ (mq 49 1983) rfl rfl (any_of HT_.out (by kernel_rfl)) (fun _ _ _ h => h) (by rfl) ?_ ?_ ?_ ?_; rotate_left; · (intro w'; go_simp; with_reducible rfl)
                            rotate_left; · (simp only [Act.put, sT, sZ, sS, i64_w, i32_w]; rfl)
                            refine take_ (i := 6) (N := some 134) (v := ?_) (a' := ?_) (mq 49 2047) rfl rfl (take_ofW HT_.out HW_.out (by kernel_rfl)) (fun _ _ _ h => h) (Or.inl ⟨by rfl, ?_⟩) hHeld ?_ ?_; rotate_left
                            ·rintro w' ⟨s0, s1, s2, s3, s4, s5, s6, s7, s8, s9, s10, s11, s12, s13, s14, s15, s16, s17, s18, s19, s20, s21, s22, s23, s24, s25, s26, s27, s28, s29, s30, s31, s32, s33, s34, s35, s36, s37, s38, s39, s40, s41, s42, s43, s44, s45, s46, s47, s48, s49, s50, s51, s52, s53, s54, s55⟩
                             go_simp
                             with_reducible rfl
                            rotate_left; · (simp only [Act.put, sT, sZ, sS, i64_w, i32_w]; rfl)
                            refine take_ (i := 11) (N := some 139) (v := ?_) (a' := ?_) (mq 49 4095) rfl rfl (take_ofW HT_.out HW_.out (by kernel_rfl)) (fun _ _ _ h => h) (Or.inl ⟨by rfl, ?_⟩) hHeld ?_ ?_; rotate_left
                            ·rintro w' ⟨s0, s1, s2, s3, s4, s5, s6, s7, s8, s9, s10, s11, s12, s13, s14, s15, s16, s17, s18, s19, s20, s21, s22, s23, s24, s25, s26, s27, s28, s29, s30, s31, s32, s33, s34, s35, s36, s37, s38, s39, s40, s41, s42, s43, s44, s45, s46, s47, s48, s49, s50, s51, s52, s53, s54, s55⟩
                             go_simp
                             with_reducible rfl
                            rotate_left; · (simp only [Act.put, sT, sZ, sS, i64_w, i32_w]; rfl)
                            refine pV 12 140 ?_ (mq 49 8191) rfl rfl (any_of HT_.out (by kernel_rfl)) (fun _ _ _ h => h) (by rfl) ?_ ?_ ?_ ?_; rotate_left; · (intro w'; go_simp; with_reducible rfl)
                            rotate_left; · (simp only [Act.put, sT, sZ, sS, i64_w, i32_w]; rfl)
                            refine pV 13 141 ?_ (mq 49 16383) rfl rfl (any_of HT_.out (by kernel_rfl)) (fun _ _ _ h => h) (by rfl) ?_ ?_ ?_ ?_; rotate_left; · (intro w'; go_simp; with_reducible rfl)
                            rotate_left; · (simp only [Act.put, sT, sZ, sS, i64_w, i32_w]; rfl)
                            refine pV 14 142 ?_ (mq 49 32767) rfl rfl (any_of HT_.out (by kernel_rfl)) (fun _ _ _ h => h) (by rfl) ?_ ?_ ?_ ?_; rotate_left; · (intro w'; go_simp; with_reducible rfl)
                            rotate_left; · (simp only [Act.put, sT, sZ, sS, i64_w, i32_w]; rfl)
                            refine pV 15 143 ?_ (mq 49 65535) rfl rfl (any_of HT_.out (by kernel_rfl)) (fun _ _ _ h => h) (by rfl) ?_ ?_ ?_ ?_; rotate_left; · (intro w'; go_simp; with_reducible rfl)
                            rotate_left; · (simp only [Act.put, sT, sZ, sS, i64_w, i32_w]; rfl)
                            refine pV 16 144 ?_ (mq 49 131071) rfl rfl (any_of HT_.out (by kernel_rfl)) (fun _ _ _ h => h) (by rfl) ?_ ?_ ?_ ?_; rotate_left; · (intro w'; go_simp; with_reducible rfl)
                            rotate_left; · (simp only [Act.put, sT, sZ, sS, i64_w, i32_w]; rfl)
                            refine pV 17 145 ?_ (mq 49 262143) rfl rfl (any_of HT_.out (by kernel_rfl)) (fun _ _ _ h => h) (by rfl) ?_ ?_ ?_ ?_; rotate_left; · (intro w'; go_simp; with_reducible rfl)
                            rotate_left; · (simp only [Act.put, sT, sZ, sS, i64_w, i32_w]; rfl)
                            refine pV 19 147 ?_ (mq 49 786431) rfl rfl (any_of HT_.out (by kernel_rfl)) (fun _ _ _ h => h) (by rfl) ?_ ?_ ?_ ?_; rotate_left; · (intro w'; go_simp; with_reducible rfl)
                            rotate_left; · (simp only [Act.put, sT, sZ, sS, i64_w, i32_w]; rfl)
                            refine pV 20 148 ?_ (mq 49 0x1bffff) rfl rfl (any_of HT_.out (by kernel_rfl)) (fun _ _ _ h => h) (by rfl) ?_ ?_ ?_ ?_; rotate_left; · (intro w'; go_simp; with_reducible rfl)
                            rotate_left; · (simp only [Act.put, sT, sZ, sS, i64_w, i32_w]; rfl)
                            refine pV 21 149 ?_ (mq 49 0x3bffff) rfl rfl (any_of HT_.out (by kernel_rfl)) (fun _ _ _ h => h) (by rfl) ?_ ?_ ?_ ?_; rotate_left; · (intro w'; go_simp; with_reducible rfl)
                            rotate_left; · (simp only [Act.put, sT, sZ, sS, i64_w, i32_w]; rfl)
                            refine pV 22 150 ?_ (mq 49 0x7bffff) rfl rfl (any_of HT_.out (by kernel_rfl)) (fun _ _ _ h => h) (by rfl) ?_ ?_ ?_ ?_; rotate_left; · (intro w'; go_simp; with_reducible rfl)
                            rotate_left; · (simp only [Act.put, sT, sZ, sS, i64_w, i32_w]; rfl)
                            refine take_ (i := 18) (N := some 146) (v := ?_) (a' := ?_) (mq 49 0x7fffff) rfl rfl (take_ofW HT_.out HW_.out (by kernel_rfl)) (fun _ _ _ h => h) (Or.inl ⟨by rfl, ?_⟩) hHeld ?_ ?_; rotate_left
                            ·rintro w' ⟨s0, s1, s2, s3, s4, s5, s6, s7, s8, s9, s10, s11, s12, s13, s14, s15, s16, s17, s18, s19, s20, s21, s22, s23, s24, s25, s26, s27, s28, s29, s30, s31, s32, s33, s34, s35, s36, s37, s38, s39, s40, s41, s42, s43, s44, s45, s46, s47, s48, s49, s50, s51, s52, s53, s54, s55⟩
                             go_simp
                             with_reducible rfl
                            rotate_left; · (simp only [Act.put, sT, sZ, sS, i64_w, i32_w]; rfl)
                            refine take_ (i := 23) (N := some 151) (v := ?_) (a' := ?_) (mq 49 0xffffff) rfl rfl (take_ofW HT_.out HW_.out (by kernel_rfl)) (fun _ _ _ h => h) (Or.inl ⟨by rfl, ?_⟩) hHeld ?_ ?_; rotate_left
                            ·rintro w' ⟨s0, s1, s2, s3, s4, s5, s6, s7, s8, s9, s10, s11, s12, s13, s14, s15, s16, s17, s18, s19, s20, s21, s22, s23, s24, s25, s26, s27, s28, s29, s30, s31, s32, s33, s34, s35, s36, s37, s38, s39, s40, s41, s42, s43, s44, s45, s46, s47, s48, s49, s50, s51, s52, s53, s54, s55⟩
                             go_simp
                             with_reducible rfl
                            rotate_left; · (simp only [Act.put, sT, sZ, sS, i64_w, i32_w]; rfl)
                            refine pV 24 152 ?_ (mq 49 0x1ffffff) rfl rfl (any_of HT_.out (by kernel_rfl)) (fun _ _ _ h => h) (by rfl) ?_ ?_ ?_ ?_; rotate_left; · (intro w'; go_simp; with_reducible rfl)
                            rotate_left; · (simp only [Act.put, sT, sZ, sS, i64_w, i32_w]; rfl)
                            refine pV 25 153 ?_ (mq 49 0x3ffffff) rfl rfl (any_of HT_.out (by kernel_rfl)) (fun _ _ _ h => h) (by rfl) ?_ ?_ ?_ ?_; rotate_left; · (intro w'; go_simp; with_reducible rfl)
                            rotate_left; · (simp only [Act.put, sT, sZ, sS, i64_w, i32_w]; rfl)
                            refine pV 26 154 ?_ (mq 49 0x7ffffff) rfl rfl (any_of HT_.out (by kernel_rfl)) (fun _ _ _ h => h) (by rfl) ?_ ?_ ?_ ?_; rotate_left; · (intro w'; go_simp; with_reducible rfl)
                            rotate_left; · (simp only [Act.put, sT, sZ, sS, i64_w, i32_w]; rfl)
                            refine pV 27 155 ?_ (mq 49 0xfffffff) rfl rfl (any_of HT_.out (by kernel_rfl)) (fun _ _ _ h => h) (by rfl) ?_ ?_ ?_ ?_; rotate_left; · (intro w'; go_simp; with_reducible rfl)
                            rotate_left; · (simp only [Act.put, sT, sZ, sS, i64_w, i32_w]; rfl)
                            refine pV 28 156 ?_ (mq 49 0x1fffffff) rfl rfl (any_of HT_.out (by kernel_rfl)) (fun _ _ _ h => h) (by rfl) ?_ ?_ ?_ ?_; rotate_left; · (intro w'; go_simp; with_reducible rfl)
                            rotate_left; · (simp only [Act.put, sT, sZ, sS, i64_w, i32_w]; rfl)
                            refine pV 29 157 ?_ (mq 49 0x3fffffff) rfl rfl (any_of HT_.out (by kernel_rfl)) (fun _ _ _ h => h) (by rfl) ?_ ?_ ?_ ?_; rotate_left; · (intro w'; go_simp; with_reducible rfl)
                            rotate_left; · (simp only [Act.put, sT, sZ, sS, i64_w, i32_w]; rfl)
                            refine pV 30 158 ?_ (mq 49 0x7fffffff) rfl rfl (any_of HT_.out (by kernel_rfl)) (fun _ _ _ h => h) (by rfl) ?_ ?_ ?_ ?_; rotate_left; · (intro w'; go_simp; with_reducible rfl)
                            rotate_left; · (simp only [Act.put, sT, sZ, sS, i64_w, i32_w]; rfl)
                            refine pV 32 160 ?_ (mq 49 0x17fffffff) rfl rfl (any_of HT_.out (by kernel_rfl)) (fun _ _ _ h => h) (by rfl) ?_ ?_ ?_ ?_; rotate_left; · (intro w'; go_simp; with_reducible rfl)
                            rotate_left; · (simp only [Act.put, sT, sZ, sS, i64_w, i32_w]; rfl)
                            refine pV 33 161 ?_ (mq 49 0x37fffffff) rfl rfl (any_of HT_.out (by kernel_rfl)) (fun _ _ _ h => h) (by rfl) ?_ ?_ ?_ ?_; rotate_left; · (intro w'; go_simp; with_reducible rfl)
                            rotate_left; · (simp only [Act.put, sT, sZ, sS, i64_w, i32_w]; rfl)
                            refine pV 34 162 ?_ (mq 49 0x77fffffff) rfl rfl (any_of HT_.out (by kernel_rfl)) (fun _ _ _ h => h) (by rfl) ?_ ?_ ?_ ?_; rotate_left; · (intro w'; go_simp; with_reducible rfl)
                            rotate_left; · (simp only [Act.put, sT, sZ, sS, i64_w, i32_w]; rfl)
                            refine pV 35 163 ?_ (mq 49 0xf7fffffff) rfl rfl (any_of HT_.out (by kernel_rfl)) (fun _ _ _ h => h) (by rfl) ?_ ?_ ?_ ?_; rotate_left; · (intro w'; go_simp; with_reducible rfl)
                            rotate_left; · (simp only [Act.put, sT, sZ, sS, i64_w, i32_w]; rfl)
                            refine take_ (i := 31) (N := some 159) (v := ?_) (a' := ?_) (mq 49 0xfffffffff) rfl rfl (take_ofW HT_.out HW_.out (by kernel_rfl)) (fun _ _ _ h => h) (Or.inl ⟨by rfl, ?_⟩) hHeld ?_ ?_; rotate_left
                            ·rintro w' ⟨s0, s1, s2, s3, s4, s5, s6, s7, s8, s9, s10, s11, s12, s13, s14, s15, s16, s17, s18, s19, s20, s21, s22, s23, s24, s25, s26, s27, s28, s29, s30, s31, s32, s33, s34, s35, s36, s37, s38, s39, s40, s41, s42, s43, s44, s45, s46, s47, s48, s49, s50, s51, s52, s53, s54, s55⟩
                             go_simp
                             with_reducible rfl
                            rotate_left; · (simp only [Act.put, sT, sZ, sS, i64_w, i32_w]; rfl)
                            refine take_ (i := 36) (N := some 164) (v := ?_) (a' := ?_) (mq 49 0x1fffffffff) rfl rfl (take_ofW HT_.out HW_.out (by kernel_rfl)) (fun _ _ _ h => h) (Or.inl ⟨by rfl, ?_⟩) hHeld ?_ ?_; rotate_left
                            ·rintro w' ⟨s0, s1, s2, s3, s4, s5, s6, s7, s8, s9, s10, s11, s12, s13, s14, s15, s16, s17, s18, s19, s20, s21, s22, s23, s24, s25, s26, s27, s28, s29, s30, s31, s32, s33, s34, s35, s36, s37, s38, s39, s40, s41, s42, s43, s44, s45, s46, s47, s48, s49, s50, s51, s52, s53, s54, s55⟩
                             go_simp
                             with_reducible rfl
                            rotate_left; · (simp only [Act.put, sT, sZ, sS, i64_w, i32_w]; rfl)
                            refine one_ (i := 37) (N := some 165) (mq 49 0x3fffffffff) rfl rfl (one_of HT_.out (by kernel_rfl)) (by decide) (fun K hK => ?_)
                            refine goes_ Try.func24 (by kernel_rfl) rfl #[.agg #[.int .i64 ((rd_T37 t542 x25_1).f1.f0), .int .i64 ((rd_T37 t542 x25_1).f1.f1.f0), .int .i64 ((rd_T37 t542 x25_1).f1.f1.f1), .int .i64 ((rd_T37 t542 x25_1).f1.f2.f0), .int .i64 ((rd_T37 t542 x25_1).f1.f2.f1), .int .i64 ((rd_T37 t542 x25_1).f1.f3), .int .i64 ((rd_T37 t542 x25_1).f1.f4)], .agg #[.int .i64 ((rd_T44 l2 x26_2).f7.f0), .int .i64 ((rd_T44 l2 x26_2).f7.f1)]] (by rfl) rfl rfl (by (try simp only [List.map_toArray, List.map_cons, List.map_nil]); first | done | rfl | (simp; done)) ?_
                            (with_reducible refine (area_In.calls k4 _ _ _ _ _ _ _ _ _ _ _  Hc47.out).mono ?_)
                            rintro e_ w50 ⟨rfl, hb_⟩
                            refine ⟨_, rfl, ?_⟩
                            replace HS := Aside0.mk (HS.out.below hb_)
                            replace HK := Aside0.mk (HK.out.trans (Keep.below hb_))
                            refine hK.out _ _ ⟨(by obtain ⟨a_, e_, h0_, h1_, h2_, h3_, h4_, h5_, h6_, h7_, h8_, h9_, h10_, h11_, h12_, h13_, h14_, h15_⟩ := at_T37 (SL.row_c HS.out).2.2 x25_1 (of_eq_true pq576) (of_eq_true qq576); obtain rfl := Option.some.inj e_; exact h0_), (by obtain ⟨a_, e_, h0_, h1_, h2_, h3_, h4_, h5_, h6_, h7_, h8_, h9_, h10_, h11_, h12_, h13_, h14_, h15_⟩ := at_T37 (SL.row_c HS.out).2.2 x25_1 (of_eq_true pq576) (of_eq_true qq576); obtain rfl := Option.some.inj e_; exact h1_), (by obtain ⟨a_, e_, h0_, h1_, h2_, h3_, h4_, h5_, h6_, h7_, h8_, h9_, h10_, h11_, h12_, h13_, h14_, h15_⟩ := at_T37 (SL.row_c HS.out).2.2 x25_1 (of_eq_true pq576) (of_eq_true qq576); obtain rfl := Option.some.inj e_; exact h2_), (by obtain ⟨a_, e_, h0_, h1_, h2_, h3_, h4_, h5_, h6_, h7_, h8_, h9_, h10_, h11_, h12_, h13_, h14_, h15_⟩ := at_T37 (SL.row_c HS.out).2.2 x25_1 (of_eq_true pq576) (of_eq_true qq576); obtain rfl := Option.some.inj e_; exact h3_), (by obtain ⟨a_, e_, h0_, h1_, h2_, h3_, h4_, h5_, h6_, h7_, h8_, h9_, h10_, h11_, h12_, h13_, h14_, h15_⟩ := at_T37 (SL.row_c HS.out).2.2 x25_1 (of_eq_true pq576) (of_eq_true qq576); obtain rfl := Option.some.inj e_; exact h4_), (by obtain ⟨a_, e_, h0_, h1_, h2_, h3_, h4_, h5_, h6_, h7_, h8_, h9_, h10_, h11_, h12_, h13_, h14_, h15_⟩ := at_T37 (SL.row_c HS.out).2.2 x25_1 (of_eq_true pq576) (of_eq_true qq576); obtain rfl := Option.some.inj e_; exact h5_), (by obtain ⟨a_, e_, h0_, h1_, h2_, h3_, h4_, h5_, h6_, h7_, h8_, h9_, h10_, h11_, h12_, h13_, h14_, h15_⟩ := at_T37 (SL.row_c HS.out).2.2 x25_1 (of_eq_true pq576) (of_eq_true qq576); obtain rfl := Option.some.inj e_; exact h6_), (by obtain ⟨a_, e_, h0_, h1_, h2_, h3_, h4_, h5_, h6_, h7_, h8_, h9_, h10_, h11_, h12_, h13_, h14_, h15_⟩ := at_T37 (SL.row_c HS.out).2.2 x25_1 (of_eq_true pq576) (of_eq_true qq576); obtain rfl := Option.some.inj e_; exact h7_), (by obtain ⟨a_, e_, h0_, h1_, h2_, h3_, h4_, h5_, h6_, h7_, h8_, h9_, h10_, h11_, h12_, h13_, h14_, h15_⟩ := at_T37 (SL.row_c HS.out).2.2 x25_1 (of_eq_true pq576) (of_eq_true qq576); obtain rfl := Option.some.inj e_; exact h8_), (by obtain ⟨a_, e_, h0_, h1_, h2_, h3_, h4_, h5_, h6_, h7_, h8_, h9_, h10_, h11_, h12_, h13_, h14_, h15_⟩ := at_T37 (SL.row_c HS.out).2.2 x25_1 (of_eq_true pq576) (of_eq_true qq576); obtain rfl := Option.some.inj e_; exact h9_), (by obtain ⟨a_, e_, h0_, h1_, h2_, h3_, h4_, h5_, h6_, h7_, h8_, h9_, h10_, h11_, h12_, h13_, h14_, h15_⟩ := at_T37 (SL.row_c HS.out).2.2 x25_1 (of_eq_true pq576) (of_eq_true qq576); obtain rfl := Option.some.inj e_; exact h10_), (by obtain ⟨a_, e_, h0_, h1_, h2_, h3_, h4_, h5_, h6_, h7_, h8_, h9_, h10_, h11_, h12_, h13_, h14_, h15_⟩ := at_T37 (SL.row_c HS.out).2.2 x25_1 (of_eq_true pq576) (of_eq_true qq576); obtain rfl := Option.some.inj e_; exact h11_), (by obtain ⟨a_, e_, h0_, h1_, h2_, h3_, h4_, h5_, h6_, h7_, h8_, h9_, h10_, h11_, h12_, h13_, h14_, h15_⟩ := at_T37 (SL.row_c HS.out).2.2 x25_1 (of_eq_true pq576) (of_eq_true qq576); obtain rfl := Option.some.inj e_; exact h12_), (by obtain ⟨a_, e_, h0_, h1_, h2_, h3_, h4_, h5_, h6_, h7_, h8_, h9_, h10_, h11_, h12_, h13_, h14_, h15_⟩ := at_T37 (SL.row_c HS.out).2.2 x25_1 (of_eq_true pq576) (of_eq_true qq576); obtain rfl := Option.some.inj e_; exact h13_), (by obtain ⟨a_, e_, h0_, h1_, h2_, h3_, h4_, h5_, h6_, h7_, h8_, h9_, h10_, h11_, h12_, h13_, h14_, h15_⟩ := at_T37 (SL.row_c HS.out).2.2 x25_1 (of_eq_true pq576) (of_eq_true qq576); obtain rfl := Option.some.inj e_; exact h14_), (by obtain ⟨a_, e_, h0_, h1_, h2_, h3_, h4_, h5_, h6_, h7_, h8_, h9_, h10_, h11_, h12_, h13_, h14_, h15_⟩ := at_T37 (SL.row_c HS.out).2.2 x25_1 (of_eq_true pq576) (of_eq_true qq576); obtain rfl := Option.some.inj e_; exact h15_), (by obtain ⟨a_, e_, h0_, h1_⟩ := at_T56 (SL.row_c (SL.get2 HS.out)).2.2 x23_0 (of_eq_true pq577) (of_eq_true qq577); obtain rfl := Option.some.inj e_; exact h0_), (by obtain ⟨a_, e_, h0_, h1_⟩ := at_T56 (SL.row_c (SL.get2 HS.out)).2.2 x23_0 (of_eq_true pq577) (of_eq_true qq577); obtain rfl := Option.some.inj e_; exact h1_), (by obtain ⟨a_, e_, h0_, h1_, h2_, h3_, h4_, h5_, h6_, h7_, h8_, h9_⟩ := at_T44 (RO.at_ HR2.out HK.out) x26_2 (of_eq_true pq578) (of_eq_true qq578); obtain rfl := Option.some.inj e_; exact h0_), (by obtain ⟨a_, e_, h0_, h1_, h2_, h3_, h4_, h5_, h6_, h7_, h8_, h9_⟩ := at_T44 (RO.at_ HR2.out HK.out) x26_2 (of_eq_true pq578) (of_eq_true qq578); obtain rfl := Option.some.inj e_; exact h1_), (by obtain ⟨a_, e_, h0_, h1_, h2_, h3_, h4_, h5_, h6_, h7_, h8_, h9_⟩ := at_T44 (RO.at_ HR2.out HK.out) x26_2 (of_eq_true pq578) (of_eq_true qq578); obtain rfl := Option.some.inj e_; exact h2_), (by obtain ⟨a_, e_, h0_, h1_, h2_, h3_, h4_, h5_, h6_, h7_, h8_, h9_⟩ := at_T44 (RO.at_ HR2.out HK.out) x26_2 (of_eq_true pq578) (of_eq_true qq578); obtain rfl := Option.some.inj e_; exact h3_), (by obtain ⟨a_, e_, h0_, h1_, h2_, h3_, h4_, h5_, h6_, h7_, h8_, h9_⟩ := at_T44 (RO.at_ HR2.out HK.out) x26_2 (of_eq_true pq578) (of_eq_true qq578); obtain rfl := Option.some.inj e_; exact h4_), (by obtain ⟨a_, e_, h0_, h1_, h2_, h3_, h4_, h5_, h6_, h7_, h8_, h9_⟩ := at_T44 (RO.at_ HR2.out HK.out) x26_2 (of_eq_true pq578) (of_eq_true qq578); obtain rfl := Option.some.inj e_; exact h5_), (by obtain ⟨a_, e_, h0_, h1_, h2_, h3_, h4_, h5_, h6_, h7_, h8_, h9_⟩ := at_T44 (RO.at_ HR2.out HK.out) x26_2 (of_eq_true pq578) (of_eq_true qq578); obtain rfl := Option.some.inj e_; exact h6_), (by obtain ⟨a_, e_, h0_, h1_, h2_, h3_, h4_, h5_, h6_, h7_, h8_, h9_⟩ := at_T44 (RO.at_ HR2.out HK.out) x26_2 (of_eq_true pq578) (of_eq_true qq578); obtain rfl := Option.some.inj e_; exact h7_), (by obtain ⟨a_, e_, h0_, h1_, h2_, h3_, h4_, h5_, h6_, h7_, h8_, h9_⟩ := at_T44 (RO.at_ HR2.out HK.out) x26_2 (of_eq_true pq578) (of_eq_true qq578); obtain rfl := Option.some.inj e_; exact h8_), (by obtain ⟨a_, e_, h0_, h1_, h2_, h3_, h4_, h5_, h6_, h7_, h8_, h9_⟩ := at_T44 (RO.at_ HR2.out HK.out) x26_2 (of_eq_true pq578) (of_eq_true qq578); obtain rfl := Option.some.inj e_; exact h9_), (by obtain ⟨a_, e_, h0_, h1_⟩ := at_T56 (SL.row_c (SL.get2 HS.out)).2.2 x23_0 (of_eq_true pq579) (of_eq_true qq579); obtain rfl := Option.some.inj e_; exact h0_), (by obtain ⟨a_, e_, h0_, h1_⟩ := at_T56 (SL.row_c (SL.get2 HS.out)).2.2 x23_0 (of_eq_true pq579) (of_eq_true qq579); obtain rfl := Option.some.inj e_; exact h1_), (by obtain ⟨a_, e_, h0_, h1_, h2_, h3_, h4_, h5_, h6_, h7_, h8_, h9_, h10_, h11_, h12_, h13_, h14_, h15_⟩ := at_T37 (SL.row_c HS.out).2.2 x25_1 (of_eq_true pq580) (of_eq_true qq580); obtain rfl := Option.some.inj e_; exact h0_), (by obtain ⟨a_, e_, h0_, h1_, h2_, h3_, h4_, h5_, h6_, h7_, h8_, h9_, h10_, h11_, h12_, h13_, h14_, h15_⟩ := at_T37 (SL.row_c HS.out).2.2 x25_1 (of_eq_true pq580) (of_eq_true qq580); obtain rfl := Option.some.inj e_; exact h1_), (by obtain ⟨a_, e_, h0_, h1_, h2_, h3_, h4_, h5_, h6_, h7_, h8_, h9_, h10_, h11_, h12_, h13_, h14_, h15_⟩ := at_T37 (SL.row_c HS.out).2.2 x25_1 (of_eq_true pq580) (of_eq_true qq580); obtain rfl := Option.some.inj e_; exact h2_), (by obtain ⟨a_, e_, h0_, h1_, h2_, h3_, h4_, h5_, h6_, h7_, h8_, h9_, h10_, h11_, h12_, h13_, h14_, h15_⟩ := at_T37 (SL.row_c HS.out).2.2 x25_1 (of_eq_true pq580) (of_eq_true qq580); obtain rfl := Option.some.inj e_; exact h3_), (by obtain ⟨a_, e_, h0_, h1_, h2_, h3_, h4_, h5_, h6_, h7_, h8_, h9_, h10_, h11_, h12_, h13_, h14_, h15_⟩ := at_T37 (SL.row_c HS.out).2.2 x25_1 (of_eq_true pq580) (of_eq_true qq580); obtain rfl := Option.some.inj e_; exact h4_), (by obtain ⟨a_, e_, h0_, h1_, h2_, h3_, h4_, h5_, h6_, h7_, h8_, h9_, h10_, h11_, h12_, h13_, h14_, h15_⟩ := at_T37 (SL.row_c HS.out).2.2 x25_1 (of_eq_true pq580) (of_eq_true qq580); obtain rfl := Option.some.inj e_; exact h5_), (by obtain ⟨a_, e_, h0_, h1_, h2_, h3_, h4_, h5_, h6_, h7_, h8_, h9_, h10_, h11_, h12_, h13_, h14_, h15_⟩ := at_T37 (SL.row_c HS.out).2.2 x25_1 (of_eq_true pq580) (of_eq_true qq580); obtain rfl := Option.some.inj e_; exact h6_), (by obtain ⟨a_, e_, h0_, h1_, h2_, h3_, h4_, h5_, h6_, h7_, h8_, h9_, h10_, h11_, h12_, h13_, h14_, h15_⟩ := at_T37 (SL.row_c HS.out).2.2 x25_1 (of_eq_true pq580) (of_eq_true qq580); obtain rfl := Option.some.inj e_; exact h7_), (by obtain ⟨a_, e_, h0_, h1_, h2_, h3_, h4_, h5_, h6_, h7_, h8_, h9_, h10_, h11_, h12_, h13_, h14_, h15_⟩ := at_T37 (SL.row_c HS.out).2.2 x25_1 (of_eq_true pq580) (of_eq_true qq580); obtain rfl := Option.some.inj e_; exact h8_), (by obtain ⟨a_, e_, h0_, h1_, h2_, h3_, h4_, h5_, h6_, h7_, h8_, h9_, h10_, h11_, h12_, h13_, h14_, h15_⟩ := at_T37 (SL.row_c HS.out).2.2 x25_1 (of_eq_true pq580) (of_eq_true qq580); obtain rfl := Option.some.inj e_; exact h9_), (by obtain ⟨a_, e_, h0_, h1_, h2_, h3_, h4_, h5_, h6_, h7_, h8_, h9_, h10_, h11_, h12_, h13_, h14_, h15_⟩ := at_T37 (SL.row_c HS.out).2.2 x25_1 (of_eq_true pq580) (of_eq_true qq580); obtain rfl := Option.some.inj e_; exact h10_), (by obtain ⟨a_, e_, h0_, h1_, h2_, h3_, h4_, h5_, h6_, h7_, h8_, h9_, h10_, h11_, h12_, h13_, h14_, h15_⟩ := at_T37 (SL.row_c HS.out).2.2 x25_1 (of_eq_true pq580) (of_eq_true qq580); obtain rfl := Option.some.inj e_; exact h11_), (by obtain ⟨a_, e_, h0_, h1_, h2_, h3_, h4_, h5_, h6_, h7_, h8_, h9_, h10_, h11_, h12_, h13_, h14_, h15_⟩ := at_T37 (SL.row_c HS.out).2.2 x25_1 (of_eq_true pq580) (of_eq_true qq580); obtain rfl := Option.some.inj e_; exact h12_), (by obtain ⟨a_, e_, h0_, h1_, h2_, h3_, h4_, h5_, h6_, h7_, h8_, h9_, h10_, h11_, h12_, h13_, h14_, h15_⟩ := at_T37 (SL.row_c HS.out).2.2 x25_1 (of_eq_true pq580) (of_eq_true qq580); obtain rfl := Option.some.inj e_; exact h13_), (by obtain ⟨a_, e_, h0_, h1_, h2_, h3_, h4_, h5_, h6_, h7_, h8_, h9_, h10_, h11_, h12_, h13_, h14_, h15_⟩ := at_T37 (SL.row_c HS.out).2.2 x25_1 (of_eq_true pq580) (of_eq_true qq580); obtain rfl := Option.some.inj e_; exact h14_), (by obtain ⟨a_, e_, h0_, h1_, h2_, h3_, h4_, h5_, h6_, h7_, h8_, h9_, h10_, h11_, h12_, h13_, h14_, h15_⟩ := at_T37 (SL.row_c HS.out).2.2 x25_1 (of_eq_true pq580) (of_eq_true qq580); obtain rfl := Option.some.inj e_; exact h15_), (by obtain ⟨a_, e_, h0_, h1_, h2_, h3_, h4_, h5_, h6_, h7_, h8_, h9_⟩ := at_T44 (RO.at_ HR2.out HK.out) x26_2 (of_eq_true pq581) (of_eq_true qq581); obtain rfl := Option.some.inj e_; exact h0_), (by obtain ⟨a_, e_, h0_, h1_, h2_, h3_, h4_, h5_, h6_, h7_, h8_, h9_⟩ := at_T44 (RO.at_ HR2.out HK.out) x26_2 (of_eq_true pq581) (of_eq_true qq581); obtain rfl := Option.some.inj e_; exact h1_), (by obtain ⟨a_, e_, h0_, h1_, h2_, h3_, h4_, h5_, h6_, h7_, h8_, h9_⟩ := at_T44 (RO.at_ HR2.out HK.out) x26_2 (of_eq_true pq581) (of_eq_true qq581); obtain rfl := Option.some.inj e_; exact h2_), (by obtain ⟨a_, e_, h0_, h1_, h2_, h3_, h4_, h5_, h6_, h7_, h8_, h9_⟩ := at_T44 (RO.at_ HR2.out HK.out) x26_2 (of_eq_true pq581) (of_eq_true qq581); obtain rfl := Option.some.inj e_; exact h3_), (by obtain ⟨a_, e_, h0_, h1_, h2_, h3_, h4_, h5_, h6_, h7_, h8_, h9_⟩ := at_T44 (RO.at_ HR2.out HK.out) x26_2 (of_eq_true pq581) (of_eq_true qq581); obtain rfl := Option.some.inj e_; exact h4_), (by obtain ⟨a_, e_, h0_, h1_, h2_, h3_, h4_, h5_, h6_, h7_, h8_, h9_⟩ := at_T44 (RO.at_ HR2.out HK.out) x26_2 (of_eq_true pq581) (of_eq_true qq581); obtain rfl := Option.some.inj e_; exact h5_), (by obtain ⟨a_, e_, h0_, h1_, h2_, h3_, h4_, h5_, h6_, h7_, h8_, h9_⟩ := at_T44 (RO.at_ HR2.out HK.out) x26_2 (of_eq_true pq581) (of_eq_true qq581); obtain rfl := Option.some.inj e_; exact h6_), (by obtain ⟨a_, e_, h0_, h1_, h2_, h3_, h4_, h5_, h6_, h7_, h8_, h9_⟩ := at_T44 (RO.at_ HR2.out HK.out) x26_2 (of_eq_true pq581) (of_eq_true qq581); obtain rfl := Option.some.inj e_; exact h7_), (by obtain ⟨a_, e_, h0_, h1_, h2_, h3_, h4_, h5_, h6_, h7_, h8_, h9_⟩ := at_T44 (RO.at_ HR2.out HK.out) x26_2 (of_eq_true pq581) (of_eq_true qq581); obtain rfl := Option.some.inj e_; exact h8_), (by obtain ⟨a_, e_, h0_, h1_, h2_, h3_, h4_, h5_, h6_, h7_, h8_, h9_⟩ := at_T44 (RO.at_ HR2.out HK.out) x26_2 (of_eq_true pq581) (of_eq_true qq581); obtain rfl := Option.some.inj e_; exact h9_)⟩ (fun hHeld => ?_)
                            clear hK K
                            refine norm_ (a' := ?_) ?_ ?_; rotate_left
                            ·show Act.put _ (some 165) _ = _
                             simp only [Act.put, sT, sZ, sS, i64_w, i32_w]
                             rfl
                            refine pV 38 166 ?_ (mq 49 0x7fffffffff) rfl rfl (any_of HT_.out (by kernel_rfl)) (fun _ _ _ h => h) (by rfl) ?_ ?_ ?_ ?_; rotate_left; · (intro w'; go_simp; with_reducible rfl)
                            rotate_left; · (simp only [Act.put, sT, sZ, sS, i64_w, i32_w]; rfl)
                            refine pV 39 167 ?_ (mq 49 0xffffffffff) rfl rfl (any_of HT_.out (by kernel_rfl)) (fun _ _ _ h => h) (by rfl) ?_ ?_ ?_ ?_; rotate_left; · (intro w'; go_simp; with_reducible rfl)
                            rotate_left; · (simp only [Act.put, sT, sZ, sS, i64_w, i32_w]; rfl)
                            refine pO 40 168 (mq 49 0x1ffffffffff) rfl rfl (any_of HT_.out (by kernel_rfl)) (fun _ _ _ h => h) (by rfl) ?_ ?_ ?_; rotate_left; · (simp only [Act.put, sT, sZ, sS, i64_w, i32_w]; rfl)
                            refine pO 41 169 (mq 49 0x3ffffffffff) rfl rfl (any_of HT_.out (by kernel_rfl)) (fun _ _ _ h => h) (by rfl) ?_ ?_ ?_; rotate_left; · (simp only [Act.put, sT, sZ, sS, i64_w, i32_w]; rfl)
                            refine pO 42 170 (mq 49 0x7ffffffffff) rfl rfl (any_of HT_.out (by kernel_rfl)) (fun _ _ _ h => h) (by rfl) ?_ ?_ ?_; rotate_left; · (simp only [Act.put, sT, sZ, sS, i64_w, i32_w]; rfl)
                            refine pO 43 171 (mq 49 0xfffffffffff) rfl rfl (any_of HT_.out (by kernel_rfl)) (fun _ _ _ h => h) (by rfl) ?_ ?_ ?_; rotate_left; · (simp only [Act.put, sT, sZ, sS, i64_w, i32_w]; rfl)
                            refine pO 44 172 (mq 49 0x1fffffffffff) rfl rfl (any_of HT_.out (by kernel_rfl)) (fun _ _ _ h => h) (by rfl) ?_ ?_ ?_; rotate_left; · (simp only [Act.put, sT, sZ, sS, i64_w, i32_w]; rfl)
                            refine pO 45 173 (mq 49 0x3fffffffffff) rfl rfl (any_of HT_.out (by kernel_rfl)) (fun _ _ _ h => h) (by rfl) ?_ ?_ ?_; rotate_left; · (simp only [Act.put, sT, sZ, sS, i64_w, i32_w]; rfl)
                            refine pV 46 174 ?_ (mq 49 0x7fffffffffff) rfl rfl (any_of HT_.out (by kernel_rfl)) (fun _ _ _ h => h) (by rfl) ?_ ?_ ?_ ?_; rotate_left; · (intro w'; go_simp; with_reducible rfl)
                            rotate_left; · (simp only [Act.put, sT, sZ, sS, i64_w, i32_w]; rfl)
                            refine pV 47 175 ?_ (mq 49 0xffffffffffff) rfl rfl (any_of HT_.out (by kernel_rfl)) (fun _ _ _ h => h) (by rfl) ?_ ?_ ?_ ?_; rotate_left; · (intro w'; go_simp; with_reducible rfl)
                            rotate_left; · (simp only [Act.put, sT, sZ, sS, i64_w, i32_w]; rfl)
                            refine pV 48 24 ?_ (mq 49 0x1ffffffffffff) rfl rfl (any_of HT_.out (by kernel_rfl)) (fun _ _ _ h => h) (by rfl) ?_ ?_ ?_ ?_; rotate_left; · (intro w'; go_simp; with_reducible rfl)
                            rotate_left; · (simp only [Act.put, sT, sZ, sS, i64_w, i32_w]; rfl)
                            refine done_ (done_of HT_.out (by kernel_rfl)) ?_
                            try go_wp2
                            go_roundg k4
                            case measure => have := HQ1.out; have := HQ2.out; have := HQ3.out; have := HQ4.out; omega
                            case rel => exact ⟨(false), (wrap64 (x26_2 + 1)), (by first | rfl | (simp; done) | (simp [*]; done)), (by first | rfl | (simp; done) | (simp [*]; done)), H', ⟨by have := HQ1.out; have := HQ2.out; have := HQ3.out; have := HQ4.out; omega⟩, HS, HK⟩
                          ·rw [if_neg c46] at H
                           have c46b0 : (((rd_T44 l2 x26_2).f0) == ((rd_T56 t574 x23_0).f1)) = false := beq_eq_false_iff_ne.mpr c46
                           have c46b1 : (((rd_T44 l2 x26_2).f0) != ((rd_T56 t574 x23_0).f1)) = true := bne_iff_ne.mpr c46
                           have H' := Aside0.mk H
                           clear H
                           try go_wp2
                           have pq576 : 0 ≤ (x25_1 : Int) := of_decide_eq_true (by first | (with_reducible assumption) | assumption)
                           have qq576 : x25_1 < ((t542.length : Int) : Int) := of_decide_eq_true (by first | (with_reducible assumption) | assumption)
                           obtain ⟨adq576, eq576, hxq576_0, hxq576_1, hxq576_2, hxq576_3, hxq576_4, hxq576_5, hxq576_6, hxq576_7, hxq576_8, hxq576_9, hxq576_10, hxq576_11, hxq576_12, hxq576_13, hxq576_14, hxq576_15⟩ := at_T37 (SL.row_c HS.out).2.2 x25_1 pq576 qq576
                           cases eq576
                           replace pq576 := eq_true pq576
                           replace qq576 := eq_true qq576
                           have pq577 : 0 ≤ (x23_0 : Int) := of_decide_eq_true (by first | (with_reducible assumption) | assumption)
                           have qq577 : x23_0 < ((t574.length : Int) : Int) := of_decide_eq_true (by first | (with_reducible assumption) | assumption)
                           obtain ⟨adq577, eq577, hxq577_0, hxq577_1⟩ := at_T56 (SL.row_c (SL.get2 HS.out)).2.2 x23_0 pq577 qq577
                           cases eq577
                           replace pq577 := eq_true pq577
                           replace qq577 := eq_true qq577
                           have pq578 : 0 ≤ (x26_2 : Int) := of_decide_eq_true (by first | (with_reducible assumption) | assumption)
                           have qq578 : x26_2 < ((l2.length : Int) : Int) := of_decide_eq_true (by first | (with_reducible assumption) | assumption)
                           obtain ⟨adq578, eq578, hxq578_0, hxq578_1, hxq578_2, hxq578_3, hxq578_4, hxq578_5, hxq578_6, hxq578_7, hxq578_8, hxq578_9⟩ := at_T44 (RO.at_ HR2.out HK.out) x26_2 pq578 qq578
                           cases eq578
                           replace pq578 := eq_true pq578
                           replace qq578 := eq_true qq578
                           have pq579 : 0 ≤ (x23_0 : Int) := of_decide_eq_true (by first | (with_reducible assumption) | assumption)
                           have qq579 : x23_0 < ((t574.length : Int) : Int) := of_decide_eq_true (by first | (with_reducible assumption) | assumption)
                           obtain ⟨adq579, eq579, hxq579_0, hxq579_1⟩ := at_T56 (SL.row_c (SL.get2 HS.out)).2.2 x23_0 pq579 qq579
                           obtain rfl : adq577 = adq579 := (by injection eq579)
                           replace pq579 := eq_true pq579
                           replace qq579 := eq_true qq579
                           refine start_ (n := 49) (S := fun w' => w'.cell? (adq576.add (x25_1.toNat * 16)) = some (.int .i64 ((rd_T37 t542 x25_1).f0)) ∧ w'.cell? ⟨(adq576.add (x25_1.toNat * 16)).block, (adq576.add (x25_1.toNat * 16)).off + 1, none⟩ = some (.int .i64 ((rd_T37 t542 x25_1).f1.f0)) ∧ w'.cell? ⟨(adq576.add (x25_1.toNat * 16)).block, (adq576.add (x25_1.toNat * 16)).off + 2, none⟩ = some (.int .i64 ((rd_T37 t542 x25_1).f1.f1.f0)) ∧ w'.cell? ⟨(adq576.add (x25_1.toNat * 16)).block, (adq576.add (x25_1.toNat * 16)).off + 3, none⟩ = some (.int .i64 ((rd_T37 t542 x25_1).f1.f1.f1)) ∧ w'.cell? ⟨(adq576.add (x25_1.toNat * 16)).block, (adq576.add (x25_1.toNat * 16)).off + 4, none⟩ = some (.int .i64 ((rd_T37 t542 x25_1).f1.f2.f0)) ∧ w'.cell? ⟨(adq576.add (x25_1.toNat * 16)).block, (adq576.add (x25_1.toNat * 16)).off + 5, none⟩ = some (.int .i64 ((rd_T37 t542 x25_1).f1.f2.f1)) ∧ w'.cell? ⟨(adq576.add (x25_1.toNat * 16)).block, (adq576.add (x25_1.toNat * 16)).off + 6, none⟩ = some (.int .i64 ((rd_T37 t542 x25_1).f1.f3)) ∧ w'.cell? ⟨(adq576.add (x25_1.toNat * 16)).block, (adq576.add (x25_1.toNat * 16)).off + 7, none⟩ = some (.int .i64 ((rd_T37 t542 x25_1).f1.f4)) ∧ w'.cell? ⟨(adq576.add (x25_1.toNat * 16)).block, (adq576.add (x25_1.toNat * 16)).off + 8, none⟩ = some (.int .i64 ((rd_T37 t542 x25_1).f2)) ∧ w'.cell? ⟨(adq576.add (x25_1.toNat * 16)).block, (adq576.add (x25_1.toNat * 16)).off + 9, none⟩ = some (.int .i64 ((rd_T37 t542 x25_1).f3)) ∧ w'.cell? ⟨(adq576.add (x25_1.toNat * 16)).block, (adq576.add (x25_1.toNat * 16)).off + 10, none⟩ = some (.int .i64 ((rd_T37 t542 x25_1).f4)) ∧ w'.cell? ⟨(adq576.add (x25_1.toNat * 16)).block, (adq576.add (x25_1.toNat * 16)).off + 11, none⟩ = some (.int .i64 ((rd_T37 t542 x25_1).f5.f0)) ∧ w'.cell? ⟨(adq576.add (x25_1.toNat * 16)).block, (adq576.add (x25_1.toNat * 16)).off + 12, none⟩ = some (.int .i64 ((rd_T37 t542 x25_1).f5.f1)) ∧ w'.cell? ⟨(adq576.add (x25_1.toNat * 16)).block, (adq576.add (x25_1.toNat * 16)).off + 13, none⟩ = some (.int .i64 ((rd_T37 t542 x25_1).f5.f2)) ∧ w'.cell? ⟨(adq576.add (x25_1.toNat * 16)).block, (adq576.add (x25_1.toNat * 16)).off + 14, none⟩ = some (.int .i64 ((rd_T37 t542 x25_1).f6)) ∧ w'.cell? ⟨(adq576.add (x25_1.toNat * 16)).block, (adq576.add (x25_1.toNat * 16)).off + 15, none⟩ = some (.int .i64 ((rd_T37 t542 x25_1).f7)) ∧ w'.cell? (adq577.add (x23_0.toNat * 2)) = some (.int .i64 ((rd_T56 t574 x23_0).f0)) ∧ w'.cell? ⟨(adq577.add (x23_0.toNat * 2)).block, (adq577.add (x23_0.toNat * 2)).off + 1, none⟩ = some (.int .i64 ((rd_T56 t574 x23_0).f1)) ∧ w'.cell? (adq578.add (x26_2.toNat * 10)) = some (.int .i64 ((rd_T44 l2 x26_2).f0)) ∧ w'.cell? ⟨(adq578.add (x26_2.toNat * 10)).block, (adq578.add (x26_2.toNat * 10)).off + 1, none⟩ = some (.int .i64 ((rd_T44 l2 x26_2).f1)) ∧ w'.cell? ⟨(adq578.add (x26_2.toNat * 10)).block, (adq578.add (x26_2.toNat * 10)).off + 2, none⟩ = some (.int .i64 ((rd_T44 l2 x26_2).f2)) ∧ w'.cell? ⟨(adq578.add (x26_2.toNat * 10)).block, (adq578.add (x26_2.toNat * 10)).off + 3, none⟩ = some (.int .i64 ((rd_T44 l2 x26_2).f3)) ∧ w'.cell? ⟨(adq578.add (x26_2.toNat * 10)).block, (adq578.add (x26_2.toNat * 10)).off + 4, none⟩ = some (.int .i64 ((rd_T44 l2 x26_2).f4)) ∧ w'.cell? ⟨(adq578.add (x26_2.toNat * 10)).block, (adq578.add (x26_2.toNat * 10)).off + 5, none⟩ = some (.int .i64 ((rd_T44 l2 x26_2).f5)) ∧ w'.cell? ⟨(adq578.add (x26_2.toNat * 10)).block, (adq578.add (x26_2.toNat * 10)).off + 6, none⟩ = some (.int .i64 ((rd_T44 l2 x26_2).f6)) ∧ w'.cell? ⟨(adq578.add (x26_2.toNat * 10)).block, (adq578.add (x26_2.toNat * 10)).off + 7, none⟩ = some (.int .i64 ((rd_T44 l2 x26_2).f7.f0)) ∧ w'.cell? ⟨(adq578.add (x26_2.toNat * 10)).block, (adq578.add (x26_2.toNat * 10)).off + 8, none⟩ = some (.int .i64 ((rd_T44 l2 x26_2).f7.f1)) ∧ w'.cell? ⟨(adq578.add (x26_2.toNat * 10)).block, (adq578.add (x26_2.toNat * 10)).off + 9, none⟩ = some (.int .i64 ((rd_T44 l2 x26_2).f8)) ∧ w'.cell? (adq577.add (x23_0.toNat * 2)) = some (.int .i64 ((rd_T56 t574 x23_0).f0)) ∧ w'.cell? ⟨(adq577.add (x23_0.toNat * 2)).block, (adq577.add (x23_0.toNat * 2)).off + 1, none⟩ = some (.int .i64 ((rd_T56 t574 x23_0).f1))) (ds := []) #[O,O,O,O,O,O,O,O,O,O,O,O,O,O,O,O,O,O,O,O,O,O,O,O,O,O,O,O,O,O,O,O,O,O,O,O,O,O,O,O,O,O,O,O,O,O,O,O,O] (by kernel_rfl) rfl rfl ⟨(by obtain ⟨a_, e_, h0_, h1_, h2_, h3_, h4_, h5_, h6_, h7_, h8_, h9_, h10_, h11_, h12_, h13_, h14_, h15_⟩ := at_T37 (SL.row_c HS.out).2.2 x25_1 (of_eq_true pq576) (of_eq_true qq576); obtain rfl := Option.some.inj e_; exact h0_), (by obtain ⟨a_, e_, h0_, h1_, h2_, h3_, h4_, h5_, h6_, h7_, h8_, h9_, h10_, h11_, h12_, h13_, h14_, h15_⟩ := at_T37 (SL.row_c HS.out).2.2 x25_1 (of_eq_true pq576) (of_eq_true qq576); obtain rfl := Option.some.inj e_; exact h1_), (by obtain ⟨a_, e_, h0_, h1_, h2_, h3_, h4_, h5_, h6_, h7_, h8_, h9_, h10_, h11_, h12_, h13_, h14_, h15_⟩ := at_T37 (SL.row_c HS.out).2.2 x25_1 (of_eq_true pq576) (of_eq_true qq576); obtain rfl := Option.some.inj e_; exact h2_), (by obtain ⟨a_, e_, h0_, h1_, h2_, h3_, h4_, h5_, h6_, h7_, h8_, h9_, h10_, h11_, h12_, h13_, h14_, h15_⟩ := at_T37 (SL.row_c HS.out).2.2 x25_1 (of_eq_true pq576) (of_eq_true qq576); obtain rfl := Option.some.inj e_; exact h3_), (by obtain ⟨a_, e_, h0_, h1_, h2_, h3_, h4_, h5_, h6_, h7_, h8_, h9_, h10_, h11_, h12_, h13_, h14_, h15_⟩ := at_T37 (SL.row_c HS.out).2.2 x25_1 (of_eq_true pq576) (of_eq_true qq576); obtain rfl := Option.some.inj e_; exact h4_), (by obtain ⟨a_, e_, h0_, h1_, h2_, h3_, h4_, h5_, h6_, h7_, h8_, h9_, h10_, h11_, h12_, h13_, h14_, h15_⟩ := at_T37 (SL.row_c HS.out).2.2 x25_1 (of_eq_true pq576) (of_eq_true qq576); obtain rfl := Option.some.inj e_; exact h5_), (by obtain ⟨a_, e_, h0_, h1_, h2_, h3_, h4_, h5_, h6_, h7_, h8_, h9_, h10_, h11_, h12_, h13_, h14_, h15_⟩ := at_T37 (SL.row_c HS.out).2.2 x25_1 (of_eq_true pq576) (of_eq_true qq576); obtain rfl := Option.some.inj e_; exact h6_), (by obtain ⟨a_, e_, h0_, h1_, h2_, h3_, h4_, h5_, h6_, h7_, h8_, h9_, h10_, h11_, h12_, h13_, h14_, h15_⟩ := at_T37 (SL.row_c HS.out).2.2 x25_1 (of_eq_true pq576) (of_eq_true qq576); obtain rfl := Option.some.inj e_; exact h7_), (by obtain ⟨a_, e_, h0_, h1_, h2_, h3_, h4_, h5_, h6_, h7_, h8_, h9_, h10_, h11_, h12_, h13_, h14_, h15_⟩ := at_T37 (SL.row_c HS.out).2.2 x25_1 (of_eq_true pq576) (of_eq_true qq576); obtain rfl := Option.some.inj e_; exact h8_), (by obtain ⟨a_, e_, h0_, h1_, h2_, h3_, h4_, h5_, h6_, h7_, h8_, h9_, h10_, h11_, h12_, h13_, h14_, h15_⟩ := at_T37 (SL.row_c HS.out).2.2 x25_1 (of_eq_true pq576) (of_eq_true qq576); obtain rfl := Option.some.inj e_; exact h9_), (by obtain ⟨a_, e_, h0_, h1_, h2_, h3_, h4_, h5_, h6_, h7_, h8_, h9_, h10_, h11_, h12_, h13_, h14_, h15_⟩ := at_T37 (SL.row_c HS.out).2.2 x25_1 (of_eq_true pq576) (of_eq_true qq576); obtain rfl := Option.some.inj e_; exact h10_), (by obtain ⟨a_, e_, h0_, h1_, h2_, h3_, h4_, h5_, h6_, h7_, h8_, h9_, h10_, h11_, h12_, h13_, h14_, h15_⟩ := at_T37 (SL.row_c HS.out).2.2 x25_1 (of_eq_true pq576) (of_eq_true qq576); obtain rfl := Option.some.inj e_; exact h11_), (by obtain ⟨a_, e_, h0_, h1_, h2_, h3_, h4_, h5_, h6_, h7_, h8_, h9_, h10_, h11_, h12_, h13_, h14_, h15_⟩ := at_T37 (SL.row_c HS.out).2.2 x25_1 (of_eq_true pq576) (of_eq_true qq576); obtain rfl := Option.some.inj e_; exact h12_), (by obtain ⟨a_, e_, h0_, h1_, h2_, h3_, h4_, h5_, h6_, h7_, h8_, h9_, h10_, h11_, h12_, h13_, h14_, h15_⟩ := at_T37 (SL.row_c HS.out).2.2 x25_1 (of_eq_true pq576) (of_eq_true qq576); obtain rfl := Option.some.inj e_; exact h13_), (by obtain ⟨a_, e_, h0_, h1_, h2_, h3_, h4_, h5_, h6_, h7_, h8_, h9_, h10_, h11_, h12_, h13_, h14_, h15_⟩ := at_T37 (SL.row_c HS.out).2.2 x25_1 (of_eq_true pq576) (of_eq_true qq576); obtain rfl := Option.some.inj e_; exact h14_), (by obtain ⟨a_, e_, h0_, h1_, h2_, h3_, h4_, h5_, h6_, h7_, h8_, h9_, h10_, h11_, h12_, h13_, h14_, h15_⟩ := at_T37 (SL.row_c HS.out).2.2 x25_1 (of_eq_true pq576) (of_eq_true qq576); obtain rfl := Option.some.inj e_; exact h15_), (by obtain ⟨a_, e_, h0_, h1_⟩ := at_T56 (SL.row_c (SL.get2 HS.out)).2.2 x23_0 (of_eq_true pq577) (of_eq_true qq577); obtain rfl := Option.some.inj e_; exact h0_), (by obtain ⟨a_, e_, h0_, h1_⟩ := at_T56 (SL.row_c (SL.get2 HS.out)).2.2 x23_0 (of_eq_true pq577) (of_eq_true qq577); obtain rfl := Option.some.inj e_; exact h1_), (by obtain ⟨a_, e_, h0_, h1_, h2_, h3_, h4_, h5_, h6_, h7_, h8_, h9_⟩ := at_T44 (RO.at_ HR2.out HK.out) x26_2 (of_eq_true pq578) (of_eq_true qq578); obtain rfl := Option.some.inj e_; exact h0_), (by obtain ⟨a_, e_, h0_, h1_, h2_, h3_, h4_, h5_, h6_, h7_, h8_, h9_⟩ := at_T44 (RO.at_ HR2.out HK.out) x26_2 (of_eq_true pq578) (of_eq_true qq578); obtain rfl := Option.some.inj e_; exact h1_), (by obtain ⟨a_, e_, h0_, h1_, h2_, h3_, h4_, h5_, h6_, h7_, h8_, h9_⟩ := at_T44 (RO.at_ HR2.out HK.out) x26_2 (of_eq_true pq578) (of_eq_true qq578); obtain rfl := Option.some.inj e_; exact h2_), (by obtain ⟨a_, e_, h0_, h1_, h2_, h3_, h4_, h5_, h6_, h7_, h8_, h9_⟩ := at_T44 (RO.at_ HR2.out HK.out) x26_2 (of_eq_true pq578) (of_eq_true qq578); obtain rfl := Option.some.inj e_; exact h3_), (by obtain ⟨a_, e_, h0_, h1_, h2_, h3_, h4_, h5_, h6_, h7_, h8_, h9_⟩ := at_T44 (RO.at_ HR2.out HK.out) x26_2 (of_eq_true pq578) (of_eq_true qq578); obtain rfl := Option.some.inj e_; exact h4_), (by obtain ⟨a_, e_, h0_, h1_, h2_, h3_, h4_, h5_, h6_, h7_, h8_, h9_⟩ := at_T44 (RO.at_ HR2.out HK.out) x26_2 (of_eq_true pq578) (of_eq_true qq578); obtain rfl := Option.some.inj e_; exact h5_), (by obtain ⟨a_, e_, h0_, h1_, h2_, h3_, h4_, h5_, h6_, h7_, h8_, h9_⟩ := at_T44 (RO.at_ HR2.out HK.out) x26_2 (of_eq_true pq578) (of_eq_true qq578); obtain rfl := Option.some.inj e_; exact h6_), (by obtain ⟨a_, e_, h0_, h1_, h2_, h3_, h4_, h5_, h6_, h7_, h8_, h9_⟩ := at_T44 (RO.at_ HR2.out HK.out) x26_2 (of_eq_true pq578) (of_eq_true qq578); obtain rfl := Option.some.inj e_; exact h7_), (by obtain ⟨a_, e_, h0_, h1_, h2_, h3_, h4_, h5_, h6_, h7_, h8_, h9_⟩ := at_T44 (RO.at_ HR2.out HK.out) x26_2 (of_eq_true pq578) (of_eq_true qq578); obtain rfl := Option.some.inj e_; exact h8_), (by obtain ⟨a_, e_, h0_, h1_, h2_, h3_, h4_, h5_, h6_, h7_, h8_, h9_⟩ := at_T44 (RO.at_ HR2.out HK.out) x26_2 (of_eq_true pq578) (of_eq_true qq578); obtain rfl := Option.some.inj e_; exact h9_), (by obtain ⟨a_, e_, h0_, h1_⟩ := at_T56 (SL.row_c (SL.get2 HS.out)).2.2 x23_0 (of_eq_true pq579) (of_eq_true qq579); obtain rfl := Option.some.inj e_; exact h0_), (by obtain ⟨a_, e_, h0_, h1_⟩ := at_T56 (SL.row_c (SL.get2 HS.out)).2.2 x23_0 (of_eq_true pq579) (of_eq_true qq579); obtain rfl := Option.some.inj e_; exact h1_)⟩ (fun hHeld => ?_); refine with_tabW barrowlaw33_ZoneStays.tab26 barrowlaw33_ZoneStays.bits26 (fun HT_ HW_ => ?_)
                           replace HK := Aside0.mk (Keep.drew HK.out)
                           replace HS := Aside0.mk (SL.drew HS.out)
                           refine pV 0 128 ?_ (mq 49 1) rfl rfl (any_of HT_.out (by kernel_rfl)) (fun _ _ _ h => h) (by rfl) ?_ ?_ ?_ ?_; rotate_left; · (intro w'; go_simp; with_reducible rfl)
                           rotate_left; · (simp only [Act.put, sT, sZ, sS, i64_w, i32_w]; rfl)
                           refine pV 1 129 ?_ (mq 49 3) rfl rfl (any_of HT_.out (by kernel_rfl)) (fun _ _ _ h => h) (by rfl) ?_ ?_ ?_ ?_; rotate_left; · (intro w'; go_simp; with_reducible rfl)
                           rotate_left; · (simp only [Act.put, sT, sZ, sS, i64_w, i32_w]; rfl)
                           refine pV 2 130 ?_ (mq 49 7) rfl rfl (any_of HT_.out (by kernel_rfl)) (fun _ _ _ h => h) (by rfl) ?_ ?_ ?_ ?_; rotate_left; · (intro w'; go_simp; with_reducible rfl)
                           rotate_left; · (simp only [Act.put, sT, sZ, sS, i64_w, i32_w]; rfl)
                           refine pV 3 131 ?_ (mq 49 15) rfl rfl (any_of HT_.out (by kernel_rfl)) (fun _ _ _ h => h) (by rfl) ?_ ?_ ?_ ?_; rotate_left; · (intro w'; go_simp; with_reducible rfl)
                           rotate_left; · (simp only [Act.put, sT, sZ, sS, i64_w, i32_w]; rfl)
                           refine pV 4 132 ?_ (mq 49 31) rfl rfl (any_of HT_.out (by kernel_rfl)) (fun _ _ _ h => h) (by rfl) ?_ ?_ ?_ ?_; rotate_left; · (intro w'; go_simp; with_reducible rfl)
                           rotate_left; · (simp only [Act.put, sT, sZ, sS, i64_w, i32_w]; rfl)
                           refine pV 5 133 ?_ (mq 49 63) rfl rfl (any_of HT_.out (by kernel_rfl)) (fun _ _ _ h => h) (by rfl) ?_ ?_ ?_ ?_; rotate_left; · (intro w'; go_simp; with_reducible rfl)
                           rotate_left; · (simp only [Act.put, sT, sZ, sS, i64_w, i32_w]; rfl)
                           refine pV 7 135 ?_ (mq 49 191) rfl rfl (any_of HT_.out (by kernel_rfl)) (fun _ _ _ h => h) (by rfl) ?_ ?_ ?_ ?_; rotate_left; · (intro w'; go_simp; with_reducible rfl)
                           rotate_left; · (simp only [Act.put, sT, sZ, sS, i64_w, i32_w]; rfl)
                           refine pV 8 136 ?_ (mq 49 447) rfl rfl (any_of HT_.out (by kernel_rfl)) (fun _ _ _ h => h) (by rfl) ?_ ?_ ?_ ?_; rotate_left; · (intro w'; go_simp; with_reducible rfl)
                           rotate_left; · (simp only [Act.put, sT, sZ, sS, i64_w, i32_w]; rfl)
                           refine pV 9 137 ?_ (mq 49 959) rfl rfl (any_of HT_.out (by kernel_rfl)) (fun _ _ _ h => h) (by rfl) ?_ ?_ ?_ ?_; rotate_left; · (intro w'; go_simp; with_reducible rfl)
                           rotate_left; · (simp only [Act.put, sT, sZ, sS, i64_w, i32_w]; rfl)
                           refine pV 10 138 ?_ (mq 49 1983) rfl rfl (any_of HT_.out (by kernel_rfl)) (fun _ _ _ h => h) (by rfl) ?_ ?_ ?_ ?_; rotate_left; · (intro w'; go_simp; with_reducible rfl)
                           rotate_left; · (simp only [Act.put, sT, sZ, sS, i64_w, i32_w]; rfl)
                           refine take_ (i := 6) (N := some 134) (v := ?_) (a' := ?_) (mq 49 2047) rfl rfl (take_ofW HT_.out HW_.out (by kernel_rfl)) (fun _ _ _ h => h) (Or.inl ⟨by rfl, ?_⟩) hHeld ?_ ?_; rotate_left
                           ·rintro w' ⟨s0, s1, s2, s3, s4, s5, s6, s7, s8, s9, s10, s11, s12, s13, s14, s15, s16, s17, s18, s19, s20, s21, s22, s23, s24, s25, s26, s27, s28, s29⟩
                            go_simp
                            with_reducible rfl
                           rotate_left; · (simp only [Act.put, sT, sZ, sS, i64_w, i32_w]; rfl)
                           refine take_ (i := 11) (N := some 139) (v := ?_) (a' := ?_) (mq 49 4095) rfl rfl (take_ofW HT_.out HW_.out (by kernel_rfl)) (fun _ _ _ h => h) (Or.inl ⟨by rfl, ?_⟩) hHeld ?_ ?_; rotate_left
                           ·rintro w' ⟨s0, s1, s2, s3, s4, s5, s6, s7, s8, s9, s10, s11, s12, s13, s14, s15, s16, s17, s18, s19, s20, s21, s22, s23, s24, s25, s26, s27, s28, s29⟩
                            go_simp
                            with_reducible rfl
                           rotate_left; · (simp only [Act.put, sT, sZ, sS, i64_w, i32_w]; rfl)
                           refine pV 12 140 ?_ (mq 49 8191) rfl rfl (any_of HT_.out (by kernel_rfl)) (fun _ _ _ h => h) (by rfl) ?_ ?_ ?_ ?_; rotate_left; · (intro w'; go_simp; with_reducible rfl)
                           rotate_left; · (simp only [Act.put, sT, sZ, sS, i64_w, i32_w]; rfl)
                           refine pV 13 141 ?_ (mq 49 16383) rfl rfl (any_of HT_.out (by kernel_rfl)) (fun _ _ _ h => h) (by rfl) ?_ ?_ ?_ ?_; rotate_left; · (intro w'; go_simp; with_reducible rfl)
                           rotate_left; · (simp only [Act.put, sT, sZ, sS, i64_w, i32_w]; rfl)
                           refine pV 14 142 ?_ (mq 49 32767) rfl rfl (any_of HT_.out (by kernel_rfl)) (fun _ _ _ h => h) (by rfl) ?_ ?_ ?_ ?_; rotate_left; · (intro w'; go_simp; with_reducible rfl)
                           rotate_left; · (simp only [Act.put, sT, sZ, sS, i64_w, i32_w]; rfl)
                           refine pV 15 143 ?_ (mq 49 65535) rfl rfl (any_of HT_.out (by kernel_rfl)) (fun _ _ _ h => h) (by rfl) ?_ ?_ ?_ ?_; rotate_left; · (intro w'; go_simp; with_reducible rfl)
                           rotate_left; · (simp only [Act.put, sT, sZ, sS, i64_w, i32_w]; rfl)
                           refine pV 16 144 ?_ (mq 49 131071) rfl rfl (any_of HT_.out (by kernel_rfl)) (fun _ _ _ h => h) (by rfl) ?_ ?_ ?_ ?_; rotate_left; · (intro w'; go_simp; with_reducible rfl)
                           rotate_left; · (simp only [Act.put, sT, sZ, sS, i64_w, i32_w]; rfl)
                           refine pV 17 145 ?_ (mq 49 262143) rfl rfl (any_of HT_.out (by kernel_rfl)) (fun _ _ _ h => h) (by rfl) ?_ ?_ ?_ ?_; rotate_left; · (intro w'; go_simp; with_reducible rfl)
                           rotate_left; · (simp only [Act.put, sT, sZ, sS, i64_w, i32_w]; rfl)
                           refine pV 19 147 ?_ (mq 49 786431) rfl rfl (any_of HT_.out (by kernel_rfl)) (fun _ _ _ h => h) (by rfl) ?_ ?_ ?_ ?_; rotate_left; · (intro w'; go_simp; with_reducible rfl)
                           rotate_left; · (simp only [Act.put, sT, sZ, sS, i64_w, i32_w]; rfl)
                           refine pV 20 148 ?_ (mq 49 0x1bffff) rfl rfl (any_of HT_.out (by kernel_rfl)) (fun _ _ _ h => h) (by rfl) ?_ ?_ ?_ ?_; rotate_left; · (intro w'; go_simp; with_reducible rfl)
                           rotate_left; · (simp only [Act.put, sT, sZ, sS, i64_w, i32_w]; rfl)
                           refine pV 21 149 ?_ (mq 49 0x3bffff) rfl rfl (any_of HT_.out (by kernel_rfl)) (fun _ _ _ h => h) (by rfl) ?_ ?_ ?_ ?_; rotate_left; · (intro w'; go_simp; with_reducible rfl)
                           rotate_left; · (simp only [Act.put, sT, sZ, sS, i64_w, i32_w]; rfl)
                           refine pV 22 150 ?_ (mq 49 0x7bffff) rfl rfl (any_of HT_.out (by kernel_rfl)) (fun _ _ _ h => h) (by rfl) ?_ ?_ ?_ ?_; rotate_left; · (intro w'; go_simp; with_reducible rfl)
                           rotate_left; · (simp only [Act.put, sT, sZ, sS, i64_w, i32_w]; rfl)
                           refine take_ (i := 18) (N := some 146) (v := ?_) (a' := ?_) (mq 49 0x7fffff) rfl rfl (take_ofW HT_.out HW_.out (by kernel_rfl)) (fun _ _ _ h => h) (Or.inl ⟨by rfl, ?_⟩) hHeld ?_ ?_; rotate_left
                           ·rintro w' ⟨s0, s1, s2, s3, s4, s5, s6, s7, s8, s9, s10, s11, s12, s13, s14, s15, s16, s17, s18, s19, s20, s21, s22, s23, s24, s25, s26, s27, s28, s29⟩
                            go_simp
                            with_reducible rfl
                           rotate_left; · (simp only [Act.put, sT, sZ, sS, i64_w, i32_w]; rfl)
                           refine take_ (i := 23) (N := some 151) (v := ?_) (a' := ?_) (mq 49 0xffffff) rfl rfl (take_ofW HT_.out HW_.out (by kernel_rfl)) (fun _ _ _ h => h) (Or.inl ⟨by rfl, ?_⟩) hHeld ?_ ?_; rotate_left
                           ·rintro w' ⟨s0, s1, s2, s3, s4, s5, s6, s7, s8, s9, s10, s11, s12, s13, s14, s15, s16, s17, s18, s19, s20, s21, s22, s23, s24, s25, s26, s27, s28, s29⟩
                            go_simp
                            with_reducible rfl
                           rotate_left; · (simp only [Act.put, sT, sZ, sS, i64_w, i32_w]; rfl)
                           refine pV 24 152 ?_ (mq 49 0x1ffffff) rfl rfl (any_of HT_.out (by kernel_rfl)) (fun _ _ _ h => h) (by rfl) ?_ ?_ ?_ ?_; rotate_left; · (intro w'; go_simp; with_reducible rfl)
                           rotate_left; · (simp only [Act.put, sT, sZ, sS, i64_w, i32_w]; rfl)
                           refine pV 25 153 ?_ (mq 49 0x3ffffff) rfl rfl (any_of HT_.out (by kernel_rfl)) (fun _ _ _ h => h) (by rfl) ?_ ?_ ?_ ?_; rotate_left; · (intro w'; go_simp; with_reducible rfl)
                           rotate_left; · (simp only [Act.put, sT, sZ, sS, i64_w, i32_w]; rfl)
                           refine pV 26 154 ?_ (mq 49 0x7ffffff) rfl rfl (any_of HT_.out (by kernel_rfl)) (fun _ _ _ h => h) (by rfl) ?_ ?_ ?_ ?_; rotate_left; · (intro w'; go_simp; with_reducible rfl)
                           rotate_left; · (simp only [Act.put, sT, sZ, sS, i64_w, i32_w]; rfl)
                           refine pO 27 155 (mq 49 0xfffffff) rfl rfl (any_of HT_.out (by kernel_rfl)) (fun _ _ _ h => h) (by rfl) ?_ ?_ ?_; rotate_left; · (simp only [Act.put, sT, sZ, sS, i64_w, i32_w]; rfl)
                           refine pO 28 156 (mq 49 0x1fffffff) rfl rfl (any_of HT_.out (by kernel_rfl)) (fun _ _ _ h => h) (by rfl) ?_ ?_ ?_; rotate_left; · (simp only [Act.put, sT, sZ, sS, i64_w, i32_w]; rfl)
                           refine pO 29 157 (mq 49 0x3fffffff) rfl rfl (any_of HT_.out (by kernel_rfl)) (fun _ _ _ h => h) (by rfl) ?_ ?_ ?_; rotate_left; · (simp only [Act.put, sT, sZ, sS, i64_w, i32_w]; rfl)
                           refine pO 30 158 (mq 49 0x7fffffff) rfl rfl (any_of HT_.out (by kernel_rfl)) (fun _ _ _ h => h) (by rfl) ?_ ?_ ?_; rotate_left; · (simp only [Act.put, sT, sZ, sS, i64_w, i32_w]; rfl)
                           refine pO 31 159 (mq 49 0xffffffff) rfl rfl (any_of HT_.out (by kernel_rfl)) (fun _ _ _ h => h) (by rfl) ?_ ?_ ?_; rotate_left; · (simp only [Act.put, sT, sZ, sS, i64_w, i32_w]; rfl)
                           refine pO 32 160 (mq 49 0x1ffffffff) rfl rfl (any_of HT_.out (by kernel_rfl)) (fun _ _ _ h => h) (by rfl) ?_ ?_ ?_; rotate_left; · (simp only [Act.put, sT, sZ, sS, i64_w, i32_w]; rfl)
                           refine pO 33 161 (mq 49 0x3ffffffff) rfl rfl (any_of HT_.out (by kernel_rfl)) (fun _ _ _ h => h) (by rfl) ?_ ?_ ?_; rotate_left; · (simp only [Act.put, sT, sZ, sS, i64_w, i32_w]; rfl)
                           refine pO 34 162 (mq 49 0x7ffffffff) rfl rfl (any_of HT_.out (by kernel_rfl)) (fun _ _ _ h => h) (by rfl) ?_ ?_ ?_; rotate_left; · (simp only [Act.put, sT, sZ, sS, i64_w, i32_w]; rfl)
                           refine pO 35 163 (mq 49 0xfffffffff) rfl rfl (any_of HT_.out (by kernel_rfl)) (fun _ _ _ h => h) (by rfl) ?_ ?_ ?_; rotate_left; · (simp only [Act.put, sT, sZ, sS, i64_w, i32_w]; rfl)
                           refine pO 36 164 (mq 49 0x1fffffffff) rfl rfl (any_of HT_.out (by kernel_rfl)) (fun _ _ _ h => h) (by rfl) ?_ ?_ ?_; rotate_left; · (simp only [Act.put, sT, sZ, sS, i64_w, i32_w]; rfl)
                           refine pO 37 165 (mq 49 0x3fffffffff) rfl rfl (any_of HT_.out (by kernel_rfl)) (fun _ _ _ h => h) (by rfl) ?_ ?_ ?_; rotate_left; · (simp only [Act.put, sT, sZ, sS, i64_w, i32_w]; rfl)
                           refine pV 38 166 ?_ (mq 49 0x7fffffffff) rfl rfl (any_of HT_.out (by kernel_rfl)) (fun _ _ _ h => h) (by rfl) ?_ ?_ ?_ ?_; rotate_left; · (intro w'; go_simp; with_reducible rfl)
                           rotate_left; · (simp only [Act.put, sT, sZ, sS, i64_w, i32_w]; rfl)
                           refine pV 39 167 ?_ (mq 49 0xffffffffff) rfl rfl (any_of HT_.out (by kernel_rfl)) (fun _ _ _ h => h) (by rfl) ?_ ?_ ?_ ?_; rotate_left; · (intro w'; go_simp; with_reducible rfl)
                           rotate_left; · (simp only [Act.put, sT, sZ, sS, i64_w, i32_w]; rfl)
                           refine pO 40 168 (mq 49 0x1ffffffffff) rfl rfl (any_of HT_.out (by kernel_rfl)) (fun _ _ _ h => h) (by rfl) ?_ ?_ ?_; rotate_left; · (simp only [Act.put, sT, sZ, sS, i64_w, i32_w]; rfl)
                           refine pO 41 169 (mq 49 0x3ffffffffff) rfl rfl (any_of HT_.out (by kernel_rfl)) (fun _ _ _ h => h) (by rfl) ?_ ?_ ?_; rotate_left; · (simp only [Act.put, sT, sZ, sS, i64_w, i32_w]; rfl)
                           refine pO 42 170 (mq 49 0x7ffffffffff) rfl rfl (any_of HT_.out (by kernel_rfl)) (fun _ _ _ h => h) (by rfl) ?_ ?_ ?_; rotate_left; · (simp only [Act.put, sT, sZ, sS, i64_w, i32_w]; rfl)
                           refine pO 43 171 (mq 49 0xfffffffffff) rfl rfl (any_of HT_.out (by kernel_rfl)) (fun _ _ _ h => h) (by rfl) ?_ ?_ ?_; rotate_left; · (simp only [Act.put, sT, sZ, sS, i64_w, i32_w]; rfl)
                           refine pO 44 172 (mq 49 0x1fffffffffff) rfl rfl (any_of HT_.out (by kernel_rfl)) (fun _ _ _ h => h) (by rfl) ?_ ?_ ?_; rotate_left; · (simp only [Act.put, sT, sZ, sS, i64_w, i32_w]; rfl)
                           refine pO 45 173 (mq 49 0x3fffffffffff) rfl rfl (any_of HT_.out (by kernel_rfl)) (fun _ _ _ h => h) (by rfl) ?_ ?_ ?_; rotate_left; · (simp only [Act.put, sT, sZ, sS, i64_w, i32_w]; rfl)
                           refine pV 46 174 ?_ (mq 49 0x7fffffffffff) rfl rfl (any_of HT_.out (by kernel_rfl)) (fun _ _ _ h => h) (by rfl) ?_ ?_ ?_ ?_; rotate_left; · (intro w'; go_simp; with_reducible rfl)
                           rotate_left; · (simp only [Act.put, sT, sZ, sS, i64_w, i32_w]; rfl)
                           refine pV 47 175 ?_ (mq 49 0xffffffffffff) rfl rfl (any_of HT_.out (by kernel_rfl)) (fun _ _ _ h => h) (by rfl) ?_ ?_ ?_ ?_; rotate_left; · (intro w'; go_simp; with_reducible rfl)
                           rotate_left; · (simp only [Act.put, sT, sZ, sS, i64_w, i32_w]; rfl)
                           refine pV 48 24 ?_ (mq 49 0x1ffffffffffff) rfl rfl (any_of HT_.out (by kernel_rfl)) (fun _ _ _ h => h) (by rfl) ?_ ?_ ?_ ?_; rotate_left; · (intro w'; go_simp; with_reducible rfl)
                           rotate_left; · (simp only [Act.put, sT, sZ, sS, i64_w, i32_w]; rfl)
                           refine done_ (done_of HT_.out (by kernel_rfl)) ?_
                           try go_wp2
                           go_roundg k4
                           case measure => have := HQ1.out; have := HQ2.out; have := HQ3.out; have := HQ4.out; omega
                           case rel => exact ⟨(false), (wrap64 (x26_2 + 1)), (by first | rfl | (simp; done) | (simp [*]; done)), (by first | rfl | (simp; done) | (simp [*]; done)), H', ⟨by have := HQ1.out; have := HQ2.out; have := HQ3.out; have := HQ4.out; omega⟩, HS, HK⟩
                         ·rw [if_neg c45] at H
                          exact absurd H (by simp)
                        ·rw [if_neg c44] at H
                         have c44b0 : (((rd_T37 t542 x25_1).f0) == ((rd_T56 t574 x23_0).f0)) = false := beq_eq_false_iff_ne.mpr c44
                         have c44b1 : (((rd_T37 t542 x25_1).f0) != ((rd_T56 t574 x23_0).f0)) = true := bne_iff_ne.mpr c44
                         have H' := Aside0.mk H
                         clear H
                         try go_wp2
                         have pq576 : 0 ≤ (x25_1 : Int) := of_decide_eq_true (by first | (with_reducible assumption) | assumption)
                         have qq576 : x25_1 < ((t542.length : Int) : Int) := of_decide_eq_true (by first | (with_reducible assumption) | assumption)
                         obtain ⟨adq576, eq576, hxq576_0, hxq576_1, hxq576_2, hxq576_3, hxq576_4, hxq576_5, hxq576_6, hxq576_7, hxq576_8, hxq576_9, hxq576_10, hxq576_11, hxq576_12, hxq576_13, hxq576_14, hxq576_15⟩ := at_T37 (SL.row_c HS.out).2.2 x25_1 pq576 qq576
                         cases eq576
                         replace pq576 := eq_true pq576
                         replace qq576 := eq_true qq576
                         have pq577 : 0 ≤ (x23_0 : Int) := of_decide_eq_true (by first | (with_reducible assumption) | assumption)
                         have qq577 : x23_0 < ((t574.length : Int) : Int) := of_decide_eq_true (by first | (with_reducible assumption) | assumption)
                         obtain ⟨adq577, eq577, hxq577_0, hxq577_1⟩ := at_T56 (SL.row_c (SL.get2 HS.out)).2.2 x23_0 pq577 qq577
                         cases eq577
                         replace pq577 := eq_true pq577
                         replace qq577 := eq_true qq577
                         refine start_ (n := 49) (S := fun w' => w'.cell? (adq576.add (x25_1.toNat * 16)) = some (.int .i64 ((rd_T37 t542 x25_1).f0)) ∧ w'.cell? ⟨(adq576.add (x25_1.toNat * 16)).block, (adq576.add (x25_1.toNat * 16)).off + 1, none⟩ = some (.int .i64 ((rd_T37 t542 x25_1).f1.f0)) ∧ w'.cell? ⟨(adq576.add (x25_1.toNat * 16)).block, (adq576.add (x25_1.toNat * 16)).off + 2, none⟩ = some (.int .i64 ((rd_T37 t542 x25_1).f1.f1.f0)) ∧ w'.cell? ⟨(adq576.add (x25_1.toNat * 16)).block, (adq576.add (x25_1.toNat * 16)).off + 3, none⟩ = some (.int .i64 ((rd_T37 t542 x25_1).f1.f1.f1)) ∧ w'.cell? ⟨(adq576.add (x25_1.toNat * 16)).block, (adq576.add (x25_1.toNat * 16)).off + 4, none⟩ = some (.int .i64 ((rd_T37 t542 x25_1).f1.f2.f0)) ∧ w'.cell? ⟨(adq576.add (x25_1.toNat * 16)).block, (adq576.add (x25_1.toNat * 16)).off + 5, none⟩ = some (.int .i64 ((rd_T37 t542 x25_1).f1.f2.f1)) ∧ w'.cell? ⟨(adq576.add (x25_1.toNat * 16)).block, (adq576.add (x25_1.toNat * 16)).off + 6, none⟩ = some (.int .i64 ((rd_T37 t542 x25_1).f1.f3)) ∧ w'.cell? ⟨(adq576.add (x25_1.toNat * 16)).block, (adq576.add (x25_1.toNat * 16)).off + 7, none⟩ = some (.int .i64 ((rd_T37 t542 x25_1).f1.f4)) ∧ w'.cell? ⟨(adq576.add (x25_1.toNat * 16)).block, (adq576.add (x25_1.toNat * 16)).off + 8, none⟩ = some (.int .i64 ((rd_T37 t542 x25_1).f2)) ∧ w'.cell? ⟨(adq576.add (x25_1.toNat * 16)).block, (adq576.add (x25_1.toNat * 16)).off + 9, none⟩ = some (.int .i64 ((rd_T37 t542 x25_1).f3)) ∧ w'.cell? ⟨(adq576.add (x25_1.toNat * 16)).block, (adq576.add (x25_1.toNat * 16)).off + 10, none⟩ = some (.int .i64 ((rd_T37 t542 x25_1).f4)) ∧ w'.cell? ⟨(adq576.add (x25_1.toNat * 16)).block, (adq576.add (x25_1.toNat * 16)).off + 11, none⟩ = some (.int .i64 ((rd_T37 t542 x25_1).f5.f0)) ∧ w'.cell? ⟨(adq576.add (x25_1.toNat * 16)).block, (adq576.add (x25_1.toNat * 16)).off + 12, none⟩ = some (.int .i64 ((rd_T37 t542 x25_1).f5.f1)) ∧ w'.cell? ⟨(adq576.add (x25_1.toNat * 16)).block, (adq576.add (x25_1.toNat * 16)).off + 13, none⟩ = some (.int .i64 ((rd_T37 t542 x25_1).f5.f2)) ∧ w'.cell? ⟨(adq576.add (x25_1.toNat * 16)).block, (adq576.add (x25_1.toNat * 16)).off + 14, none⟩ = some (.int .i64 ((rd_T37 t542 x25_1).f6)) ∧ w'.cell? ⟨(adq576.add (x25_1.toNat * 16)).block, (adq576.add (x25_1.toNat * 16)).off + 15, none⟩ = some (.int .i64 ((rd_T37 t542 x25_1).f7)) ∧ w'.cell? (adq577.add (x23_0.toNat * 2)) = some (.int .i64 ((rd_T56 t574 x23_0).f0)) ∧ w'.cell? ⟨(adq577.add (x23_0.toNat * 2)).block, (adq577.add (x23_0.toNat * 2)).off + 1, none⟩ = some (.int .i64 ((rd_T56 t574 x23_0).f1))) (ds := []) #[O,O,O,O,O,O,O,O,O,O,O,O,O,O,O,O,O,O,O,O,O,O,O,O,O,O,O,O,O,O,O,O,O,O,O,O,O,O,O,O,O,O,O,O,O,O,O,O,O] (by kernel_rfl) rfl rfl ⟨(by obtain ⟨a_, e_, h0_, h1_, h2_, h3_, h4_, h5_, h6_, h7_, h8_, h9_, h10_, h11_, h12_, h13_, h14_, h15_⟩ := at_T37 (SL.row_c HS.out).2.2 x25_1 (of_eq_true pq576) (of_eq_true qq576); obtain rfl := Option.some.inj e_; exact h0_), (by obtain ⟨a_, e_, h0_, h1_, h2_, h3_, h4_, h5_, h6_, h7_, h8_, h9_, h10_, h11_, h12_, h13_, h14_, h15_⟩ := at_T37 (SL.row_c HS.out).2.2 x25_1 (of_eq_true pq576) (of_eq_true qq576); obtain rfl := Option.some.inj e_; exact h1_), (by obtain ⟨a_, e_, h0_, h1_, h2_, h3_, h4_, h5_, h6_, h7_, h8_, h9_, h10_, h11_, h12_, h13_, h14_, h15_⟩ := at_T37 (SL.row_c HS.out).2.2 x25_1 (of_eq_true pq576) (of_eq_true qq576); obtain rfl := Option.some.inj e_; exact h2_), (by obtain ⟨a_, e_, h0_, h1_, h2_, h3_, h4_, h5_, h6_, h7_, h8_, h9_, h10_, h11_, h12_, h13_, h14_, h15_⟩ := at_T37 (SL.row_c HS.out).2.2 x25_1 (of_eq_true pq576) (of_eq_true qq576); obtain rfl := Option.some.inj e_; exact h3_), (by obtain ⟨a_, e_, h0_, h1_, h2_, h3_, h4_, h5_, h6_, h7_, h8_, h9_, h10_, h11_, h12_, h13_, h14_, h15_⟩ := at_T37 (SL.row_c HS.out).2.2 x25_1 (of_eq_true pq576) (of_eq_true qq576); obtain rfl := Option.some.inj e_; exact h4_), (by obtain ⟨a_, e_, h0_, h1_, h2_, h3_, h4_, h5_, h6_, h7_, h8_, h9_, h10_, h11_, h12_, h13_, h14_, h15_⟩ := at_T37 (SL.row_c HS.out).2.2 x25_1 (of_eq_true pq576) (of_eq_true qq576); obtain rfl := Option.some.inj e_; exact h5_), (by obtain ⟨a_, e_, h0_, h1_, h2_, h3_, h4_, h5_, h6_, h7_, h8_, h9_, h10_, h11_, h12_, h13_, h14_, h15_⟩ := at_T37 (SL.row_c HS.out).2.2 x25_1 (of_eq_true pq576) (of_eq_true qq576); obtain rfl := Option.some.inj e_; exact h6_), (by obtain ⟨a_, e_, h0_, h1_, h2_, h3_, h4_, h5_, h6_, h7_, h8_, h9_, h10_, h11_, h12_, h13_, h14_, h15_⟩ := at_T37 (SL.row_c HS.out).2.2 x25_1 (of_eq_true pq576) (of_eq_true qq576); obtain rfl := Option.some.inj e_; exact h7_), (by obtain ⟨a_, e_, h0_, h1_, h2_, h3_, h4_, h5_, h6_, h7_, h8_, h9_, h10_, h11_, h12_, h13_, h14_, h15_⟩ := at_T37 (SL.row_c HS.out).2.2 x25_1 (of_eq_true pq576) (of_eq_true qq576); obtain rfl := Option.some.inj e_; exact h8_), (by obtain ⟨a_, e_, h0_, h1_, h2_, h3_, h4_, h5_, h6_, h7_, h8_, h9_, h10_, h11_, h12_, h13_, h14_, h15_⟩ := at_T37 (SL.row_c HS.out).2.2 x25_1 (of_eq_true pq576) (of_eq_true qq576); obtain rfl := Option.some.inj e_; exact h9_), (by obtain ⟨a_, e_, h0_, h1_, h2_, h3_, h4_, h5_, h6_, h7_, h8_, h9_, h10_, h11_, h12_, h13_, h14_, h15_⟩ := at_T37 (SL.row_c HS.out).2.2 x25_1 (of_eq_true pq576) (of_eq_true qq576); obtain rfl := Option.some.inj e_; exact h10_), (by obtain ⟨a_, e_, h0_, h1_, h2_, h3_, h4_, h5_, h6_, h7_, h8_, h9_, h10_, h11_, h12_, h13_, h14_, h15_⟩ := at_T37 (SL.row_c HS.out).2.2 x25_1 (of_eq_true pq576) (of_eq_true qq576); obtain rfl := Option.some.inj e_; exact h11_), (by obtain ⟨a_, e_, h0_, h1_, h2_, h3_, h4_, h5_, h6_, h7_, h8_, h9_, h10_, h11_, h12_, h13_, h14_, h15_⟩ := at_T37 (SL.row_c HS.out).2.2 x25_1 (of_eq_true pq576) (of_eq_true qq576); obtain rfl := Option.some.inj e_; exact h12_), (by obtain ⟨a_, e_, h0_, h1_, h2_, h3_, h4_, h5_, h6_, h7_, h8_, h9_, h10_, h11_, h12_, h13_, h14_, h15_⟩ := at_T37 (SL.row_c HS.out).2.2 x25_1 (of_eq_true pq576) (of_eq_true qq576); obtain rfl := Option.some.inj e_; exact h13_), (by obtain ⟨a_, e_, h0_, h1_, h2_, h3_, h4_, h5_, h6_, h7_, h8_, h9_, h10_, h11_, h12_, h13_, h14_, h15_⟩ := at_T37 (SL.row_c HS.out).2.2 x25_1 (of_eq_true pq576) (of_eq_true qq576); obtain rfl := Option.some.inj e_; exact h14_), (by obtain ⟨a_, e_, h0_, h1_, h2_, h3_, h4_, h5_, h6_, h7_, h8_, h9_, h10_, h11_, h12_, h13_, h14_, h15_⟩ := at_T37 (SL.row_c HS.out).2.2 x25_1 (of_eq_true pq576) (of_eq_true qq576); obtain rfl := Option.some.inj e_; exact h15_), (by obtain ⟨a_, e_, h0_, h1_⟩ := at_T56 (SL.row_c (SL.get2 HS.out)).2.2 x23_0 (of_eq_true pq577) (of_eq_true qq577); obtain rfl := Option.some.inj e_; exact h0_), (by obtain ⟨a_, e_, h0_, h1_⟩ := at_T56 (SL.row_c (SL.get2 HS.out)).2.2 x23_0 (of_eq_true pq577) (of_eq_true qq577); obtain rfl := Option.some.inj e_; exact h1_)⟩ (fun hHeld => ?_); refine with_tabW barrowlaw33_ZoneStays.tab26 barrowlaw33_ZoneStays.bits26 (fun HT_ HW_ => ?_)
                         replace HK := Aside0.mk (Keep.drew HK.out)
                         replace HS := Aside0.mk (SL.drew HS.out)
                         refine pV 0 128 ?_ (mq 49 1) rfl rfl (any_of HT_.out (by kernel_rfl)) (fun _ _ _ h => h) (by rfl) ?_ ?_ ?_ ?_; rotate_left; · (intro w'; go_simp; with_reducible rfl)
                         rotate_left; · (simp only [Act.put, sT, sZ, sS, i64_w, i32_w]; rfl)
                         refine pV 1 129 ?_ (mq 49 3) rfl rfl (any_of HT_.out (by kernel_rfl)) (fun _ _ _ h => h) (by rfl) ?_ ?_ ?_ ?_; rotate_left; · (intro w'; go_simp; with_reducible rfl)
                         rotate_left; · (simp only [Act.put, sT, sZ, sS, i64_w, i32_w]; rfl)
                         refine pV 2 130 ?_ (mq 49 7) rfl rfl (any_of HT_.out (by kernel_rfl)) (fun _ _ _ h => h) (by rfl) ?_ ?_ ?_ ?_; rotate_left; · (intro w'; go_simp; with_reducible rfl)
                         rotate_left; · (simp only [Act.put, sT, sZ, sS, i64_w, i32_w]; rfl)
                         refine pV 3 131 ?_ (mq 49 15) rfl rfl (any_of HT_.out (by kernel_rfl)) (fun _ _ _ h => h) (by rfl) ?_ ?_ ?_ ?_; rotate_left; · (intro w'; go_simp; with_reducible rfl)
                         rotate_left; · (simp only [Act.put, sT, sZ, sS, i64_w, i32_w]; rfl)
                         refine pV 4 132 ?_ (mq 49 31) rfl rfl (any_of HT_.out (by kernel_rfl)) (fun _ _ _ h => h) (by rfl) ?_ ?_ ?_ ?_; rotate_left; · (intro w'; go_simp; with_reducible rfl)
                         rotate_left; · (simp only [Act.put, sT, sZ, sS, i64_w, i32_w]; rfl)
                         refine pV 5 133 ?_ (mq 49 63) rfl rfl (any_of HT_.out (by kernel_rfl)) (fun _ _ _ h => h) (by rfl) ?_ ?_ ?_ ?_; rotate_left; · (intro w'; go_simp; with_reducible rfl)
                         rotate_left; · (simp only [Act.put, sT, sZ, sS, i64_w, i32_w]; rfl)
                         refine pV 7 135 ?_ (mq 49 191) rfl rfl (any_of HT_.out (by kernel_rfl)) (fun _ _ _ h => h) (by rfl) ?_ ?_ ?_ ?_; rotate_left; · (intro w'; go_simp; with_reducible rfl)
                         rotate_left; · (simp only [Act.put, sT, sZ, sS, i64_w, i32_w]; rfl)
                         refine pV 8 136 ?_ (mq 49 447) rfl rfl (any_of HT_.out (by kernel_rfl)) (fun _ _ _ h => h) (by rfl) ?_ ?_ ?_ ?_; rotate_left; · (intro w'; go_simp; with_reducible rfl)
                         rotate_left; · (simp only [Act.put, sT, sZ, sS, i64_w, i32_w]; rfl)
                         refine pV 9 137 ?_ (mq 49 959) rfl rfl (any_of HT_.out (by kernel_rfl)) (fun _ _ _ h => h) (by rfl) ?_ ?_ ?_ ?_; rotate_left; · (intro w'; go_simp; with_reducible rfl)
                         rotate_left; · (simp only [Act.put, sT, sZ, sS, i64_w, i32_w]; rfl)
                         refine pV 10 138 ?_ (mq 49 1983) rfl rfl (any_of HT_.out (by kernel_rfl)) (fun _ _ _ h => h) (by rfl) ?_ ?_ ?_ ?_; rotate_left; · (intro w'; go_simp; with_reducible rfl)
                         rotate_left; · (simp only [Act.put, sT, sZ, sS, i64_w, i32_w]; rfl)
                         refine take_ (i := 6) (N := some 134) (v := ?_) (a' := ?_) (mq 49 2047) rfl rfl (take_ofW HT_.out HW_.out (by kernel_rfl)) (fun _ _ _ h => h) (Or.inl ⟨by rfl, ?_⟩) hHeld ?_ ?_; rotate_left
                         ·rintro w' ⟨s0, s1, s2, s3, s4, s5, s6, s7, s8, s9, s10, s11, s12, s13, s14, s15, s16, s17⟩
                          go_simp
                          with_reducible rfl
                         rotate_left; · (simp only [Act.put, sT, sZ, sS, i64_w, i32_w]; rfl)
                         refine take_ (i := 11) (N := some 139) (v := ?_) (a' := ?_) (mq 49 4095) rfl rfl (take_ofW HT_.out HW_.out (by kernel_rfl)) (fun _ _ _ h => h) (Or.inl ⟨by rfl, ?_⟩) hHeld ?_ ?_; rotate_left
                         ·rintro w' ⟨s0, s1, s2, s3, s4, s5, s6, s7, s8, s9, s10, s11, s12, s13, s14, s15, s16, s17⟩
                          go_simp
                          with_reducible rfl
                         rotate_left; · (simp only [Act.put, sT, sZ, sS, i64_w, i32_w]; rfl)
                         refine pV 12 140 ?_ (mq 49 8191) rfl rfl (any_of HT_.out (by kernel_rfl)) (fun _ _ _ h => h) (by rfl) ?_ ?_ ?_ ?_; rotate_left; · (intro w'; go_simp; with_reducible rfl)
                         rotate_left; · (simp only [Act.put, sT, sZ, sS, i64_w, i32_w]; rfl)
                         refine pV 13 141 ?_ (mq 49 16383) rfl rfl (any_of HT_.out (by kernel_rfl)) (fun _ _ _ h => h) (by rfl) ?_ ?_ ?_ ?_; rotate_left; · (intro w'; go_simp; with_reducible rfl)
                         rotate_left; · (simp only [Act.put, sT, sZ, sS, i64_w, i32_w]; rfl)
                         refine pO 14 142 (mq 49 32767) rfl rfl (any_of HT_.out (by kernel_rfl)) (fun _ _ _ h => h) (by rfl) ?_ ?_ ?_; rotate_left; · (simp only [Act.put, sT, sZ, sS, i64_w, i32_w]; rfl)
                         refine pO 15 143 (mq 49 65535) rfl rfl (any_of HT_.out (by kernel_rfl)) (fun _ _ _ h => h) (by rfl) ?_ ?_ ?_; rotate_left; · (simp only [Act.put, sT, sZ, sS, i64_w, i32_w]; rfl)
                         refine pO 16 144 (mq 49 131071) rfl rfl (any_of HT_.out (by kernel_rfl)) (fun _ _ _ h => h) (by rfl) ?_ ?_ ?_; rotate_left; · (simp only [Act.put, sT, sZ, sS, i64_w, i32_w]; rfl)
                         refine pO 17 145 (mq 49 262143) rfl rfl (any_of HT_.out (by kernel_rfl)) (fun _ _ _ h => h) (by rfl) ?_ ?_ ?_; rotate_left; · (simp only [Act.put, sT, sZ, sS, i64_w, i32_w]; rfl)
                         refine pO 18 146 (mq 49 524287) rfl rfl (any_of HT_.out (by kernel_rfl)) (fun _ _ _ h => h) (by rfl) ?_ ?_ ?_; rotate_left; · (simp only [Act.put, sT, sZ, sS, i64_w, i32_w]; rfl)
                         refine pO 19 147 (mq 49 0xfffff) rfl rfl (any_of HT_.out (by kernel_rfl)) (fun _ _ _ h => h) (by rfl) ?_ ?_ ?_; rotate_left; · (simp only [Act.put, sT, sZ, sS, i64_w, i32_w]; rfl)
                         refine pO 20 148 (mq 49 0x1fffff) rfl rfl (any_of HT_.out (by kernel_rfl)) (fun _ _ _ h => h) (by rfl) ?_ ?_ ?_; rotate_left; · (simp only [Act.put, sT, sZ, sS, i64_w, i32_w]; rfl)
                         refine pO 21 149 (mq 49 0x3fffff) rfl rfl (any_of HT_.out (by kernel_rfl)) (fun _ _ _ h => h) (by rfl) ?_ ?_ ?_; rotate_left; · (simp only [Act.put, sT, sZ, sS, i64_w, i32_w]; rfl)
                         refine pO 22 150 (mq 49 0x7fffff) rfl rfl (any_of HT_.out (by kernel_rfl)) (fun _ _ _ h => h) (by rfl) ?_ ?_ ?_; rotate_left; · (simp only [Act.put, sT, sZ, sS, i64_w, i32_w]; rfl)
                         refine pO 23 151 (mq 49 0xffffff) rfl rfl (any_of HT_.out (by kernel_rfl)) (fun _ _ _ h => h) (by rfl) ?_ ?_ ?_; rotate_left; · (simp only [Act.put, sT, sZ, sS, i64_w, i32_w]; rfl)
                         refine pO 24 152 (mq 49 0x1ffffff) rfl rfl (any_of HT_.out (by kernel_rfl)) (fun _ _ _ h => h) (by rfl) ?_ ?_ ?_; rotate_left; · (simp only [Act.put, sT, sZ, sS, i64_w, i32_w]; rfl)
                         refine pV 25 153 ?_ (mq 49 0x3ffffff) rfl rfl (any_of HT_.out (by kernel_rfl)) (fun _ _ _ h => h) (by rfl) ?_ ?_ ?_ ?_; rotate_left; · (intro w'; go_simp; with_reducible rfl)
                         rotate_left; · (simp only [Act.put, sT, sZ, sS, i64_w, i32_w]; rfl)
                         refine pV 26 154 ?_ (mq 49 0x7ffffff) rfl rfl (any_of HT_.out (by kernel_rfl)) (fun _ _ _ h => h) (by rfl) ?_ ?_ ?_ ?_; rotate_left; · (intro w'; go_simp; with_reducible rfl)
                         rotate_left; · (simp only [Act.put, sT, sZ, sS, i64_w, i32_w]; rfl)
                         refine pO 27 155 (mq 49 0xfffffff) rfl rfl (any_of HT_.out (by kernel_rfl)) (fun _ _ _ h => h) (by rfl) ?_ ?_ ?_; rotate_left; · (simp only [Act.put, sT, sZ, sS, i64_w, i32_w]; rfl)
                         refine pO 28 156 (mq 49 0x1fffffff) rfl rfl (any_of HT_.out (by kernel_rfl)) (fun _ _ _ h => h) (by rfl) ?_ ?_ ?_; rotate_left; · (simp only [Act.put, sT, sZ, sS, i64_w, i32_w]; rfl)
                         refine pO 29 157 (mq 49 0x3fffffff) rfl rfl (any_of HT_.out (by kernel_rfl)) (fun _ _ _ h => h) (by rfl) ?_ ?_ ?_; rotate_left; · (simp only [Act.put, sT, sZ, sS, i64_w, i32_w]; rfl)
                         refine pO 30 158 (mq 49 0x7fffffff) rfl rfl (any_of HT_.out (by kernel_rfl)) (fun _ _ _ h => h) (by rfl) ?_ ?_ ?_; rotate_left; · (simp only [Act.put, sT, sZ, sS, i64_w, i32_w]; rfl)
                         refine pO 31 159 (mq 49 0xffffffff) rfl rfl (any_of HT_.out (by kernel_rfl)) (fun _ _ _ h => h) (by rfl) ?_ ?_ ?_; rotate_left; · (simp only [Act.put, sT, sZ, sS, i64_w, i32_w]; rfl)
                         refine pO 32 160 (mq 49 0x1ffffffff) rfl rfl (any_of HT_.out (by kernel_rfl)) (fun _ _ _ h => h) (by rfl) ?_ ?_ ?_; rotate_left; · (simp only [Act.put, sT, sZ, sS, i64_w, i32_w]; rfl)
                         refine pO 33 161 (mq 49 0x3ffffffff) rfl rfl (any_of HT_.out (by kernel_rfl)) (fun _ _ _ h => h) (by rfl) ?_ ?_ ?_; rotate_left; · (simp only [Act.put, sT, sZ, sS, i64_w, i32_w]; rfl)
                         refine pO 34 162 (mq 49 0x7ffffffff) rfl rfl (any_of HT_.out (by kernel_rfl)) (fun _ _ _ h => h) (by rfl) ?_ ?_ ?_; rotate_left; · (simp only [Act.put, sT, sZ, sS, i64_w, i32_w]; rfl)
                         refine pO 35 163 (mq 49 0xfffffffff) rfl rfl (any_of HT_.out (by kernel_rfl)) (fun _ _ _ h => h) (by rfl) ?_ ?_ ?_; rotate_left; · (simp only [Act.put, sT, sZ, sS, i64_w, i32_w]; rfl)
                         refine pO 36 164 (mq 49 0x1fffffffff) rfl rfl (any_of HT_.out (by kernel_rfl)) (fun _ _ _ h => h) (by rfl) ?_ ?_ ?_; rotate_left; · (simp only [Act.put, sT, sZ, sS, i64_w, i32_w]; rfl)
                         refine pO 37 165 (mq 49 0x3fffffffff) rfl rfl (any_of HT_.out (by kernel_rfl)) (fun _ _ _ h => h) (by rfl) ?_ ?_ ?_; rotate_left; · (simp only [Act.put, sT, sZ, sS, i64_w, i32_w]; rfl)
                         refine pV 38 166 ?_ (mq 49 0x7fffffffff) rfl rfl (any_of HT_.out (by kernel_rfl)) (fun _ _ _ h => h) (by rfl) ?_ ?_ ?_ ?_; rotate_left; · (intro w'; go_simp; with_reducible rfl)
                         rotate_left; · (simp only [Act.put, sT, sZ, sS, i64_w, i32_w]; rfl)
                         refine pV 39 167 ?_ (mq 49 0xffffffffff) rfl rfl (any_of HT_.out (by kernel_rfl)) (fun _ _ _ h => h) (by rfl) ?_ ?_ ?_ ?_; rotate_left; · (intro w'; go_simp; with_reducible rfl)
                         rotate_left; · (simp only [Act.put, sT, sZ, sS, i64_w, i32_w]; rfl)
                         refine pO 40 168 (mq 49 0x1ffffffffff) rfl rfl (any_of HT_.out (by kernel_rfl)) (fun _ _ _ h => h) (by rfl) ?_ ?_ ?_; rotate_left; · (simp only [Act.put, sT, sZ, sS, i64_w, i32_w]; rfl)
                         refine pO 41 169 (mq 49 0x3ffffffffff) rfl rfl (any_of HT_.out (by kernel_rfl)) (fun _ _ _ h => h) (by rfl) ?_ ?_ ?_; rotate_left; · (simp only [Act.put, sT, sZ, sS, i64_w, i32_w]; rfl)
                         refine pO 42 170 (mq 49 0x7ffffffffff) rfl rfl (any_of HT_.out (by kernel_rfl)) (fun _ _ _ h => h) (by rfl) ?_ ?_ ?_; rotate_left; · (simp only [Act.put, sT, sZ, sS, i64_w, i32_w]; rfl)
                         refine pO 43 171 (mq 49 0xfffffffffff) rfl rfl (any_of HT_.out (by kernel_rfl)) (fun _ _ _ h => h) (by rfl) ?_ ?_ ?_; rotate_left; · (simp only [Act.put, sT, sZ, sS, i64_w, i32_w]; rfl)
                         refine pO 44 172 (mq 49 0x1fffffffffff) rfl rfl (any_of HT_.out (by kernel_rfl)) (fun _ _ _ h => h) (by rfl) ?_ ?_ ?_; rotate_left; · (simp only [Act.put, sT, sZ, sS, i64_w, i32_w]; rfl)
                         refine pO 45 173 (mq 49 0x3fffffffffff) rfl rfl (any_of HT_.out (by kernel_rfl)) (fun _ _ _ h => h) (by rfl) ?_ ?_ ?_; rotate_left; · (simp only [Act.put, sT, sZ, sS, i64_w, i32_w]; rfl)
                         refine pV 46 174 ?_ (mq 49 0x7fffffffffff) rfl rfl (any_of HT_.out (by kernel_rfl)) (fun _ _ _ h => h) (by rfl) ?_ ?_ ?_ ?_; rotate_left; · (intro w'; go_simp; with_reducible rfl)
                         rotate_left; · (simp only [Act.put, sT, sZ, sS, i64_w, i32_w]; rfl)
                         refine pV 47 175 ?_ (mq 49 0xffffffffffff) rfl rfl (any_of HT_.out (by kernel_rfl)) (fun _ _ _ h => h) (by rfl) ?_ ?_ ?_ ?_; rotate_left; · (intro w'; go_simp; with_reducible rfl)
                         rotate_left; · (simp only [Act.put, sT, sZ, sS, i64_w, i32_w]; rfl)
                         refine pV 48 24 ?_ (mq 49 0x1ffffffffffff) rfl rfl (any_of HT_.out (by kernel_rfl)) (fun _ _ _ h => h) (by rfl) ?_ ?_ ?_ ?_; rotate_left; · (intro w'; go_simp; with_reducible rfl)
                         rotate_left; · (simp only [Act.put, sT, sZ, sS, i64_w, i32_w]; rfl)
                         refine done_ (done_of HT_.out (by kernel_rfl)) ?_
                         try go_wp2
                         go_roundg k4
                         case measure => have := HQ1.out; have := HQ2.out; have := HQ3.out; have := HQ4.out; omega
                         case rel => exact ⟨(false), (wrap64 (x26_2 + 1)), (by first | rfl | (simp; done) | (simp [*]; done)), (by first | rfl | (simp; done) | (simp [*]; done)), H', ⟨by have := HQ1.out; have := HQ2.out; have := HQ3.out; have := HQ4.out; omega⟩, HS, HK⟩
                       ·rw [if_neg c43] at H
                        exact absurd H (by simp)
                      ·rw [if_neg c42] at H
                       exact absurd H (by simp)
                     ·rw [if_neg c41] at H
                      exact absurd H (by simp)
                    ·rw [if_neg c40] at H
                     exact absurd H (by simp)
                  ·rw [if_neg c38] at H
                   have c38b0 : decide (x26_2 < (l2.length : Int)) = false := decide_eq_false c38
                   clear c38
                   have H' := Aside0.mk H
                   clear H
                   go_wp2
                   go_roundg k4
                   case measure => have := HQ1.out; have := HQ2.out; have := HQ3.out; have := HQ4.out; omega
                   case rel => exact ⟨(x24_2), (wrap64 (x25_1 + 1)), (by first | rfl | (simp; done) | (simp [*]; done)), (by first | rfl | (simp; done) | (simp [*]; done)), H', ⟨by have := HQ1.out; have := HQ2.out; have := HQ3.out; have := HQ4.out; omega⟩, HS, HK⟩
               ·rw [if_neg c37] at H
                have c37b0 : decide (x25_1 < (t542.length : Int)) = false := decide_eq_false c37
                clear c37
                by_cases c51 : x24_1 = true
                ·subst c51
                 rw [if_pos rfl] at H
                 have H' := Aside0.mk H
                 clear H
                 go_wp2
                 go_roundg k3
                 case measure => have := HQ1.out; have := HQ2.out; have := HQ3.out; omega
                 case rel => exact ⟨(wrap64 (x23_0 + 1)), (by first | rfl | (simp; done) | (simp [*]; done)), H', ⟨by have := HQ1.out; have := HQ2.out; have := HQ3.out; omega⟩, HS, HK⟩
                ·replace c51 := Bool.eq_false_iff.mpr c51
                 subst c51
                 rw [if_neg (show ¬ (false = true) by decide)] at H
                 exact absurd H (by simp)
            ·rw [if_neg c36] at H
             have c36b0 : decide (x23_0 < (t574.length : Int)) = false := decide_eq_false c36
             clear c36
             by_cases c52 : t539 = true
             ·subst c52
              rw [if_pos rfl] at H
              replace H := Option.bind_eq_some_iff.1 H
              obtain ⟨t584, Hc530, H⟩ := H
              try dsimp only at H
              have Hc53 := Aside0.mk Hc530
              clear Hc530
              by_cases c54 : t584 = true
              ·subst c54
               rw [if_pos rfl] at H
               by_cases c55 : (t573.length : Int) ≤ (t542.length : Int)
               ·rw [if_pos c55] at H
                have c55b0 : decide ((t573.length : Int) ≤ (t542.length : Int)) = true := decide_eq_true c55
                have c55b1 : decide (t573.length ≤ t542.length) = true := decide_eq_true (Int.ofNat_le.mp c55)
                clear c55
                obtain rfl := Option.some.inj H
                go_wp2_with (first | ((with_reducible refine gate_dst (N := 181) rfl ?_); (try (refine gate_guard (by rfl) ?_; dsimp only)); refine goesL_ (some 181) rfl rfl Try.func14 (by kernel_rfl) rfl #[.slice Az3000055 t573.length cz3000055] rfl (by (try simp only [List.map_toArray, List.map_cons, List.map_nil]); first | done | rfl | (simp; done)) ?_; (with_reducible refine (zone_Right.calls k2 _ _ _ _ _ (SL.row_c (SL.get1 HS.out)).2.2 (SL.row_c (SL.get1 HS.out)).2.1 Hc53.out).mono ?_); rintro e_ w56 ⟨rfl, hb_⟩; refine ⟨_, rfl, ?_⟩; replace HS := Aside0.mk (HS.out.below hb_); replace HK := Aside0.mk (HK.out.trans (Keep.below hb_))))
                go_ret
                replace HS := Aside0.mk (SL.tail (SL.tail (SL.tail (SL.tail (SL.tail (SL.tail (SL.tail HS.out)))))))
                unfold barrowlaw33_ZoneStays.Post
                exact ⟨by first | rfl | (simp; done) | (simp [*]; done) | (simp at c55b0 ⊢; first | exact c55b0 | (simp [c55b0]; done)), HS.out, HK.out⟩
               ·rw [if_neg c55] at H
                exact absurd H (by simp)
              ·replace c54 := Bool.eq_false_iff.mpr c54
               subst c54
               rw [if_neg (show ¬ (false = true) by decide)] at H
               exact absurd H (by simp)
             ·replace c52 := Bool.eq_false_iff.mpr c52
              subst c52
              rw [if_neg (show ¬ (false = true) by decide)] at H
              exact absurd H (by simp)
       ·replace c16 := Bool.eq_false_iff.mpr c16
        subst c16
        rw [if_neg (show ¬ (false = true) by decide)] at H
        exact absurd H (by simp)
      ·replace c14 := Bool.eq_false_iff.mpr c14
       subst c14
       rw [if_neg (show ¬ (false = true) by decide)] at H
       exact absurd H (by simp)
     ·replace c13 := Bool.eq_false_iff.mpr c13
      subst c13
      rw [if_neg (show ¬ (false = true) by decide)] at H
      exact absurd H (by simp)
    ·exact absurd (HX.out _ _ _ Hc9.out) c10
   ·replace c8 := Bool.eq_false_iff.mpr c8
    subst c8
    rw [if_neg (show ¬ (false = true) by decide)] at H
    obtain rfl := Option.some.inj H
    refine hG_.out ?_
    try simp only [c5b0, c5b1, c6b0, c6b1]
    go_wp2_with (first | ((with_reducible refine gate_dst (N := 38) rfl ?_); (try (refine gate_guard (by rfl) ?_; dsimp only)); refine goesL_ (some 38) rfl rfl Try.func14 (by kernel_rfl) rfl #[.slice A0 l0.length c0] rfl (by (try simp only [List.map_toArray, List.map_cons, List.map_nil]); first | done | rfl | (simp; done)) ?_; (with_reducible refine (zone_Right.calls k _ _ _ _ _ (RO.at_ HR0.out HK.out) HC0.out Hc7.out).mono ?_); rintro e_ w82 ⟨rfl, hb_⟩; refine ⟨_, rfl, ?_⟩; replace HS := Aside0.mk (HS.out.below hb_); replace HK := Aside0.mk (HK.out.trans (Keep.below hb_))))
    go_ret
    replace HS := Aside0.mk (SL.tail (SL.tail HS.out))
    unfold barrowlaw33_ZoneStays.Post
    exact ⟨by first | rfl | (simp; done) | (simp [*]; done) | (simp at c6b0 ⊢; first | exact c6b0 | (simp [c6b0]; done)), HS.out, HK.out⟩

end Go.Proofs.Ytiadhonhjnbliaa.XZT
