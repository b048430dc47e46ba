-- Written by xprint.py (a program of this session) for this claim
import Derived.Test.YtiadhonhjnbliaaSq
import Derived.Test.YtiadhonhjnbliaaSL5
import Derived.Test.YtiadhonhjnbliaaXZTx0
import Derived.Test.YtiadhonhjnbliaaXZTx16
import Derived.Test.YtiadhonhjnbliaaXZTx15
import Derived.Test.YtiadhonhjnbliaaXZTx24
namespace Go.Proofs.Ytiadhonhjnbliaa.XZT
open Go.Proofs.YtiadhonhjnbliaaV Go.Proofs.YtiadhonhjnbliaaS
open Go.RowKit Go.Proofs.YtiadhonhjnbliaaW.PrintWords Go.Proofs.YtiadhonhjnbliaaW.PrintLast Go.Proofs.YtiadhonhjnbliaaW.PrintMore
attribute [local go_sem] max2_int min2_int max_two min_two max_three min_three max_four min_four   -- for this text's walks alone
set_option linter.unusedVariables false
set_option linter.unusedSimpArgs false

/-! ### barrowref33_Shift: function 19 -/
def barrowref33_Shift.f (k : Nat) (l0 : List (S37)) (a1 : Int) (a2_0 : Int) (a2_1 : Int) : Option ((List (S37)) × Int) := (barrowref33_find.f k l0 a1).bind fun t595 => (if t595 < 0 then (some (([] : List (S37)), 5)) else ((barrowref33_Copy.f l0).bind fun t596 => (if 0 ≤ t595 then (if t595 < (t596.length : Int) then ((some (t596.set (t595).toNat (⟨(rd_T37 t596 t595).f0, (⟨(rd_T37 t596 t595).f1.f0, (⟨a2_0, a2_1⟩ : S31), (⟨(rd_T37 t596 t595).f1.f2.f0, (rd_T37 t596 t595).f1.f2.f1⟩ : S31), (rd_T37 t596 t595).f1.f3, (rd_T37 t596 t595).f1.f4⟩ : S33), (rd_T37 t596 t595).f2, (rd_T37 t596 t595).f3, (rd_T37 t596 t595).f4, (⟨(rd_T37 t596 t595).f5.f0, (rd_T37 t596 t595).f5.f1, (rd_T37 t596 t595).f5.f2⟩ : S35), (rd_T37 t596 t595).f6, (rd_T37 t596 t595).f7⟩ : S37) : List (S37))).bind fun y599 => ((barrowref01_Sub.f k a2_0 ((rd_T37 t596 t595).f1.f1.f0)).bind fun t600 => ((barrowref01_Add.f k ((rd_T37 t596 t595).f1.f2.f0) t600).bind fun t601 => ((barrowref01_Sub.f k a2_1 ((rd_T37 t596 t595).f1.f1.f1)).bind fun t602 => ((barrowref01_Add.f k ((rd_T37 t596 t595).f1.f2.f1) t602).bind fun t603 => ((some (y599.set (t595).toNat (⟨(rd_T37 y599 t595).f0, (⟨(rd_T37 y599 t595).f1.f0, (⟨(rd_T37 y599 t595).f1.f1.f0, (rd_T37 y599 t595).f1.f1.f1⟩ : S31), (⟨t601, t603⟩ : S31), (rd_T37 y599 t595).f1.f3, (rd_T37 y599 t595).f1.f4⟩ : S33), (rd_T37 y599 t595).f2, (rd_T37 y599 t595).f3, (rd_T37 y599 t595).f4, (⟨(rd_T37 y599 t595).f5.f0, (rd_T37 y599 t595).f5.f1, (rd_T37 y599 t595).f5.f2⟩ : S35), (rd_T37 y599 t595).f6, (rd_T37 y599 t595).f7⟩ : S37) : List (S37))).bind fun y605 => ((barrowref32_Right.f ((rd_T37 y605 t595).f1.f0) ((rd_T37 y605 t595).f1.f1.f0) ((rd_T37 y605 t595).f1.f1.f1) ((rd_T37 y605 t595).f1.f2.f0) ((rd_T37 y605 t595).f1.f2.f1) ((rd_T37 y605 t595).f1.f3) ((rd_T37 y605 t595).f1.f4)).bind fun t607 => (if t607 = true then (some (y605, 0)) else (some (([] : List (S37)), 1)))))))))) else (none)) else (none))))
theorem barrowref33_Shift.mono : ∀ a0 a1 a2 a3 k, LeO (barrowref33_Shift.f k a0 a1 a2 a3) (barrowref33_Shift.f (k + 1) a0 a1 a2 a3) := by
 intro a0 a1 a2 a3 k
 unfold barrowref33_Shift.f
 repeat' first
   | (with_reducible exact barrowref01_Add.mono _ _ _)
   | (with_reducible exact barrowref01_Sub.mono _ _ _)
   | (with_reducible exact barrowref33_find.mono _ _ _)
   | (with_reducible exact LeO.refl _)
   | (with_reducible exact LeO.none _)
   | (with_reducible refine LeO.ite ?_ ?_)
   | (with_reducible refine everyOf_le (fun _ => ?_))
   | (with_reducible refine LeO.bind ?_ (fun _ => ?_))
   | exact barrowref01_Add.mono _ _ _
   | exact barrowref01_Sub.mono _ _ _
   | exact barrowref33_find.mono _ _ _
   | exact LeO.none _
   | refine LeO.ite ?_ ?_
   | refine LeO.bind ?_ (fun _ => ?_)
def barrowref33_Shift.T7 : Bool × List (List Nat × List Nat) := (true, [([], []), ([], []), ([], []), ([2], [2]), ([3], [3]), ([], []), ([5], [5]), ([], []), ([7], [7]), ([8], [8]), ([6, 9], [6, 9]), ([4, 10, 10], [4, 10]), ([], []), ([12], [12]), ([13], [13]), ([], []), ([15], [15]), ([], []), ([17], [17]), ([18], [18]), ([16, 19, 11], [16, 19]), ([14, 20, 20], [14, 20]), ([11, 21], [11, 21]), ([0, 1, 0, 1, 2, 3, 4, 5, 6, 7, 8, 9, 10, 11, 12, 13, 14, 15, 16, 17, 18, 19, 20, 21, 22], [0, 1]), ([23, 0, 1, 2, 3, 4, 5, 6, 7, 8, 9, 10, 11, 12, 13, 14, 15, 16, 17, 18, 19, 20, 21, 22], [23]), ([24, 0, 1, 2, 3, 4, 5, 6, 7, 8, 9, 10, 11, 12, 13, 14, 15, 16, 17, 18, 19, 20, 21, 22], [24]), ([25, 22, 21, 0, 1, 2, 3, 4, 5, 6, 7, 8, 9, 10, 11, 12, 13, 14, 15, 16, 17, 18, 19, 20, 21, 22], [22, 25])])
def barrowref33_Shift.B7 : List Nat := [0, 0, 0, 4, 12, 0, 32, 0, 128, 384, 992, 2044, 0, 4096, 12288, 0, 32768, 0, 131072, 393216, 1019900, 2097148, 4194300, 8388607, 16777215, 33554431, 67108863]
theorem barrowref33_Shift.tab7 : rtab .any (opsOf Try.f19 7) = barrowref33_Shift.T7 := by kernel_rfl
theorem barrowref33_Shift.bits7 : waitsOk barrowref33_Shift.T7.2 barrowref33_Shift.B7 = true := by kernel_rfl
def barrowref33_Shift.Post (r1 : List (S37)) (r2 : Int) (S : Nat → Prop) (L : List Asr) (w : World) (e : Ending) (w' : World) : Prop := ∃ (Ar1 : Option Addr) (cr1 : Nat), e = .returned (.tuple #[.slice Ar1 r1.length cr1, .int .i64 r2]) ∧ SL (row k37 37 (.slice Ar1 r1.length cr1) r1 :: L) w' S ∧ Keep S w w'
set_option maxHeartbeats 8000000 in
set_option maxRecDepth 100000 in
theorem barrowref33_Shift.slcalls (k : Nat) (A0 : Option Addr) (c0 : Nat) (l0 : List (S37)) (a1 : Int) (a2_0 : Int) (a2_1 : Int) (r1 : List (S37)) (r2 : Int) (S : Nat → Prop) (L : List Asr) (w : World) (hf : Fresh S w) (hs : SL (L) w S) (hr0 : RO S w (fun w_ => Kd.C k37 w_ A0 l0.length l0)) (hc0 : l0.length ≤ c0) (h : barrowref33_Shift.f k l0 a1 a2_0 a2_1 = some (r1, r2)) :
  Calls Try.prog 19 #[.slice A0 l0.length c0, .int .i64 a1, .agg #[.int .i64 a2_0, .int .i64 a2_1]] w (barrowref33_Shift.Post r1 r2 S L w) := by
 have HR0 := Aside0.mk hr0
 have HC0 := Aside0.mk hc0
 clear hr0 hc0
 have HF := Aside0.mk hf
 have HS := Aside0.mk hs
 have HK := Aside0.mk (Keep.refl S w)
 clear hf hs
 have hu31 := Try.underlying31
 have hu33 := Try.underlying33
 have H : ((barrowref33_find.f k l0 a1).bind fun t595 => (if t595 < 0 then (some (([] : List (S37)), 5)) else ((barrowref33_Copy.f l0).bind fun t596 => (if 0 ≤ t595 then (if t595 < (t596.length : Int) then ((some (t596.set (t595).toNat (⟨(rd_T37 t596 t595).f0, (⟨(rd_T37 t596 t595).f1.f0, (⟨a2_0, a2_1⟩ : S31), (⟨(rd_T37 t596 t595).f1.f2.f0, (rd_T37 t596 t595).f1.f2.f1⟩ : S31), (rd_T37 t596 t595).f1.f3, (rd_T37 t596 t595).f1.f4⟩ : S33), (rd_T37 t596 t595).f2, (rd_T37 t596 t595).f3, (rd_T37 t596 t595).f4, (⟨(rd_T37 t596 t595).f5.f0, (rd_T37 t596 t595).f5.f1, (rd_T37 t596 t595).f5.f2⟩ : S35), (rd_T37 t596 t595).f6, (rd_T37 t596 t595).f7⟩ : S37) : List (S37))).bind fun y599 => ((barrowref01_Sub.f k a2_0 ((rd_T37 t596 t595).f1.f1.f0)).bind fun t600 => ((barrowref01_Add.f k ((rd_T37 t596 t595).f1.f2.f0) t600).bind fun t601 => ((barrowref01_Sub.f k a2_1 ((rd_T37 t596 t595).f1.f1.f1)).bind fun t602 => ((barrowref01_Add.f k ((rd_T37 t596 t595).f1.f2.f1) t602).bind fun t603 => ((some (y599.set (t595).toNat (⟨(rd_T37 y599 t595).f0, (⟨(rd_T37 y599 t595).f1.f0, (⟨(rd_T37 y599 t595).f1.f1.f0, (rd_T37 y599 t595).f1.f1.f1⟩ : S31), (⟨t601, t603⟩ : S31), (rd_T37 y599 t595).f1.f3, (rd_T37 y599 t595).f1.f4⟩ : S33), (rd_T37 y599 t595).f2, (rd_T37 y599 t595).f3, (rd_T37 y599 t595).f4, (⟨(rd_T37 y599 t595).f5.f0, (rd_T37 y599 t595).f5.f1, (rd_T37 y599 t595).f5.f2⟩ : S35), (rd_T37 y599 t595).f6, (rd_T37 y599 t595).f7⟩ : S37) : List (S37))).bind fun y605 => ((barrowref32_Right.f ((rd_T37 y605 t595).f1.f0) ((rd_T37 y605 t595).f1.f1.f0) ((rd_T37 y605 t595).f1.f1.f1) ((rd_T37 y605 t595).f1.f2.f0) ((rd_T37 y605 t595).f1.f2.f1) ((rd_T37 y605 t595).f1.f3) ((rd_T37 y605 t595).f1.f4)).bind fun t607 => (if t607 = true then (some (y605, 0)) else (some (([] : List (S37)), 1)))))))))) else (none)) else (none))))) = some (r1, r2) := h
 clear h
 replace H := Option.bind_eq_some_iff.1 H
 obtain ⟨t595, Hc10, H⟩ := H
 try dsimp only at H
 have Hc1 := Aside0.mk Hc10
 clear Hc10
 by_cases c2 : t595 < 0
 ·rw [if_pos c2] at H
  have c2b0 : decide (t595 < 0) = true := decide_eq_true c2
  clear c2
  simp only [Option.some.injEq, Prod.mk.injEq] at H
  obtain ⟨rfl, rfl⟩ := H
  go_enter Try.func19, Try.ntmps19
  go_wp2_with (first | ((with_reducible refine gate_dst (N := 5) rfl ?_); refine wpList_plain rfl (fun K_ hK_ => ?_); refine op_box (S := S) (cs := #[.int .i64 a2_0, .int .i64 a2_1]) (t := 31) (HF.out.keep HK.out) HS.out (by first | (go_simp; done) | (go_simp; rfl)) ?_; intro g3000073 w3 hs_ hk_; refine hK_ _ _ ?_; clear hK_ K_; replace HS := Aside0.mk (hs_); replace HK := Aside0.mk (HK.out.trans hk_)) | ((with_reducible refine gate_dst (N := 14) rfl ?_); refine goesL_ (some 14) rfl rfl Try.func35 (by kernel_rfl) rfl #[.slice A0 l0.length c0, .int .i64 a1] rfl (by (try simp only [List.map_toArray, List.map_cons, List.map_nil]); first | done | rfl | (simp; done)) ?_; (with_reducible refine (barrowref33_find.calls k _ _ _ _ _ _ (RO.at_ HR0.out HK.out) HC0.out Hc1.out).mono ?_); rintro e_ w4 ⟨rfl, hb_⟩; refine ⟨_, rfl, ?_⟩; replace hb_ := Drawn0.below hb_; replace HS := Aside0.mk (HS.out.below hb_); replace HK := Aside0.mk (HK.out.trans (Keep.below hb_)); have n2_ := Aside0.mk (SL.nil_row k37 37 HS.out); clear HS; have HS := n2_; clear n2_))
  go_ret2
  replace HS := Aside0.mk (SL.tail (SL.get1 HS.out))
  unfold barrowref33_Shift.Post
  exact ⟨none, 0, by first | rfl | (simp; done) | (simp [*]; done) | (simp at c2b0 ⊢; first | exact c2b0 | (simp [c2b0]; done)), HS.out, HK.out⟩
 ·rw [if_neg c2] at H
  have c2b0 : decide (t595 < 0) = false := decide_eq_false c2
  clear c2
  replace H := Option.bind_eq_some_iff.1 H
  obtain ⟨t596, Hc50, H⟩ := H
  try dsimp only at H
  have Hc5 := Aside0.mk Hc50
  clear Hc50
  by_cases c6 : 0 ≤ t595
  ·rw [if_pos c6] at H
   have c6b0 : decide (0 ≤ t595) = true := decide_eq_true c6
   clear c6
   by_cases c7 : t595 < (t596.length : Int)
   ·rw [if_pos c7] at H
    have c7b0 : decide (t595 < (t596.length : Int)) = true := decide_eq_true c7
    clear c7
    replace H := Option.bind_eq_some_iff.1 H
    obtain ⟨y599, hy5990, H⟩ := H
    try dsimp only at H
    have hy599 := Option.some.inj hy5990
    clear hy5990
    have Ny599 := Aside0.mk hy599
    clear hy599
    replace H := Option.bind_eq_some_iff.1 H
    obtain ⟨t600, Hc80, H⟩ := H
    try dsimp only at H
    have Hc8 := Aside0.mk Hc80
    clear Hc80
    replace H := Option.bind_eq_some_iff.1 H
    obtain ⟨t601, Hc90, H⟩ := H
    try dsimp only at H
    have Hc9 := Aside0.mk Hc90
    clear Hc90
    replace H := Option.bind_eq_some_iff.1 H
    obtain ⟨t602, Hc100, H⟩ := H
    try dsimp only at H
    have Hc10 := Aside0.mk Hc100
    clear Hc100
    replace H := Option.bind_eq_some_iff.1 H
    obtain ⟨t603, Hc110, H⟩ := H
    try dsimp only at H
    have Hc11 := Aside0.mk Hc110
    clear Hc110
    replace H := Option.bind_eq_some_iff.1 H
    obtain ⟨y605, hy6050, H⟩ := H
    try dsimp only at H
    have hy605 := Option.some.inj hy6050
    clear hy6050
    have Ny605 := Aside0.mk hy605
    clear hy605
    replace H := Option.bind_eq_some_iff.1 H
    obtain ⟨t607, Hc120, H⟩ := H
    try dsimp only at H
    have Hc12 := Aside0.mk Hc120
    clear Hc120
    have H' := Aside0.mk H
    clear H
    go_enter Try.func19, Try.ntmps19
    try go_wp2_with (first | ((with_reducible refine gate_dst (N := 5) rfl ?_); refine wpList_plain rfl (fun K_ hK_ => ?_); refine op_box (S := S) (cs := #[.int .i64 a2_0, .int .i64 a2_1]) (t := 31) (HF.out.keep HK.out) HS.out (by first | (go_simp; done) | (go_simp; rfl)) ?_; intro g3000073 w13 hs_ hk_; refine hK_ _ _ ?_; clear hK_ K_; replace HS := Aside0.mk (hs_); replace HK := Aside0.mk (HK.out.trans hk_)) | ((with_reducible refine gate_dst (N := 14) rfl ?_); refine goesL_ (some 14) rfl rfl Try.func35 (by kernel_rfl) rfl #[.slice A0 l0.length c0, .int .i64 a1] rfl (by (try simp only [List.map_toArray, List.map_cons, List.map_nil]); first | done | rfl | (simp; done)) ?_; (with_reducible refine (barrowref33_find.calls k _ _ _ _ _ _ (RO.at_ HR0.out HK.out) HC0.out Hc1.out).mono ?_); rintro e_ w14 ⟨rfl, hb_⟩; refine ⟨_, rfl, ?_⟩; replace hb_ := Drawn0.below hb_; replace HS := Aside0.mk (HS.out.below hb_); replace HK := Aside0.mk (HK.out.trans (Keep.below hb_))) | ((with_reducible refine gate_dst (N := 18) rfl ?_); refine goesL_ (some 18) rfl rfl Try.func32 (by kernel_rfl) rfl #[.slice A0 l0.length c0] rfl (by (try simp only [List.map_toArray, List.map_cons, List.map_nil]); first | done | rfl | (simp; done)) ?_; have hs0_ := HS.out; (with_reducible refine (barrowref33_Copy.slcalls _ _ _ _ _ _ _ (HF.out.keep HK.out) hs0_ (HR0.out.keep HK.out) HC0.out Hc5.out).mono ?_); rintro e_ w15 ⟨Az3000074, cz3000074, rfl, hsr_, hkr_⟩; refine ⟨_, rfl, ?_⟩; replace HS := Aside0.mk (hsr_); replace HK := Aside0.mk (HK.out.trans hkr_); have pq597 : 0 ≤ (t595 : Int) := of_decide_eq_true (by first | (with_reducible assumption) | assumption); have qq597 : t595 < ((t596.length : Int) : Int) := of_decide_eq_true (by first | (with_reducible assumption) | assumption); obtain ⟨adq597, eq597, hxq597_0, hxq597_1, hxq597_2, hxq597_3, hxq597_4, hxq597_5, hxq597_6, hxq597_7, hxq597_8, hxq597_9, hxq597_10, hxq597_11, hxq597_12, hxq597_13, hxq597_14, hxq597_15⟩ := at_T37 (SL.row_c HS.out).2.2 t595 pq597 qq597; cases eq597; replace pq597 := eq_true pq597; replace qq597 := eq_true qq597; have hxq597_1_1 := hxq597_2; rw [show ∀ n_ : Nat, n_ + 2 = n_ + 1 + 1 from fun _ => rfl] at hxq597_1_1; have hxq597_1_2 := hxq597_3; rw [show ∀ n_ : Nat, n_ + 3 = n_ + 1 + 2 from fun _ => rfl] at hxq597_1_2; have hxq597_1_3 := hxq597_4; rw [show ∀ n_ : Nat, n_ + 4 = n_ + 1 + 3 from fun _ => rfl] at hxq597_1_3; have hxq597_1_4 := hxq597_5; rw [show ∀ n_ : Nat, n_ + 5 = n_ + 1 + 4 from fun _ => rfl] at hxq597_1_4; have hxq597_1_5 := hxq597_6; rw [show ∀ n_ : Nat, n_ + 6 = n_ + 1 + 5 from fun _ => rfl] at hxq597_1_5; have hxq597_1_6 := hxq597_7; rw [show ∀ n_ : Nat, n_ + 7 = n_ + 1 + 6 from fun _ => rfl] at hxq597_1_6) | ((with_reducible refine gate_dst (N := 10) rfl ?_); refine wpList_plain rfl (fun K_ hK_ => ?_); refine op_box (S := S) (cs := #[.int .i64 0, .int .i64 0, .int .i64 0, .int .i64 0, .int .i64 0, .int .i64 0, .int .i64 0]) (t := 33) (HF.out.keep HK.out) HS.out (by first | (go_simp; done) | (go_simp; rfl)) ?_; intro g3000075 w16 hs_ hk_; refine hK_ _ _ ?_; clear hK_ K_; replace HS := Aside0.mk (hs_); replace HK := Aside0.mk (HK.out.trans hk_)) | ((with_reducible refine gate_store (t := 33) (p := 10) (v := (.tmp 23)) rfl ?_); refine wpList_plain rfl (fun K_ hK_ => ?_); refine op_store (S := S) 33 (.tmp 10) (.tmp 23) rfl g3000075 0 (.agg #[.int .i64 ((rd_T37 t596 t595).f1.f0), .int .i64 ((rd_T37 t596 t595).f1.f1.f0), .int .i64 ((rd_T37 t596 t595).f1.f1.f1), .int .i64 ((rd_T37 t596 t595).f1.f2.f0), .int .i64 ((rd_T37 t596 t595).f1.f2.f1), .int .i64 ((rd_T37 t596 t595).f1.f3), .int .i64 ((rd_T37 t596 t595).f1.f4)]) [.int .i64 ((rd_T37 t596 t595).f1.f0), .int .i64 ((rd_T37 t596 t595).f1.f1.f0), .int .i64 ((rd_T37 t596 t595).f1.f1.f1), .int .i64 ((rd_T37 t596 t595).f1.f2.f0), .int .i64 ((rd_T37 t596 t595).f1.f2.f1), .int .i64 ((rd_T37 t596 t595).f1.f3), .int .i64 ((rd_T37 t596 t595).f1.f4)] rfl rfl rfl (by kernel_rfl) (by simp [Value.oneCell']) HS.out (by simp) ?_; intro w17 hs_ hk_; refine hK_ _ _ ?_; clear hK_ K_; replace HS := Aside0.mk ((show SL (cells g3000075 33 [.int .i64 ((rd_T37 t596 t595).f1.f0), .int .i64 ((rd_T37 t596 t595).f1.f1.f0), .int .i64 ((rd_T37 t596 t595).f1.f1.f1), .int .i64 ((rd_T37 t596 t595).f1.f2.f0), .int .i64 ((rd_T37 t596 t595).f1.f2.f1), .int .i64 ((rd_T37 t596 t595).f1.f3), .int .i64 ((rd_T37 t596 t595).f1.f4)].toArray :: _) _ _ from hs_)); replace HK := Aside0.mk (HK.out.trans hk_); have hb_ := SL.at_ (SL.get2 HS.out); have hz3000073_0_5 := ((blk_cell hb_ 0).trans rfl : _ = some (.int .i64 a2_0)); have hz3000073_1_5 := ((blk_cell hb_ 1).trans rfl : _ = some (.int .i64 a2_1)); clear hb_; have pq598 : 0 ≤ (t595 : Int) := of_decide_eq_true (by first | (with_reducible assumption) | assumption); have qq598 : t595 < ((t596.length : Int) : Int) := of_decide_eq_true (by first | (with_reducible assumption) | assumption); obtain ⟨adq598, eq598, hxq598_0, hxq598_1, hxq598_2, hxq598_3, hxq598_4, hxq598_5, hxq598_6, hxq598_7, hxq598_8, hxq598_9, hxq598_10, hxq598_11, hxq598_12, hxq598_13, hxq598_14, hxq598_15⟩ := at_T37 (SL.row_c (SL.get1 HS.out)).2.2 t595 pq598 qq598; obtain rfl : adq597 = adq598 := (by injection eq598); replace pq598 := eq_true pq598; replace qq598 := eq_true qq598) | ((with_reducible refine gate_store (t := 31) (p := 29) (v := (.tmp 26)) rfl ?_); refine wpList_plain rfl (fun K_ hK_ => ?_); refine op_setF (S := S) (d := k37) ⟨fun h_ => h_⟩ 31 (.tmp 29) (.tmp 26) rfl adq597 (t595) z37 2 [.int .i64 a2_0, .int .i64 a2_1] (.agg #[.int .i64 a2_0, .int .i64 a2_1]) (SL.get1 HS.out) _ (by intro g_ o_ h_; subst h_; first | rfl | (simp [Go.Addr.add]; done) | (simp [Go.Addr.add]; rfl) | (simp [Go.Addr.add]; constructor <;> split <;> simp_all [show k37.sz = 16 from rfl]) | (simp [Go.Addr.add]; split <;> simp_all [show k37.sz = 16 from rfl])) rfl (by rfl) rfl (by kernel_rfl) (by simp [Value.oneCell']) (of_decide_eq_true (by first | (with_reducible assumption) | assumption)) (of_decide_eq_true (by first | (with_reducible assumption) | assumption)) (Nat.le_of_ble_eq_true rfl) (⟨(rd_T37 t596 t595).f0, (⟨(rd_T37 t596 t595).f1.f0, (⟨a2_0, a2_1⟩ : S31), (⟨(rd_T37 t596 t595).f1.f2.f0, (rd_T37 t596 t595).f1.f2.f1⟩ : S31), (rd_T37 t596 t595).f1.f3, (rd_T37 t596 t595).f1.f4⟩ : S33), (rd_T37 t596 t595).f2, (rd_T37 t596 t595).f3, (rd_T37 t596 t595).f4, (⟨(rd_T37 t596 t595).f5.f0, (rd_T37 t596 t595).f5.f1, (rd_T37 t596 t595).f5.f2⟩ : S35), (rd_T37 t596 t595).f6, (rd_T37 t596 t595).f7⟩ : S37) (fun c_ h_ => by obtain rfl := k37_open h_; exact k37_mk _ _) y599 Ny599.out ?_; intro w18 hs_ hk_; refine hK_ _ _ ?_; clear hK_ K_; replace HS := Aside0.mk ((SL.back1 (show SL (row k37 37 (.slice (some adq597) t596.length cz3000074) y599 :: _) _ _ from hs_))); replace HK := Aside0.mk (HK.out.trans hk_); (try clear hz3000073_0_5 hz3000073_1_5)))
    have pq604 : 0 ≤ (t595 : Int) := of_decide_eq_true (by first | (with_reducible assumption) | assumption)
    have qq604 : t595 < ((t596.length : Int) : Int) := of_decide_eq_true (by first | (with_reducible assumption) | assumption)
    obtain ⟨adq604, eq604, hxq604_0, hxq604_1, hxq604_2, hxq604_3, hxq604_4, hxq604_5, hxq604_6, hxq604_7, hxq604_8, hxq604_9, hxq604_10, hxq604_11, hxq604_12, hxq604_13, hxq604_14, hxq604_15⟩ := at_T37 (SL.row_c (SL.get1 HS.out)).2.2 t595 pq604 qq604
    obtain rfl : adq597 = adq604 := (by injection eq604)
    replace pq604 := eq_true pq604
    replace qq604 := eq_true qq604
    refine start_ (n := 27) (S := fun w' => w'.cell? ⟨g3000075, 3, none⟩ = some (.int .i64 ((rd_T37 t596 t595).f1.f2.f0)) ∧ w'.cell? ⟨g3000073, 0, none⟩ = some (.int .i64 a2_0) ∧ w'.cell? ⟨g3000075, 1, none⟩ = some (.int .i64 ((rd_T37 t596 t595).f1.f1.f0)) ∧ w'.cell? (adq597.add (t595.toNat * 16)) = some (.int .i64 ((rd_T37 y599 t595).f0)) ∧ w'.cell? ⟨(adq597.add (t595.toNat * 16)).block, (adq597.add (t595.toNat * 16)).off + 1, none⟩ = some (.int .i64 ((rd_T37 y599 t595).f1.f0)) ∧ w'.cell? ⟨(adq597.add (t595.toNat * 16)).block, (adq597.add (t595.toNat * 16)).off + 2, none⟩ = some (.int .i64 ((rd_T37 y599 t595).f1.f1.f0)) ∧ w'.cell? ⟨(adq597.add (t595.toNat * 16)).block, (adq597.add (t595.toNat * 16)).off + 3, none⟩ = some (.int .i64 ((rd_T37 y599 t595).f1.f1.f1)) ∧ w'.cell? ⟨(adq597.add (t595.toNat * 16)).block, (adq597.add (t595.toNat * 16)).off + 4, none⟩ = some (.int .i64 ((rd_T37 y599 t595).f1.f2.f0)) ∧ w'.cell? ⟨(adq597.add (t595.toNat * 16)).block, (adq597.add (t595.toNat * 16)).off + 5, none⟩ = some (.int .i64 ((rd_T37 y599 t595).f1.f2.f1)) ∧ w'.cell? ⟨(adq597.add (t595.toNat * 16)).block, (adq597.add (t595.toNat * 16)).off + 6, none⟩ = some (.int .i64 ((rd_T37 y599 t595).f1.f3)) ∧ w'.cell? ⟨(adq597.add (t595.toNat * 16)).block, (adq597.add (t595.toNat * 16)).off + 7, none⟩ = some (.int .i64 ((rd_T37 y599 t595).f1.f4)) ∧ w'.cell? ⟨(adq597.add (t595.toNat * 16)).block, (adq597.add (t595.toNat * 16)).off + 8, none⟩ = some (.int .i64 ((rd_T37 y599 t595).f2)) ∧ w'.cell? ⟨(adq597.add (t595.toNat * 16)).block, (adq597.add (t595.toNat * 16)).off + 9, none⟩ = some (.int .i64 ((rd_T37 y599 t595).f3)) ∧ w'.cell? ⟨(adq597.add (t595.toNat * 16)).block, (adq597.add (t595.toNat * 16)).off + 10, none⟩ = some (.int .i64 ((rd_T37 y599 t595).f4)) ∧ w'.cell? ⟨(adq597.add (t595.toNat * 16)).block, (adq597.add (t595.toNat * 16)).off + 11, none⟩ = some (.int .i64 ((rd_T37 y599 t595).f5.f0)) ∧ w'.cell? ⟨(adq597.add (t595.toNat * 16)).block, (adq597.add (t595.toNat * 16)).off + 12, none⟩ = some (.int .i64 ((rd_T37 y599 t595).f5.f1)) ∧ w'.cell? ⟨(adq597.add (t595.toNat * 16)).block, (adq597.add (t595.toNat * 16)).off + 13, none⟩ = some (.int .i64 ((rd_T37 y599 t595).f5.f2)) ∧ w'.cell? ⟨(adq597.add (t595.toNat * 16)).block, (adq597.add (t595.toNat * 16)).off + 14, none⟩ = some (.int .i64 ((rd_T37 y599 t595).f6)) ∧ w'.cell? ⟨(adq597.add (t595.toNat * 16)).block, (adq597.add (t595.toNat * 16)).off + 15, none⟩ = some (.int .i64 ((rd_T37 y599 t595).f7)) ∧ w'.cell? ⟨g3000075, 4, none⟩ = some (.int .i64 ((rd_T37 t596 t595).f1.f2.f1)) ∧ w'.cell? ⟨g3000073, 1, none⟩ = some (.int .i64 a2_1) ∧ w'.cell? ⟨g3000075, 2, none⟩ = some (.int .i64 ((rd_T37 t596 t595).f1.f1.f1))) (ds := [26]) #[O,O,O,O,O,O,O,O,O,O,O,O,O,O,O,O,O,O,O,O,O,O,O,O,O,O,O] (by kernel_rfl) rfl rfl ⟨bc HS.out 3 rfl, bc (SL.get2 HS.out) 0 rfl, bc HS.out 1 rfl, (by obtain ⟨a_, e_, h0_, h1_, h2_, h3_, h4_, h5_, h6_, h7_, h8_, h9_, h10_, h11_, h12_, h13_, h14_, h15_⟩ := at_T37 (SL.row_c (SL.get1 HS.out)).2.2 t595 (of_eq_true pq604) (of_eq_true qq604); obtain rfl := Option.some.inj e_; exact h0_), (by obtain ⟨a_, e_, h0_, h1_, h2_, h3_, h4_, h5_, h6_, h7_, h8_, h9_, h10_, h11_, h12_, h13_, h14_, h15_⟩ := at_T37 (SL.row_c (SL.get1 HS.out)).2.2 t595 (of_eq_true pq604) (of_eq_true qq604); obtain rfl := Option.some.inj e_; exact h1_), (by obtain ⟨a_, e_, h0_, h1_, h2_, h3_, h4_, h5_, h6_, h7_, h8_, h9_, h10_, h11_, h12_, h13_, h14_, h15_⟩ := at_T37 (SL.row_c (SL.get1 HS.out)).2.2 t595 (of_eq_true pq604) (of_eq_true qq604); obtain rfl := Option.some.inj e_; exact h2_), (by obtain ⟨a_, e_, h0_, h1_, h2_, h3_, h4_, h5_, h6_, h7_, h8_, h9_, h10_, h11_, h12_, h13_, h14_, h15_⟩ := at_T37 (SL.row_c (SL.get1 HS.out)).2.2 t595 (of_eq_true pq604) (of_eq_true qq604); obtain rfl := Option.some.inj e_; exact h3_), (by obtain ⟨a_, e_, h0_, h1_, h2_, h3_, h4_, h5_, h6_, h7_, h8_, h9_, h10_, h11_, h12_, h13_, h14_, h15_⟩ := at_T37 (SL.row_c (SL.get1 HS.out)).2.2 t595 (of_eq_true pq604) (of_eq_true qq604); obtain rfl := Option.some.inj e_; exact h4_), (by obtain ⟨a_, e_, h0_, h1_, h2_, h3_, h4_, h5_, h6_, h7_, h8_, h9_, h10_, h11_, h12_, h13_, h14_, h15_⟩ := at_T37 (SL.row_c (SL.get1 HS.out)).2.2 t595 (of_eq_true pq604) (of_eq_true qq604); obtain rfl := Option.some.inj e_; exact h5_), (by obtain ⟨a_, e_, h0_, h1_, h2_, h3_, h4_, h5_, h6_, h7_, h8_, h9_, h10_, h11_, h12_, h13_, h14_, h15_⟩ := at_T37 (SL.row_c (SL.get1 HS.out)).2.2 t595 (of_eq_true pq604) (of_eq_true qq604); obtain rfl := Option.some.inj e_; exact h6_), (by obtain ⟨a_, e_, h0_, h1_, h2_, h3_, h4_, h5_, h6_, h7_, h8_, h9_, h10_, h11_, h12_, h13_, h14_, h15_⟩ := at_T37 (SL.row_c (SL.get1 HS.out)).2.2 t595 (of_eq_true pq604) (of_eq_true qq604); obtain rfl := Option.some.inj e_; exact h7_), (by obtain ⟨a_, e_, h0_, h1_, h2_, h3_, h4_, h5_, h6_, h7_, h8_, h9_, h10_, h11_, h12_, h13_, h14_, h15_⟩ := at_T37 (SL.row_c (SL.get1 HS.out)).2.2 t595 (of_eq_true pq604) (of_eq_true qq604); obtain rfl := Option.some.inj e_; exact h8_), (by obtain ⟨a_, e_, h0_, h1_, h2_, h3_, h4_, h5_, h6_, h7_, h8_, h9_, h10_, h11_, h12_, h13_, h14_, h15_⟩ := at_T37 (SL.row_c (SL.get1 HS.out)).2.2 t595 (of_eq_true pq604) (of_eq_true qq604); obtain rfl := Option.some.inj e_; exact h9_), (by obtain ⟨a_, e_, h0_, h1_, h2_, h3_, h4_, h5_, h6_, h7_, h8_, h9_, h10_, h11_, h12_, h13_, h14_, h15_⟩ := at_T37 (SL.row_c (SL.get1 HS.out)).2.2 t595 (of_eq_true pq604) (of_eq_true qq604); obtain rfl := Option.some.inj e_; exact h10_), (by obtain ⟨a_, e_, h0_, h1_, h2_, h3_, h4_, h5_, h6_, h7_, h8_, h9_, h10_, h11_, h12_, h13_, h14_, h15_⟩ := at_T37 (SL.row_c (SL.get1 HS.out)).2.2 t595 (of_eq_true pq604) (of_eq_true qq604); obtain rfl := Option.some.inj e_; exact h11_), (by obtain ⟨a_, e_, h0_, h1_, h2_, h3_, h4_, h5_, h6_, h7_, h8_, h9_, h10_, h11_, h12_, h13_, h14_, h15_⟩ := at_T37 (SL.row_c (SL.get1 HS.out)).2.2 t595 (of_eq_true pq604) (of_eq_true qq604); obtain rfl := Option.some.inj e_; exact h12_), (by obtain ⟨a_, e_, h0_, h1_, h2_, h3_, h4_, h5_, h6_, h7_, h8_, h9_, h10_, h11_, h12_, h13_, h14_, h15_⟩ := at_T37 (SL.row_c (SL.get1 HS.out)).2.2 t595 (of_eq_true pq604) (of_eq_true qq604); obtain rfl := Option.some.inj e_; exact h13_), (by obtain ⟨a_, e_, h0_, h1_, h2_, h3_, h4_, h5_, h6_, h7_, h8_, h9_, h10_, h11_, h12_, h13_, h14_, h15_⟩ := at_T37 (SL.row_c (SL.get1 HS.out)).2.2 t595 (of_eq_true pq604) (of_eq_true qq604); obtain rfl := Option.some.inj e_; exact h14_), (by obtain ⟨a_, e_, h0_, h1_, h2_, h3_, h4_, h5_, h6_, h7_, h8_, h9_, h10_, h11_, h12_, h13_, h14_, h15_⟩ := at_T37 (SL.row_c (SL.get1 HS.out)).2.2 t595 (of_eq_true pq604) (of_eq_true qq604); obtain rfl := Option.some.inj e_; exact h15_), bc HS.out 4 rfl, bc (SL.get2 HS.out) 1 rfl, bc HS.out 2 rfl⟩ (fun hHeld => ?_); refine with_tabW barrowref33_Shift.tab7 barrowref33_Shift.bits7 (fun HT_ HW_ => ?_)
    replace HK := Aside0.mk (Keep.drew HK.out)
    replace HS := Aside0.mk (SL.drew HS.out)
    refine pure_ (i := 0) (N := some 30) (v := ?_) (a' := ?_) #[I,O,O,O,O,O,O,O,O,O,O,O,O,O,O,O,O,O,O,O,O,O,O,O,O,O,O] rfl rfl (any_of HT_.out (by kernel_rfl)) (fun _ _ _ h => h) (Or.inl ⟨by rfl, ?_⟩) ?_ ?_; rotate_left; · (intro w'; go_simp; with_reducible rfl)
    rotate_left; · (simp only [Act.put, sT, sZ, sS, i64_w, i32_w]; rfl)
    refine pure_ (i := 1) (N := some 31) (v := ?_) (a' := ?_) #[I,I,O,O,O,O,O,O,O,O,O,O,O,O,O,O,O,O,O,O,O,O,O,O,O,O,O] rfl rfl (any_of HT_.out (by kernel_rfl)) (fun _ _ _ h => h) (Or.inl ⟨by rfl, ?_⟩) ?_ ?_; rotate_left; · (intro w'; go_simp; with_reducible rfl)
    rotate_left; · (simp only [Act.put, sT, sZ, sS, i64_w, i32_w]; rfl)
    refine pure_ (i := 2) (N := some 32) (v := ?_) (a' := ?_) #[I,I,I,O,O,O,O,O,O,O,O,O,O,O,O,O,O,O,O,O,O,O,O,O,O,O,O] rfl rfl (any_of HT_.out (by kernel_rfl)) (fun _ _ _ h => h) (Or.inl ⟨by rfl, ?_⟩) ?_ ?_; rotate_left; · (intro w'; go_simp; with_reducible rfl)
    rotate_left; · (simp only [Act.put, sT, sZ, sS, i64_w, i32_w]; rfl)
    refine pure_ (i := 3) (N := some 33) (v := ?_) (a' := ?_) #[I,I,I,I,O,O,O,O,O,O,O,O,O,O,O,O,O,O,O,O,O,O,O,O,O,O,O] rfl rfl (any_of HT_.out (by kernel_rfl)) (fun _ _ _ h => h) (Or.inl ⟨by rfl, ?_⟩) ?_ ?_; rotate_left; · (intro w'; go_simp; with_reducible rfl)
    rotate_left; · (simp only [Act.put, sT, sZ, sS, i64_w, i32_w]; rfl)
    refine pure_ (i := 5) (N := some 35) (v := ?_) (a' := ?_) #[I,I,I,I,O,I,O,O,O,O,O,O,O,O,O,O,O,O,O,O,O,O,O,O,O,O,O] rfl rfl (any_of HT_.out (by kernel_rfl)) (fun _ _ _ h => h) (Or.inl ⟨by rfl, ?_⟩) ?_ ?_; rotate_left; · (intro w'; go_simp; with_reducible rfl)
    rotate_left; · (simp only [Act.put, sT, sZ, sS, i64_w, i32_w]; rfl)
    refine pure_ (i := 7) (N := some 37) (v := ?_) (a' := ?_) #[I,I,I,I,O,I,O,I,O,O,O,O,O,O,O,O,O,O,O,O,O,O,O,O,O,O,O] rfl rfl (any_of HT_.out (by kernel_rfl)) (fun _ _ _ h => h) (Or.inl ⟨by rfl, ?_⟩) ?_ ?_; rotate_left; · (intro w'; go_simp; with_reducible rfl)
    rotate_left; · (simp only [Act.put, sT, sZ, sS, i64_w, i32_w]; rfl)
    refine pure_ (i := 8) (N := some 38) (v := ?_) (a' := ?_) #[I,I,I,I,O,I,O,I,I,O,O,O,O,O,O,O,O,O,O,O,O,O,O,O,O,O,O] rfl rfl (any_of HT_.out (by kernel_rfl)) (fun _ _ _ h => h) (Or.inl ⟨by rfl, ?_⟩) ?_ ?_; rotate_left; · (intro w'; go_simp; with_reducible rfl)
    rotate_left; · (simp only [Act.put, sT, sZ, sS, i64_w, i32_w]; rfl)
    refine pure_ (i := 12) (N := some 42) (v := ?_) (a' := ?_) #[I,I,I,I,O,I,O,I,I,O,O,O,I,O,O,O,O,O,O,O,O,O,O,O,O,O,O] rfl rfl (any_of HT_.out (by kernel_rfl)) (fun _ _ _ h => h) (Or.inl ⟨by rfl, ?_⟩) ?_ ?_; rotate_left; · (intro w'; go_simp; with_reducible rfl)
    rotate_left; · (simp only [Act.put, sT, sZ, sS, i64_w, i32_w]; rfl)
    refine pure_ (i := 13) (N := some 43) (v := ?_) (a' := ?_) #[I,I,I,I,O,I,O,I,I,O,O,O,I,I,O,O,O,O,O,O,O,O,O,O,O,O,O] rfl rfl (any_of HT_.out (by kernel_rfl)) (fun _ _ _ h => h) (Or.inl ⟨by rfl, ?_⟩) ?_ ?_; rotate_left; · (intro w'; go_simp; with_reducible rfl)
    rotate_left; · (simp only [Act.put, sT, sZ, sS, i64_w, i32_w]; rfl)
    refine pure_ (i := 15) (N := some 45) (v := ?_) (a' := ?_) #[I,I,I,I,O,I,O,I,I,O,O,O,I,I,O,I,O,O,O,O,O,O,O,O,O,O,O] rfl rfl (any_of HT_.out (by kernel_rfl)) (fun _ _ _ h => h) (Or.inl ⟨by rfl, ?_⟩) ?_ ?_; rotate_left; · (intro w'; go_simp; with_reducible rfl)
    rotate_left; · (simp only [Act.put, sT, sZ, sS, i64_w, i32_w]; rfl)
    refine pure_ (i := 17) (N := some 47) (v := ?_) (a' := ?_) #[I,I,I,I,O,I,O,I,I,O,O,O,I,I,O,I,O,I,O,O,O,O,O,O,O,O,O] rfl rfl (any_of HT_.out (by kernel_rfl)) (fun _ _ _ h => h) (Or.inl ⟨by rfl, ?_⟩) ?_ ?_; rotate_left; · (intro w'; go_simp; with_reducible rfl)
    rotate_left; · (simp only [Act.put, sT, sZ, sS, i64_w, i32_w]; rfl)
    refine pure_ (i := 18) (N := some 48) (v := ?_) (a' := ?_) #[I,I,I,I,O,I,O,I,I,O,O,O,I,I,O,I,O,I,I,O,O,O,O,O,O,O,O] rfl rfl (any_of HT_.out (by kernel_rfl)) (fun _ _ _ h => h) (Or.inl ⟨by rfl, ?_⟩) ?_ ?_; rotate_left; · (intro w'; go_simp; with_reducible rfl)
    rotate_left; · (simp only [Act.put, sT, sZ, sS, i64_w, i32_w]; rfl)
    refine take_ (i := 4) (N := some 34) (v := ?_) (a' := ?_) #[I,I,I,I,I,I,O,I,I,O,O,O,I,I,O,I,O,I,I,O,O,O,O,O,O,O,O] rfl rfl (take_ofW HT_.out HW_.out (by kernel_rfl)) (fun _ _ _ h => h) (Or.inl ⟨by rfl, ?_⟩) hHeld ?_ ?_; rotate_left
    ·rintro w' ⟨s0, s1, s2, s3, s4, s5, s6, s7, s8, s9, s10, s11, s12, s13, s14, s15, s16, s17, s18, s19, s20, s21⟩
     go_simp
     with_reducible rfl
    rotate_left; · (simp only [Act.put, sT, sZ, sS, i64_w, i32_w]; rfl)
    refine take_ (i := 6) (N := some 36) (v := ?_) (a' := ?_) #[I,I,I,I,I,I,I,I,I,O,O,O,I,I,O,I,O,I,I,O,O,O,O,O,O,O,O] rfl rfl (take_ofW HT_.out HW_.out (by kernel_rfl)) (fun _ _ _ h => h) (Or.inl ⟨by rfl, ?_⟩) hHeld ?_ ?_; rotate_left
    ·rintro w' ⟨s0, s1, s2, s3, s4, s5, s6, s7, s8, s9, s10, s11, s12, s13, s14, s15, s16, s17, s18, s19, s20, s21⟩
     go_simp
     with_reducible rfl
    rotate_left; · (simp only [Act.put, sT, sZ, sS, i64_w, i32_w]; rfl)
    refine take_ (i := 9) (N := some 39) (v := ?_) (a' := ?_) #[I,I,I,I,I,I,I,I,I,I,O,O,I,I,O,I,O,I,I,O,O,O,O,O,O,O,O] rfl rfl (take_ofW HT_.out HW_.out (by kernel_rfl)) (fun _ _ _ h => h) (Or.inl ⟨by rfl, ?_⟩) hHeld ?_ ?_; rotate_left
    ·rintro w' ⟨s0, s1, s2, s3, s4, s5, s6, s7, s8, s9, s10, s11, s12, s13, s14, s15, s16, s17, s18, s19, s20, s21⟩
     go_simp
     with_reducible rfl
    rotate_left; · (simp only [Act.put, sT, sZ, sS, i64_w, i32_w]; rfl)
    refine take_ (i := 14) (N := some 44) (v := ?_) (a' := ?_) #[I,I,I,I,I,I,I,I,I,I,O,O,I,I,I,I,O,I,I,O,O,O,O,O,O,O,O] rfl rfl (take_ofW HT_.out HW_.out (by kernel_rfl)) (fun _ _ _ h => h) (Or.inl ⟨by rfl, ?_⟩) hHeld ?_ ?_; rotate_left
    ·rintro w' ⟨s0, s1, s2, s3, s4, s5, s6, s7, s8, s9, s10, s11, s12, s13, s14, s15, s16, s17, s18, s19, s20, s21⟩
     go_simp
     with_reducible rfl
    rotate_left; · (simp only [Act.put, sT, sZ, sS, i64_w, i32_w]; rfl)
    refine take_ (i := 16) (N := some 46) (v := ?_) (a' := ?_) #[I,I,I,I,I,I,I,I,I,I,O,O,I,I,I,I,I,I,I,O,O,O,O,O,O,O,O] rfl rfl (take_ofW HT_.out HW_.out (by kernel_rfl)) (fun _ _ _ h => h) (Or.inl ⟨by rfl, ?_⟩) hHeld ?_ ?_; rotate_left
    ·rintro w' ⟨s0, s1, s2, s3, s4, s5, s6, s7, s8, s9, s10, s11, s12, s13, s14, s15, s16, s17, s18, s19, s20, s21⟩
     go_simp
     with_reducible rfl
    rotate_left; · (simp only [Act.put, sT, sZ, sS, i64_w, i32_w]; rfl)
    refine take_ (i := 19) (N := some 49) (v := ?_) (a' := ?_) #[I,I,I,I,I,I,I,I,I,I,O,O,I,I,I,I,I,I,I,I,O,O,O,O,O,O,O] rfl rfl (take_ofW HT_.out HW_.out (by kernel_rfl)) (fun _ _ _ h => h) (Or.inl ⟨by rfl, ?_⟩) hHeld ?_ ?_; rotate_left
    ·rintro w' ⟨s0, s1, s2, s3, s4, s5, s6, s7, s8, s9, s10, s11, s12, s13, s14, s15, s16, s17, s18, s19, s20, s21⟩
     go_simp
     with_reducible rfl
    rotate_left; · (simp only [Act.put, sT, sZ, sS, i64_w, i32_w]; rfl)
    refine one_ (i := 10) (N := some 40) #[I,I,I,I,I,I,I,I,I,I,I,O,I,I,I,I,I,I,I,I,O,O,O,O,O,O,O] rfl rfl (one_of HT_.out (by kernel_rfl)) (by decide) (fun K hK => ?_)
    refine goes_ Try.func38 (by kernel_rfl) rfl #[.int .i64 a2_0, .int .i64 ((rd_T37 t596 t595).f1.f1.f0)] (by rfl) rfl rfl (by (try simp only [List.map_toArray, List.map_cons, List.map_nil]); first | done | rfl | (simp; done)) ?_
    (with_reducible refine (barrowref01_Sub.calls k _ _ _ _  Hc8.out).mono ?_)
    rintro e_ w19 ⟨rfl, hb_⟩
    refine ⟨_, rfl, ?_⟩
    replace hb_ := Drawn0.below hb_
    replace HS := Aside0.mk (HS.out.below hb_)
    replace HK := Aside0.mk (HK.out.trans (Keep.below hb_))
    refine hK.out _ _ ⟨bc HS.out 3 rfl, bc (SL.get2 HS.out) 0 rfl, bc HS.out 1 rfl, (by obtain ⟨a_, e_, h0_, h1_, h2_, h3_, h4_, h5_, h6_, h7_, h8_, h9_, h10_, h11_, h12_, h13_, h14_, h15_⟩ := at_T37 (SL.row_c (SL.get1 HS.out)).2.2 t595 (of_eq_true pq604) (of_eq_true qq604); obtain rfl := Option.some.inj e_; exact h0_), (by obtain ⟨a_, e_, h0_, h1_, h2_, h3_, h4_, h5_, h6_, h7_, h8_, h9_, h10_, h11_, h12_, h13_, h14_, h15_⟩ := at_T37 (SL.row_c (SL.get1 HS.out)).2.2 t595 (of_eq_true pq604) (of_eq_true qq604); obtain rfl := Option.some.inj e_; exact h1_), (by obtain ⟨a_, e_, h0_, h1_, h2_, h3_, h4_, h5_, h6_, h7_, h8_, h9_, h10_, h11_, h12_, h13_, h14_, h15_⟩ := at_T37 (SL.row_c (SL.get1 HS.out)).2.2 t595 (of_eq_true pq604) (of_eq_true qq604); obtain rfl := Option.some.inj e_; exact h2_), (by obtain ⟨a_, e_, h0_, h1_, h2_, h3_, h4_, h5_, h6_, h7_, h8_, h9_, h10_, h11_, h12_, h13_, h14_, h15_⟩ := at_T37 (SL.row_c (SL.get1 HS.out)).2.2 t595 (of_eq_true pq604) (of_eq_true qq604); obtain rfl := Option.some.inj e_; exact h3_), (by obtain ⟨a_, e_, h0_, h1_, h2_, h3_, h4_, h5_, h6_, h7_, h8_, h9_, h10_, h11_, h12_, h13_, h14_, h15_⟩ := at_T37 (SL.row_c (SL.get1 HS.out)).2.2 t595 (of_eq_true pq604) (of_eq_true qq604); obtain rfl := Option.some.inj e_; exact h4_), (by obtain ⟨a_, e_, h0_, h1_, h2_, h3_, h4_, h5_, h6_, h7_, h8_, h9_, h10_, h11_, h12_, h13_, h14_, h15_⟩ := at_T37 (SL.row_c (SL.get1 HS.out)).2.2 t595 (of_eq_true pq604) (of_eq_true qq604); obtain rfl := Option.some.inj e_; exact h5_), (by obtain ⟨a_, e_, h0_, h1_, h2_, h3_, h4_, h5_, h6_, h7_, h8_, h9_, h10_, h11_, h12_, h13_, h14_, h15_⟩ := at_T37 (SL.row_c (SL.get1 HS.out)).2.2 t595 (of_eq_true pq604) (of_eq_true qq604); obtain rfl := Option.some.inj e_; exact h6_), (by obtain ⟨a_, e_, h0_, h1_, h2_, h3_, h4_, h5_, h6_, h7_, h8_, h9_, h10_, h11_, h12_, h13_, h14_, h15_⟩ := at_T37 (SL.row_c (SL.get1 HS.out)).2.2 t595 (of_eq_true pq604) (of_eq_true qq604); obtain rfl := Option.some.inj e_; exact h7_), (by obtain ⟨a_, e_, h0_, h1_, h2_, h3_, h4_, h5_, h6_, h7_, h8_, h9_, h10_, h11_, h12_, h13_, h14_, h15_⟩ := at_T37 (SL.row_c (SL.get1 HS.out)).2.2 t595 (of_eq_true pq604) (of_eq_true qq604); obtain rfl := Option.some.inj e_; exact h8_), (by obtain ⟨a_, e_, h0_, h1_, h2_, h3_, h4_, h5_, h6_, h7_, h8_, h9_, h10_, h11_, h12_, h13_, h14_, h15_⟩ := at_T37 (SL.row_c (SL.get1 HS.out)).2.2 t595 (of_eq_true pq604) (of_eq_true qq604); obtain rfl := Option.some.inj e_; exact h9_), (by obtain ⟨a_, e_, h0_, h1_, h2_, h3_, h4_, h5_, h6_, h7_, h8_, h9_, h10_, h11_, h12_, h13_, h14_, h15_⟩ := at_T37 (SL.row_c (SL.get1 HS.out)).2.2 t595 (of_eq_true pq604) (of_eq_true qq604); obtain rfl := Option.some.inj e_; exact h10_), (by obtain ⟨a_, e_, h0_, h1_, h2_, h3_, h4_, h5_, h6_, h7_, h8_, h9_, h10_, h11_, h12_, h13_, h14_, h15_⟩ := at_T37 (SL.row_c (SL.get1 HS.out)).2.2 t595 (of_eq_true pq604) (of_eq_true qq604); obtain rfl := Option.some.inj e_; exact h11_), (by obtain ⟨a_, e_, h0_, h1_, h2_, h3_, h4_, h5_, h6_, h7_, h8_, h9_, h10_, h11_, h12_, h13_, h14_, h15_⟩ := at_T37 (SL.row_c (SL.get1 HS.out)).2.2 t595 (of_eq_true pq604) (of_eq_true qq604); obtain rfl := Option.some.inj e_; exact h12_), (by obtain ⟨a_, e_, h0_, h1_, h2_, h3_, h4_, h5_, h6_, h7_, h8_, h9_, h10_, h11_, h12_, h13_, h14_, h15_⟩ := at_T37 (SL.row_c (SL.get1 HS.out)).2.2 t595 (of_eq_true pq604) (of_eq_true qq604); obtain rfl := Option.some.inj e_; exact h13_), (by obtain ⟨a_, e_, h0_, h1_, h2_, h3_, h4_, h5_, h6_, h7_, h8_, h9_, h10_, h11_, h12_, h13_, h14_, h15_⟩ := at_T37 (SL.row_c (SL.get1 HS.out)).2.2 t595 (of_eq_true pq604) (of_eq_true qq604); obtain rfl := Option.some.inj e_; exact h14_), (by obtain ⟨a_, e_, h0_, h1_, h2_, h3_, h4_, h5_, h6_, h7_, h8_, h9_, h10_, h11_, h12_, h13_, h14_, h15_⟩ := at_T37 (SL.row_c (SL.get1 HS.out)).2.2 t595 (of_eq_true pq604) (of_eq_true qq604); obtain rfl := Option.some.inj e_; exact h15_), bc HS.out 4 rfl, bc (SL.get2 HS.out) 1 rfl, bc HS.out 2 rfl⟩ (fun hHeld => ?_)
    clear hK K
    refine norm_ (a' := ?_) ?_ ?_; rotate_left
    ·show Act.put _ (some 40) _ = _
     simp only [Act.put, sT, sZ, sS, i64_w, i32_w]
     rfl
    refine one_ (i := 11) (N := some 41) #[I,I,I,I,I,I,I,I,I,I,I,I,I,I,I,I,I,I,I,I,O,O,O,O,O,O,O] rfl rfl (one_of HT_.out (by kernel_rfl)) (by decide) (fun K hK => ?_)
    refine goes_ Try.func28 (by kernel_rfl) rfl #[.int .i64 ((rd_T37 t596 t595).f1.f2.f0), .int .i64 t600] (by rfl) rfl rfl (by (try simp only [List.map_toArray, List.map_cons, List.map_nil]); first | done | rfl | (simp; done)) ?_
    (with_reducible refine (barrowref01_Add.calls k _ _ _ _  Hc9.out).mono ?_)
    rintro e_ w20 ⟨rfl, hb_⟩
    refine ⟨_, rfl, ?_⟩
    replace hb_ := Drawn0.below hb_
    replace HS := Aside0.mk (HS.out.below hb_)
    replace HK := Aside0.mk (HK.out.trans (Keep.below hb_))
    refine hK.out _ _ ⟨bc HS.out 3 rfl, bc (SL.get2 HS.out) 0 rfl, bc HS.out 1 rfl, (by obtain ⟨a_, e_, h0_, h1_, h2_, h3_, h4_, h5_, h6_, h7_, h8_, h9_, h10_, h11_, h12_, h13_, h14_, h15_⟩ := at_T37 (SL.row_c (SL.get1 HS.out)).2.2 t595 (of_eq_true pq604) (of_eq_true qq604); obtain rfl := Option.some.inj e_; exact h0_), (by obtain ⟨a_, e_, h0_, h1_, h2_, h3_, h4_, h5_, h6_, h7_, h8_, h9_, h10_, h11_, h12_, h13_, h14_, h15_⟩ := at_T37 (SL.row_c (SL.get1 HS.out)).2.2 t595 (of_eq_true pq604) (of_eq_true qq604); obtain rfl := Option.some.inj e_; exact h1_), (by obtain ⟨a_, e_, h0_, h1_, h2_, h3_, h4_, h5_, h6_, h7_, h8_, h9_, h10_, h11_, h12_, h13_, h14_, h15_⟩ := at_T37 (SL.row_c (SL.get1 HS.out)).2.2 t595 (of_eq_true pq604) (of_eq_true qq604); obtain rfl := Option.some.inj e_; exact h2_), (by obtain ⟨a_, e_, h0_, h1_, h2_, h3_, h4_, h5_, h6_, h7_, h8_, h9_, h10_, h11_, h12_, h13_, h14_, h15_⟩ := at_T37 (SL.row_c (SL.get1 HS.out)).2.2 t595 (of_eq_true pq604) (of_eq_true qq604); obtain rfl := Option.some.inj e_; exact h3_), (by obtain ⟨a_, e_, h0_, h1_, h2_, h3_, h4_, h5_, h6_, h7_, h8_, h9_, h10_, h11_, h12_, h13_, h14_, h15_⟩ := at_T37 (SL.row_c (SL.get1 HS.out)).2.2 t595 (of_eq_true pq604) (of_eq_true qq604); obtain rfl := Option.some.inj e_; exact h4_), (by obtain ⟨a_, e_, h0_, h1_, h2_, h3_, h4_, h5_, h6_, h7_, h8_, h9_, h10_, h11_, h12_, h13_, h14_, h15_⟩ := at_T37 (SL.row_c (SL.get1 HS.out)).2.2 t595 (of_eq_true pq604) (of_eq_true qq604); obtain rfl := Option.some.inj e_; exact h5_), (by obtain ⟨a_, e_, h0_, h1_, h2_, h3_, h4_, h5_, h6_, h7_, h8_, h9_, h10_, h11_, h12_, h13_, h14_, h15_⟩ := at_T37 (SL.row_c (SL.get1 HS.out)).2.2 t595 (of_eq_true pq604) (of_eq_true qq604); obtain rfl := Option.some.inj e_; exact h6_), (by obtain ⟨a_, e_, h0_, h1_, h2_, h3_, h4_, h5_, h6_, h7_, h8_, h9_, h10_, h11_, h12_, h13_, h14_, h15_⟩ := at_T37 (SL.row_c (SL.get1 HS.out)).2.2 t595 (of_eq_true pq604) (of_eq_true qq604); obtain rfl := Option.some.inj e_; exact h7_), (by obtain ⟨a_, e_, h0_, h1_, h2_, h3_, h4_, h5_, h6_, h7_, h8_, h9_, h10_, h11_, h12_, h13_, h14_, h15_⟩ := at_T37 (SL.row_c (SL.get1 HS.out)).2.2 t595 (of_eq_true pq604) (of_eq_true qq604); obtain rfl := Option.some.inj e_; exact h8_), (by obtain ⟨a_, e_, h0_, h1_, h2_, h3_, h4_, h5_, h6_, h7_, h8_, h9_, h10_, h11_, h12_, h13_, h14_, h15_⟩ := at_T37 (SL.row_c (SL.get1 HS.out)).2.2 t595 (of_eq_true pq604) (of_eq_true qq604); obtain rfl := Option.some.inj e_; exact h9_), (by obtain ⟨a_, e_, h0_, h1_, h2_, h3_, h4_, h5_, h6_, h7_, h8_, h9_, h10_, h11_, h12_, h13_, h14_, h15_⟩ := at_T37 (SL.row_c (SL.get1 HS.out)).2.2 t595 (of_eq_true pq604) (of_eq_true qq604); obtain rfl := Option.some.inj e_; exact h10_), (by obtain ⟨a_, e_, h0_, h1_, h2_, h3_, h4_, h5_, h6_, h7_, h8_, h9_, h10_, h11_, h12_, h13_, h14_, h15_⟩ := at_T37 (SL.row_c (SL.get1 HS.out)).2.2 t595 (of_eq_true pq604) (of_eq_true qq604); obtain rfl := Option.some.inj e_; exact h11_), (by obtain ⟨a_, e_, h0_, h1_, h2_, h3_, h4_, h5_, h6_, h7_, h8_, h9_, h10_, h11_, h12_, h13_, h14_, h15_⟩ := at_T37 (SL.row_c (SL.get1 HS.out)).2.2 t595 (of_eq_true pq604) (of_eq_true qq604); obtain rfl := Option.some.inj e_; exact h12_), (by obtain ⟨a_, e_, h0_, h1_, h2_, h3_, h4_, h5_, h6_, h7_, h8_, h9_, h10_, h11_, h12_, h13_, h14_, h15_⟩ := at_T37 (SL.row_c (SL.get1 HS.out)).2.2 t595 (of_eq_true pq604) (of_eq_true qq604); obtain rfl := Option.some.inj e_; exact h13_), (by obtain ⟨a_, e_, h0_, h1_, h2_, h3_, h4_, h5_, h6_, h7_, h8_, h9_, h10_, h11_, h12_, h13_, h14_, h15_⟩ := at_T37 (SL.row_c (SL.get1 HS.out)).2.2 t595 (of_eq_true pq604) (of_eq_true qq604); obtain rfl := Option.some.inj e_; exact h14_), (by obtain ⟨a_, e_, h0_, h1_, h2_, h3_, h4_, h5_, h6_, h7_, h8_, h9_, h10_, h11_, h12_, h13_, h14_, h15_⟩ := at_T37 (SL.row_c (SL.get1 HS.out)).2.2 t595 (of_eq_true pq604) (of_eq_true qq604); obtain rfl := Option.some.inj e_; exact h15_), bc HS.out 4 rfl, bc (SL.get2 HS.out) 1 rfl, bc HS.out 2 rfl⟩ (fun hHeld => ?_)
    clear hK K
    refine norm_ (a' := ?_) ?_ ?_; rotate_left
    ·show Act.put _ (some 41) _ = _
     simp only [Act.put, sT, sZ, sS, i64_w, i32_w]
     rfl
    refine one_ (i := 20) (N := some 50) #[I,I,I,I,I,I,I,I,I,I,I,I,I,I,I,I,I,I,I,I,I,O,O,O,O,O,O] rfl rfl (one_of HT_.out (by kernel_rfl)) (by decide) (fun K hK => ?_)
    refine goes_ Try.func38 (by kernel_rfl) rfl #[.int .i64 a2_1, .int .i64 ((rd_T37 t596 t595).f1.f1.f1)] (by rfl) rfl rfl (by (try simp only [List.map_toArray, List.map_cons, List.map_nil]); first | done | rfl | (simp; done)) ?_
    (with_reducible refine (barrowref01_Sub.calls k _ _ _ _  Hc10.out).mono ?_)
    rintro e_ w21 ⟨rfl, hb_⟩
    refine ⟨_, rfl, ?_⟩
    replace hb_ := Drawn0.below hb_
    replace HS := Aside0.mk (HS.out.below hb_)
    replace HK := Aside0.mk (HK.out.trans (Keep.below hb_))
    refine hK.out _ _ ⟨bc HS.out 3 rfl, bc (SL.get2 HS.out) 0 rfl, bc HS.out 1 rfl, (by obtain ⟨a_, e_, h0_, h1_, h2_, h3_, h4_, h5_, h6_, h7_, h8_, h9_, h10_, h11_, h12_, h13_, h14_, h15_⟩ := at_T37 (SL.row_c (SL.get1 HS.out)).2.2 t595 (of_eq_true pq604) (of_eq_true qq604); obtain rfl := Option.some.inj e_; exact h0_), (by obtain ⟨a_, e_, h0_, h1_, h2_, h3_, h4_, h5_, h6_, h7_, h8_, h9_, h10_, h11_, h12_, h13_, h14_, h15_⟩ := at_T37 (SL.row_c (SL.get1 HS.out)).2.2 t595 (of_eq_true pq604) (of_eq_true qq604); obtain rfl := Option.some.inj e_; exact h1_), (by obtain ⟨a_, e_, h0_, h1_, h2_, h3_, h4_, h5_, h6_, h7_, h8_, h9_, h10_, h11_, h12_, h13_, h14_, h15_⟩ := at_T37 (SL.row_c (SL.get1 HS.out)).2.2 t595 (of_eq_true pq604) (of_eq_true qq604); obtain rfl := Option.some.inj e_; exact h2_), (by obtain ⟨a_, e_, h0_, h1_, h2_, h3_, h4_, h5_, h6_, h7_, h8_, h9_, h10_, h11_, h12_, h13_, h14_, h15_⟩ := at_T37 (SL.row_c (SL.get1 HS.out)).2.2 t595 (of_eq_true pq604) (of_eq_true qq604); obtain rfl := Option.some.inj e_; exact h3_), (by obtain ⟨a_, e_, h0_, h1_, h2_, h3_, h4_, h5_, h6_, h7_, h8_, h9_, h10_, h11_, h12_, h13_, h14_, h15_⟩ := at_T37 (SL.row_c (SL.get1 HS.out)).2.2 t595 (of_eq_true pq604) (of_eq_true qq604); obtain rfl := Option.some.inj e_; exact h4_), (by obtain ⟨a_, e_, h0_, h1_, h2_, h3_, h4_, h5_, h6_, h7_, h8_, h9_, h10_, h11_, h12_, h13_, h14_, h15_⟩ := at_T37 (SL.row_c (SL.get1 HS.out)).2.2 t595 (of_eq_true pq604) (of_eq_true qq604); obtain rfl := Option.some.inj e_; exact h5_), (by obtain ⟨a_, e_, h0_, h1_, h2_, h3_, h4_, h5_, h6_, h7_, h8_, h9_, h10_, h11_, h12_, h13_, h14_, h15_⟩ := at_T37 (SL.row_c (SL.get1 HS.out)).2.2 t595 (of_eq_true pq604) (of_eq_true qq604); obtain rfl := Option.some.inj e_; exact h6_), (by obtain ⟨a_, e_, h0_, h1_, h2_, h3_, h4_, h5_, h6_, h7_, h8_, h9_, h10_, h11_, h12_, h13_, h14_, h15_⟩ := at_T37 (SL.row_c (SL.get1 HS.out)).2.2 t595 (of_eq_true pq604) (of_eq_true qq604); obtain rfl := Option.some.inj e_; exact h7_), (by obtain ⟨a_, e_, h0_, h1_, h2_, h3_, h4_, h5_, h6_, h7_, h8_, h9_, h10_, h11_, h12_, h13_, h14_, h15_⟩ := at_T37 (SL.row_c (SL.get1 HS.out)).2.2 t595 (of_eq_true pq604) (of_eq_true qq604); obtain rfl := Option.some.inj e_; exact h8_), (by obtain ⟨a_, e_, h0_, h1_, h2_, h3_, h4_, h5_, h6_, h7_, h8_, h9_, h10_, h11_, h12_, h13_, h14_, h15_⟩ := at_T37 (SL.row_c (SL.get1 HS.out)).2.2 t595 (of_eq_true pq604) (of_eq_true qq604); obtain rfl := Option.some.inj e_; exact h9_), (by obtain ⟨a_, e_, h0_, h1_, h2_, h3_, h4_, h5_, h6_, h7_, h8_, h9_, h10_, h11_, h12_, h13_, h14_, h15_⟩ := at_T37 (SL.row_c (SL.get1 HS.out)).2.2 t595 (of_eq_true pq604) (of_eq_true qq604); obtain rfl := Option.some.inj e_; exact h10_), (by obtain ⟨a_, e_, h0_, h1_, h2_, h3_, h4_, h5_, h6_, h7_, h8_, h9_, h10_, h11_, h12_, h13_, h14_, h15_⟩ := at_T37 (SL.row_c (SL.get1 HS.out)).2.2 t595 (of_eq_true pq604) (of_eq_true qq604); obtain rfl := Option.some.inj e_; exact h11_), (by obtain ⟨a_, e_, h0_, h1_, h2_, h3_, h4_, h5_, h6_, h7_, h8_, h9_, h10_, h11_, h12_, h13_, h14_, h15_⟩ := at_T37 (SL.row_c (SL.get1 HS.out)).2.2 t595 (of_eq_true pq604) (of_eq_true qq604); obtain rfl := Option.some.inj e_; exact h12_), (by obtain ⟨a_, e_, h0_, h1_, h2_, h3_, h4_, h5_, h6_, h7_, h8_, h9_, h10_, h11_, h12_, h13_, h14_, h15_⟩ := at_T37 (SL.row_c (SL.get1 HS.out)).2.2 t595 (of_eq_true pq604) (of_eq_true qq604); obtain rfl := Option.some.inj e_; exact h13_), (by obtain ⟨a_, e_, h0_, h1_, h2_, h3_, h4_, h5_, h6_, h7_, h8_, h9_, h10_, h11_, h12_, h13_, h14_, h15_⟩ := at_T37 (SL.row_c (SL.get1 HS.out)).2.2 t595 (of_eq_true pq604) (of_eq_true qq604); obtain rfl := Option.some.inj e_; exact h14_), (by obtain ⟨a_, e_, h0_, h1_, h2_, h3_, h4_, h5_, h6_, h7_, h8_, h9_, h10_, h11_, h12_, h13_, h14_, h15_⟩ := at_T37 (SL.row_c (SL.get1 HS.out)).2.2 t595 (of_eq_true pq604) (of_eq_true qq604); obtain rfl := Option.some.inj e_; exact h15_), bc HS.out 4 rfl, bc (SL.get2 HS.out) 1 rfl, bc HS.out 2 rfl⟩ (fun hHeld => ?_)
    clear hK K
    refine norm_ (a' := ?_) ?_ ?_; rotate_left
    ·show Act.put _ (some 50) _ = _
     simp only [Act.put, sT, sZ, sS, i64_w, i32_w]
     rfl
    refine one_ (i := 21) (N := some 51) #[I,I,I,I,I,I,I,I,I,I,I,I,I,I,I,I,I,I,I,I,I,I,O,O,O,O,O] rfl rfl (one_of HT_.out (by kernel_rfl)) (by decide) (fun K hK => ?_)
    refine goes_ Try.func28 (by kernel_rfl) rfl #[.int .i64 ((rd_T37 t596 t595).f1.f2.f1), .int .i64 t602] (by rfl) rfl rfl (by (try simp only [List.map_toArray, List.map_cons, List.map_nil]); first | done | rfl | (simp; done)) ?_
    (with_reducible refine (barrowref01_Add.calls k _ _ _ _  Hc11.out).mono ?_)
    rintro e_ w22 ⟨rfl, hb_⟩
    refine ⟨_, rfl, ?_⟩
    replace hb_ := Drawn0.below hb_
    replace HS := Aside0.mk (HS.out.below hb_)
    replace HK := Aside0.mk (HK.out.trans (Keep.below hb_))
    refine hK.out _ _ ⟨bc HS.out 3 rfl, bc (SL.get2 HS.out) 0 rfl, bc HS.out 1 rfl, (by obtain ⟨a_, e_, h0_, h1_, h2_, h3_, h4_, h5_, h6_, h7_, h8_, h9_, h10_, h11_, h12_, h13_, h14_, h15_⟩ := at_T37 (SL.row_c (SL.get1 HS.out)).2.2 t595 (of_eq_true pq604) (of_eq_true qq604); obtain rfl := Option.some.inj e_; exact h0_), (by obtain ⟨a_, e_, h0_, h1_, h2_, h3_, h4_, h5_, h6_, h7_, h8_, h9_, h10_, h11_, h12_, h13_, h14_, h15_⟩ := at_T37 (SL.row_c (SL.get1 HS.out)).2.2 t595 (of_eq_true pq604) (of_eq_true qq604); obtain rfl := Option.some.inj e_; exact h1_), (by obtain ⟨a_, e_, h0_, h1_, h2_, h3_, h4_, h5_, h6_, h7_, h8_, h9_, h10_, h11_, h12_, h13_, h14_, h15_⟩ := at_T37 (SL.row_c (SL.get1 HS.out)).2.2 t595 (of_eq_true pq604) (of_eq_true qq604); obtain rfl := Option.some.inj e_; exact h2_), (by obtain ⟨a_, e_, h0_, h1_, h2_, h3_, h4_, h5_, h6_, h7_, h8_, h9_, h10_, h11_, h12_, h13_, h14_, h15_⟩ := at_T37 (SL.row_c (SL.get1 HS.out)).2.2 t595 (of_eq_true pq604) (of_eq_true qq604); obtain rfl := Option.some.inj e_; exact h3_), (by obtain ⟨a_, e_, h0_, h1_, h2_, h3_, h4_, h5_, h6_, h7_, h8_, h9_, h10_, h11_, h12_, h13_, h14_, h15_⟩ := at_T37 (SL.row_c (SL.get1 HS.out)).2.2 t595 (of_eq_true pq604) (of_eq_true qq604); obtain rfl := Option.some.inj e_; exact h4_), (by obtain ⟨a_, e_, h0_, h1_, h2_, h3_, h4_, h5_, h6_, h7_, h8_, h9_, h10_, h11_, h12_, h13_, h14_, h15_⟩ := at_T37 (SL.row_c (SL.get1 HS.out)).2.2 t595 (of_eq_true pq604) (of_eq_true qq604); obtain rfl := Option.some.inj e_; exact h5_), (by obtain ⟨a_, e_, h0_, h1_, h2_, h3_, h4_, h5_, h6_, h7_, h8_, h9_, h10_, h11_, h12_, h13_, h14_, h15_⟩ := at_T37 (SL.row_c (SL.get1 HS.out)).2.2 t595 (of_eq_true pq604) (of_eq_true qq604); obtain rfl := Option.some.inj e_; exact h6_), (by obtain ⟨a_, e_, h0_, h1_, h2_, h3_, h4_, h5_, h6_, h7_, h8_, h9_, h10_, h11_, h12_, h13_, h14_, h15_⟩ := at_T37 (SL.row_c (SL.get1 HS.out)).2.2 t595 (of_eq_true pq604) (of_eq_true qq604); obtain rfl := Option.some.inj e_; exact h7_), (by obtain ⟨a_, e_, h0_, h1_, h2_, h3_, h4_, h5_, h6_, h7_, h8_, h9_, h10_, h11_, h12_, h13_, h14_, h15_⟩ := at_T37 (SL.row_c (SL.get1 HS.out)).2.2 t595 (of_eq_true pq604) (of_eq_true qq604); obtain rfl := Option.some.inj e_; exact h8_), (by obtain ⟨a_, e_, h0_, h1_, h2_, h3_, h4_, h5_, h6_, h7_, h8_, h9_, h10_, h11_, h12_, h13_, h14_, h15_⟩ := at_T37 (SL.row_c (SL.get1 HS.out)).2.2 t595 (of_eq_true pq604) (of_eq_true qq604); obtain rfl := Option.some.inj e_; exact h9_), (by obtain ⟨a_, e_, h0_, h1_, h2_, h3_, h4_, h5_, h6_, h7_, h8_, h9_, h10_, h11_, h12_, h13_, h14_, h15_⟩ := at_T37 (SL.row_c (SL.get1 HS.out)).2.2 t595 (of_eq_true pq604) (of_eq_true qq604); obtain rfl := Option.some.inj e_; exact h10_), (by obtain ⟨a_, e_, h0_, h1_, h2_, h3_, h4_, h5_, h6_, h7_, h8_, h9_, h10_, h11_, h12_, h13_, h14_, h15_⟩ := at_T37 (SL.row_c (SL.get1 HS.out)).2.2 t595 (of_eq_true pq604) (of_eq_true qq604); obtain rfl := Option.some.inj e_; exact h11_), (by obtain ⟨a_, e_, h0_, h1_, h2_, h3_, h4_, h5_, h6_, h7_, h8_, h9_, h10_, h11_, h12_, h13_, h14_, h15_⟩ := at_T37 (SL.row_c (SL.get1 HS.out)).2.2 t595 (of_eq_true pq604) (of_eq_true qq604); obtain rfl := Option.some.inj e_; exact h12_), (by obtain ⟨a_, e_, h0_, h1_, h2_, h3_, h4_, h5_, h6_, h7_, h8_, h9_, h10_, h11_, h12_, h13_, h14_, h15_⟩ := at_T37 (SL.row_c (SL.get1 HS.out)).2.2 t595 (of_eq_true pq604) (of_eq_true qq604); obtain rfl := Option.some.inj e_; exact h13_), (by obtain ⟨a_, e_, h0_, h1_, h2_, h3_, h4_, h5_, h6_, h7_, h8_, h9_, h10_, h11_, h12_, h13_, h14_, h15_⟩ := at_T37 (SL.row_c (SL.get1 HS.out)).2.2 t595 (of_eq_true pq604) (of_eq_true qq604); obtain rfl := Option.some.inj e_; exact h14_), (by obtain ⟨a_, e_, h0_, h1_, h2_, h3_, h4_, h5_, h6_, h7_, h8_, h9_, h10_, h11_, h12_, h13_, h14_, h15_⟩ := at_T37 (SL.row_c (SL.get1 HS.out)).2.2 t595 (of_eq_true pq604) (of_eq_true qq604); obtain rfl := Option.some.inj e_; exact h15_), bc HS.out 4 rfl, bc (SL.get2 HS.out) 1 rfl, bc HS.out 2 rfl⟩ (fun hHeld => ?_)
    clear hK K
    refine norm_ (a' := ?_) ?_ ?_; rotate_left
    ·show Act.put _ (some 51) _ = _
     simp only [Act.put, sT, sZ, sS, i64_w, i32_w]
     rfl
    refine pure_ (i := 22) (N := some 52) (v := ?_) (a' := ?_) #[I,I,I,I,I,I,I,I,I,I,I,I,I,I,I,I,I,I,I,I,I,I,I,O,O,O,O] rfl rfl (any_of HT_.out (by kernel_rfl)) (fun _ _ _ h => h) (Or.inl ⟨by rfl, ?_⟩) ?_ ?_; rotate_left; · (intro w'; go_simp; with_reducible rfl)
    rotate_left; · (simp only [Act.put, sT, sZ, sS, i64_w, i32_w]; rfl)
    refine pure_ (i := 23) (N := some 53) (v := ?_) (a' := ?_) #[I,I,I,I,I,I,I,I,I,I,I,I,I,I,I,I,I,I,I,I,I,I,I,I,O,O,O] rfl rfl (any_of HT_.out (by kernel_rfl)) (fun _ _ _ h => h) (Or.inl ⟨by rfl, ?_⟩) ?_ ?_; rotate_left; · (intro w'; go_simp; with_reducible rfl)
    rotate_left; · (simp only [Act.put, sT, sZ, sS, i64_w, i32_w]; rfl)
    refine pure_ (i := 24) (N := some 54) (v := ?_) (a' := ?_) #[I,I,I,I,I,I,I,I,I,I,I,I,I,I,I,I,I,I,I,I,I,I,I,I,I,O,O] rfl rfl (any_of HT_.out (by kernel_rfl)) (fun _ _ _ h => h) (Or.inl ⟨by rfl, ?_⟩) ?_ ?_; rotate_left; · (intro w'; go_simp; with_reducible rfl)
    rotate_left; · (simp only [Act.put, sT, sZ, sS, i64_w, i32_w]; rfl)
    refine pure_ (i := 25) (N := some 55) (v := ?_) (a' := ?_) #[I,I,I,I,I,I,I,I,I,I,I,I,I,I,I,I,I,I,I,I,I,I,I,I,I,I,O] rfl rfl (any_of HT_.out (by kernel_rfl)) (fun _ _ _ h => h) (Or.inl ⟨by rfl, ?_⟩) ?_ ?_; rotate_left; · (intro w'; go_simp; with_reducible rfl)
    rotate_left; · (simp only [Act.put, sT, sZ, sS, i64_w, i32_w]; rfl)
    refine last_ (i := 26) (N := none) #[I,I,I,I,I,I,I,I,I,I,I,I,I,I,I,I,I,I,I,I,I,I,I,I,I,I,I] rfl rfl (one_of HT_.out (by kernel_rfl)) (by decide) (fun K hK => ?_)
    refine st_of (by rfl) ?_
    refine op_setF (S := S) (d := k37) ⟨fun h_ => h_⟩ 31 (.tmp 55) (.tmp 52) rfl adq597 (t595) z37 4 [.int .i64 t601, .int .i64 t603] (.agg #[.int .i64 t601, .int .i64 t603]) (SL.get1 HS.out) _ (by intro g_ o_ h_; subst h_; first | rfl | (simp [Go.Addr.add]; done) | (simp [Go.Addr.add]; rfl) | (simp [Go.Addr.add]; constructor <;> split <;> simp_all [show k37.sz = 16 from rfl]) | (simp [Go.Addr.add]; split <;> simp_all [show k37.sz = 16 from rfl])) rfl (by rfl) rfl (by kernel_rfl) (by simp [Value.oneCell']) (of_decide_eq_true (by first | (with_reducible assumption) | assumption)) (of_decide_eq_true (by first | (with_reducible assumption) | assumption)) (Nat.le_of_ble_eq_true rfl) (⟨(rd_T37 y599 t595).f0, (⟨(rd_T37 y599 t595).f1.f0, (⟨(rd_T37 y599 t595).f1.f1.f0, (rd_T37 y599 t595).f1.f1.f1⟩ : S31), (⟨t601, t603⟩ : S31), (rd_T37 y599 t595).f1.f3, (rd_T37 y599 t595).f1.f4⟩ : S33), (rd_T37 y599 t595).f2, (rd_T37 y599 t595).f3, (rd_T37 y599 t595).f4, (⟨(rd_T37 y599 t595).f5.f0, (rd_T37 y599 t595).f5.f1, (rd_T37 y599 t595).f5.f2⟩ : S35), (rd_T37 y599 t595).f6, (rd_T37 y599 t595).f7⟩ : S37) (fun c_ h_ => by obtain rfl := k37_open h_; exact k37_mk _ _) y605 Ny605.out ?_
    intro w23 hs_ hk_
    replace HS := Aside0.mk ((SL.back1 (show SL (row k37 37 (.slice (some adq597) t596.length cz3000074) y605 :: _) _ _ from hs_)))
    replace HK := Aside0.mk (HK.out.trans hk_)
    refine hK.out _ _ ?_
    clear hK K
    refine done_ (done_of HT_.out (by kernel_rfl)) ?_
    have pq606 : 0 ≤ (t595 : Int) := of_decide_eq_true (by first | (with_reducible assumption) | assumption)
    have qq606 : t595 < ((t596.length : Int) : Int) := of_decide_eq_true (by first | (with_reducible assumption) | assumption)
    obtain ⟨adq606, eq606, hxq606_0, hxq606_1, hxq606_2, hxq606_3, hxq606_4, hxq606_5, hxq606_6, hxq606_7, hxq606_8, hxq606_9, hxq606_10, hxq606_11, hxq606_12, hxq606_13, hxq606_14, hxq606_15⟩ := at_T37 (SL.row_c (SL.get1 HS.out)).2.2 t595 pq606 qq606
    obtain rfl : adq597 = adq606 := (by injection eq606)
    replace pq606 := eq_true pq606
    replace qq606 := eq_true qq606
    have hxq606_1_1 := hxq606_2; rw [show ∀ n_ : Nat, n_ + 2 = n_ + 1 + 1 from fun _ => rfl] at hxq606_1_1
    have hxq606_1_2 := hxq606_3; rw [show ∀ n_ : Nat, n_ + 3 = n_ + 1 + 2 from fun _ => rfl] at hxq606_1_2
    have hxq606_1_3 := hxq606_4; rw [show ∀ n_ : Nat, n_ + 4 = n_ + 1 + 3 from fun _ => rfl] at hxq606_1_3
    have hxq606_1_4 := hxq606_5; rw [show ∀ n_ : Nat, n_ + 5 = n_ + 1 + 4 from fun _ => rfl] at hxq606_1_4
    have hxq606_1_5 := hxq606_6; rw [show ∀ n_ : Nat, n_ + 6 = n_ + 1 + 5 from fun _ => rfl] at hxq606_1_5
    have hxq606_1_6 := hxq606_7; rw [show ∀ n_ : Nat, n_ + 7 = n_ + 1 + 6 from fun _ => rfl] at hxq606_1_6
    try go_wp2_with (first | ((with_reducible refine gate_dst (N := 61) rfl ?_); refine goesL_ (some 61) rfl rfl Try.func39 (by kernel_rfl) rfl #[.agg #[.int .i64 ((rd_T37 y605 t595).f1.f0), .int .i64 ((rd_T37 y605 t595).f1.f1.f0), .int .i64 ((rd_T37 y605 t595).f1.f1.f1), .int .i64 ((rd_T37 y605 t595).f1.f2.f0), .int .i64 ((rd_T37 y605 t595).f1.f2.f1), .int .i64 ((rd_T37 y605 t595).f1.f3), .int .i64 ((rd_T37 y605 t595).f1.f4)]] rfl (by (try simp only [List.map_toArray, List.map_cons, List.map_nil]); first | done | rfl | (simp; done)) ?_; (with_reducible refine (barrowref32_Right.calls _ _ _ _ _ _ _ _ _  Hc12.out).mono ?_); rintro e_ w24 ⟨rfl, hb_⟩; refine ⟨_, rfl, ?_⟩; replace HS := Aside0.mk (HS.out.below hb_); replace HK := Aside0.mk (HK.out.trans (Keep.below hb_)); refine stop_ ?_; intro G_ hG_))
    have H := H'.out
    clear H'
    by_cases c25 : t607 = true
    ·subst c25
     rw [if_pos rfl] at H
     simp only [Option.some.injEq, Prod.mk.injEq] at H
     obtain ⟨rfl, rfl⟩ := H
     refine hG_.out ?_
     go_wp2
     go_ret2
     replace HS := Aside0.mk (SL.tail (SL.get1 (SL.tail HS.out)))
     unfold barrowref33_Shift.Post
     have el26 := Aside0.mk (SL.row_c HS.out).1
     replace HS := Aside0.mk (SL.row_len HS.out)
     exact ⟨(some adq597), cz3000074, by first | rfl | (simp; done) | (rw [← el26.out]; rfl) | (rw [← el26.out]) | (simp [*]; done) | (simp at c7b0 ⊢; first | exact c7b0 | (simp [c7b0]; done)), HS.out, HK.out⟩
    ·replace c25 := Bool.eq_false_iff.mpr c25
     subst c25
     rw [if_neg (show ¬ (false = true) by decide)] at H
     simp only [Option.some.injEq, Prod.mk.injEq] at H
     obtain ⟨rfl, rfl⟩ := H
     have n2_ := Aside0.mk (SL.nil_row k37 37 HS.out)
     clear HS
     have HS := n2_
     clear n2_
     refine hG_.out ?_
     go_wp2
     go_ret2
     replace HS := Aside0.mk (SL.tail (SL.get1 (SL.tail (SL.get1 (SL.tail (SL.get1 HS.out))))))
     unfold barrowref33_Shift.Post
     exact ⟨none, 0, by first | rfl | (simp; done) | (simp [*]; done) | (simp at c7b0 ⊢; first | exact c7b0 | (simp [c7b0]; done)), HS.out, HK.out⟩
   ·rw [if_neg c7] at H
    exact absurd H (by simp)
  ·rw [if_neg c6] at H
   exact absurd H (by simp)

end Go.Proofs.Ytiadhonhjnbliaa.XZT
