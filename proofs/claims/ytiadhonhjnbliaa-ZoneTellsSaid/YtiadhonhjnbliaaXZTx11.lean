-- Written by xprint.py (a program of this session) for this claim
import Derived.Test.YtiadhonhjnbliaaSq
import Derived.Test.YtiadhonhjnbliaaSL5
import Derived.Test.YtiadhonhjnbliaaSL4
import Derived.Test.YtiadhonhjnbliaaXZTx0
import Derived.Test.YtiadhonhjnbliaaXZTx10
namespace Go.Proofs.Ytiadhonhjnbliaa.XZT
open Go.Proofs.YtiadhonhjnbliaaV Go.Proofs.YtiadhonhjnbliaaS
open Go.RowKit Go.Proofs.YtiadhonhjnbliaaW.PrintWords Go.Proofs.YtiadhonhjnbliaaW.PrintLast Go.Proofs.YtiadhonhjnbliaaW.PrintMore
attribute [local go_sem] max2_int min2_int max_two min_two max_three min_three max_four min_four   -- for this text's walks alone
set_option linter.unusedVariables false
set_option linter.unusedSimpArgs false

/-! ### zone_Right: function 14 -/
def zone_Right.l0 : Nat → (List (S37)) → Int → Int → Option (Bool)
 | 0, _, _, _ => none
 | k + 1, l0, x3_0, x8_0 => if x8_0 < (l0.length : Int) then (if 0 ≤ x8_0 then (if ((rd_T37 l0 x8_0).f0) ≤ x3_0 then (some false) else ((zone_may.f ((rd_T37 l0 x8_0).f0) ((rd_T37 l0 x8_0).f1.f0) ((rd_T37 l0 x8_0).f1.f1.f0) ((rd_T37 l0 x8_0).f1.f1.f1) ((rd_T37 l0 x8_0).f1.f2.f0) ((rd_T37 l0 x8_0).f1.f2.f1) ((rd_T37 l0 x8_0).f1.f3) ((rd_T37 l0 x8_0).f1.f4) ((rd_T37 l0 x8_0).f2) ((rd_T37 l0 x8_0).f3) ((rd_T37 l0 x8_0).f4) ((rd_T37 l0 x8_0).f5.f0) ((rd_T37 l0 x8_0).f5.f1) ((rd_T37 l0 x8_0).f5.f2) ((rd_T37 l0 x8_0).f6) ((rd_T37 l0 x8_0).f7)).bind fun t247 => (if t247 = true then (zone_Right.l0 k l0 ((rd_T37 l0 x8_0).f0) (wrap64 (x8_0 + 1))) else (some false)))) else (none)) else (if (l0.length : Int) ≤ 32 then (some true) else (some false))
def zone_Right.f (k : Nat) (l0 : List (S37)) : Option (Bool) := zone_Right.l0 k l0 0 0
theorem zone_Right.mono_l : ∀ k, (∀ y0 y1 y2, LeO (zone_Right.l0 k y0 y1 y2) (zone_Right.l0 (k + 1) y0 y1 y2))
 | 0 => fun _ _ _ r h => by simp [zone_Right.l0] at h
 | k + 1 => by
  have ih0 := zone_Right.mono_l k
  ·intro y0 y1 y2
   unfold zone_Right.l0
   repeat' first
   | (with_reducible exact ih0 _ _ _)
   | (with_reducible exact LeO.refl _)
   | (with_reducible exact LeO.none _)
   | (with_reducible refine LeO.ite ?_ ?_)
   | (with_reducible refine everyOf_le (fun _ => ?_))
   | (with_reducible refine LeO.bind ?_ (fun _ => ?_))
   | exact ih0 _ _ _
   | exact LeO.none _
   | refine LeO.ite ?_ ?_
   | refine LeO.bind ?_ (fun _ => ?_)
theorem zone_Right.mono : ∀ a0 k, LeO (zone_Right.f k a0) (zone_Right.f (k + 1) a0) := by
 intro a0 k
 have ih0 := zone_Right.mono_l k
 unfold zone_Right.f
 repeat' first
   | (with_reducible exact ih0 _ _ _)
   | (with_reducible exact LeO.refl _)
   | (with_reducible exact LeO.none _)
   | (with_reducible refine LeO.ite ?_ ?_)
   | (with_reducible refine everyOf_le (fun _ => ?_))
   | (with_reducible refine LeO.bind ?_ (fun _ => ?_))
   | exact ih0 _ _ _
   | exact LeO.none _
   | refine LeO.ite ?_ ?_
   | refine LeO.bind ?_ (fun _ => ?_)
def zone_Right.Post (r : Bool) (S : Nat → Prop) (L : List Asr) (w : World) (e : Ending) (w' : World) : Prop := e = .returned (.bool r) ∧ SL (L) w' S ∧ Keep S w w'
set_option maxHeartbeats 8000000 in
set_option maxRecDepth 100000 in
theorem zone_Right.slcalls (k : Nat) (A0 : Option Addr) (c0 : Nat) (l0 : List (S37)) (r : Bool) (S : Nat → Prop) (L : List Asr) (w : World) (hf : Fresh S w) (hs : SL (L) w S) (hr0 : RO S w (fun w_ => Kd.C k37 w_ A0 l0.length l0)) (hc0 : l0.length ≤ c0) (h : zone_Right.f k l0 = some r) :
  Calls Try.prog 14 #[.slice A0 l0.length c0] w (zone_Right.Post r S L w) := by
 have HR0 := Aside0.mk hr0
 have HC0 := Aside0.mk hc0
 clear hr0 hc0
 have HF := Aside0.mk hf
 have HS := Aside0.mk hs
 have HK := Aside0.mk (Keep.refl S w)
 clear hf hs
 have hu37 := Try.underlying37
 have H : (zone_Right.l0 k l0 0 0) = some r := h
 clear h
 have H' := Aside0.mk H
 clear H
 go_enter Try.func14, Try.ntmps14
 go_wp2
 go_loopg [3, 8] k (fun kq v3 v8 w' => ∃ (x3_0 : Int) (x8_0 : Int), v3 = .int .i64 x3_0 ∧ v8 = .int .i64 x8_0 ∧ Aside0 (zone_Right.l0 kq l0 x3_0 x8_0 = some r) ∧ Aside0 (kq ≤ k) ∧ Aside0 (SL (L) w' S) ∧ Aside0 (Keep S w w'))
 case atStart => exact ⟨(0), (0), (by first | rfl | (simp; done) | (simp [*]; done)), (by first | rfl | (simp; done) | (simp [*]; done)), H', ⟨Nat.le_refl _⟩, HS, HK⟩
 case round =>
  clear H' HS HK
  obtain ⟨x3_0, x8_0, rfl, rfl, HA, HQ1, HS, HK⟩ := hrel
  cases gk with
  | zero => exact absurd HA.out (by simp [zone_Right.l0])
  | succ k1 =>
   have H := HA.out
   clear HA
   simp only [zone_Right.l0] at H
   by_cases c1 : x8_0 < (l0.length : Int)
   ·rw [if_pos c1] at H
    have c1b0 : decide (x8_0 < (l0.length : Int)) = true := decide_eq_true c1
    clear c1
    by_cases c2 : 0 ≤ x8_0
    ·rw [if_pos c2] at H
     have c2b0 : decide (0 ≤ x8_0) = true := decide_eq_true c2
     clear c2
     by_cases c3 : ((rd_T37 l0 x8_0).f0) ≤ x3_0
     ·rw [if_pos c3] at H
      have c3b0 : decide (((rd_T37 l0 x8_0).f0) ≤ x3_0) = true := decide_eq_true c3
      clear c3
      obtain rfl := Option.some.inj H
      have pq245 : 0 ≤ (x8_0 : Int) := of_decide_eq_true (by first | (with_reducible assumption) | assumption)
      have qq245 : x8_0 < ((l0.length : Int) : Int) := of_decide_eq_true (by first | (with_reducible assumption) | assumption)
      obtain ⟨adq245, eq245, hxq245_0, hxq245_1, hxq245_2, hxq245_3, hxq245_4, hxq245_5, hxq245_6, hxq245_7, hxq245_8, hxq245_9, hxq245_10, hxq245_11, hxq245_12, hxq245_13, hxq245_14, hxq245_15⟩ := at_T37 (RO.at_ HR0.out HK.out) x8_0 pq245 qq245
      cases eq245
      replace pq245 := eq_true pq245
      replace qq245 := eq_true qq245
      go_wp2_with (first | ((with_reducible refine gate_dst (N := 11) rfl ?_); refine wpList_loadA rfl 37 (.tmp 10) rfl _ rfl _ _ (ats_of hxq245_0 (atk_cons hxq245_1 (atk_cons hxq245_2 (atk_cons hxq245_3 (atk_cons hxq245_4 (atk_cons hxq245_5 (atk_cons hxq245_6 (atk_cons hxq245_7 (atk_cons hxq245_8 (atk_cons hxq245_9 (atk_cons hxq245_10 (atk_cons hxq245_11 (atk_cons hxq245_12 (atk_cons hxq245_13 (atk_cons hxq245_14 (atk_cons hxq245_15 atk_nil)))))))))))))))) Try.underlying37 rfl (by kernel_rfl) ?_) | ((with_reducible refine gate_dst (N := 5) rfl ?_); refine wpList_plain rfl (fun K_ hK_ => ?_); refine op_box (S := S) (cs := #[.int .i64 0, .int .i64 0, .int .i64 0, .int .i64 0, .int .i64 0, .int .i64 0, .int .i64 0, .int .i64 0, .int .i64 0, .int .i64 0, .int .i64 0, .int .i64 0, .int .i64 0, .int .i64 0, .int .i64 0, .int .i64 0]) (t := 37) (HF.out.keep HK.out) HS.out (by first | (go_simp; done) | (go_simp; rfl)) ?_; intro g3000021 w4 hs_ hk_; refine hK_ _ _ ?_; clear hK_ K_; replace HS := Aside0.mk (hs_); replace HK := Aside0.mk (HK.out.trans hk_)) | ((with_reducible refine gate_store (t := 37) (p := 5) (v := (.tmp 11)) rfl ?_); refine wpList_plain rfl (fun K_ hK_ => ?_); refine op_store (S := S) 37 (.tmp 5) (.tmp 11) rfl g3000021 0 (.agg #[.int .i64 ((rd_T37 l0 x8_0).f0), .int .i64 ((rd_T37 l0 x8_0).f1.f0), .int .i64 ((rd_T37 l0 x8_0).f1.f1.f0), .int .i64 ((rd_T37 l0 x8_0).f1.f1.f1), .int .i64 ((rd_T37 l0 x8_0).f1.f2.f0), .int .i64 ((rd_T37 l0 x8_0).f1.f2.f1), .int .i64 ((rd_T37 l0 x8_0).f1.f3), .int .i64 ((rd_T37 l0 x8_0).f1.f4), .int .i64 ((rd_T37 l0 x8_0).f2), .int .i64 ((rd_T37 l0 x8_0).f3), .int .i64 ((rd_T37 l0 x8_0).f4), .int .i64 ((rd_T37 l0 x8_0).f5.f0), .int .i64 ((rd_T37 l0 x8_0).f5.f1), .int .i64 ((rd_T37 l0 x8_0).f5.f2), .int .i64 ((rd_T37 l0 x8_0).f6), .int .i64 ((rd_T37 l0 x8_0).f7)]) [.int .i64 ((rd_T37 l0 x8_0).f0), .int .i64 ((rd_T37 l0 x8_0).f1.f0), .int .i64 ((rd_T37 l0 x8_0).f1.f1.f0), .int .i64 ((rd_T37 l0 x8_0).f1.f1.f1), .int .i64 ((rd_T37 l0 x8_0).f1.f2.f0), .int .i64 ((rd_T37 l0 x8_0).f1.f2.f1), .int .i64 ((rd_T37 l0 x8_0).f1.f3), .int .i64 ((rd_T37 l0 x8_0).f1.f4), .int .i64 ((rd_T37 l0 x8_0).f2), .int .i64 ((rd_T37 l0 x8_0).f3), .int .i64 ((rd_T37 l0 x8_0).f4), .int .i64 ((rd_T37 l0 x8_0).f5.f0), .int .i64 ((rd_T37 l0 x8_0).f5.f1), .int .i64 ((rd_T37 l0 x8_0).f5.f2), .int .i64 ((rd_T37 l0 x8_0).f6), .int .i64 ((rd_T37 l0 x8_0).f7)] rfl rfl rfl (by kernel_rfl) (by simp [Value.oneCell']) HS.out (by simp) ?_; intro w5 hs_ hk_; refine hK_ _ _ ?_; clear hK_ K_; replace HS := Aside0.mk ((show SL (cells g3000021 37 [.int .i64 ((rd_T37 l0 x8_0).f0), .int .i64 ((rd_T37 l0 x8_0).f1.f0), .int .i64 ((rd_T37 l0 x8_0).f1.f1.f0), .int .i64 ((rd_T37 l0 x8_0).f1.f1.f1), .int .i64 ((rd_T37 l0 x8_0).f1.f2.f0), .int .i64 ((rd_T37 l0 x8_0).f1.f2.f1), .int .i64 ((rd_T37 l0 x8_0).f1.f3), .int .i64 ((rd_T37 l0 x8_0).f1.f4), .int .i64 ((rd_T37 l0 x8_0).f2), .int .i64 ((rd_T37 l0 x8_0).f3), .int .i64 ((rd_T37 l0 x8_0).f4), .int .i64 ((rd_T37 l0 x8_0).f5.f0), .int .i64 ((rd_T37 l0 x8_0).f5.f1), .int .i64 ((rd_T37 l0 x8_0).f5.f2), .int .i64 ((rd_T37 l0 x8_0).f6), .int .i64 ((rd_T37 l0 x8_0).f7)].toArray :: _) _ _ from hs_)); replace HK := Aside0.mk (HK.out.trans hk_); have hb_ := SL.at_ HS.out; have hz3000021_0_2 := ((blk_cell hb_ 0).trans rfl : _ = some (.int .i64 ((rd_T37 l0 x8_0).f0))); have hz3000021_1_2 := ((blk_cell hb_ 1).trans rfl : _ = some (.int .i64 ((rd_T37 l0 x8_0).f1.f0))); have hz3000021_2_2 := ((blk_cell hb_ 2).trans rfl : _ = some (.int .i64 ((rd_T37 l0 x8_0).f1.f1.f0))); have hz3000021_3_2 := ((blk_cell hb_ 3).trans rfl : _ = some (.int .i64 ((rd_T37 l0 x8_0).f1.f1.f1))); have hz3000021_4_2 := ((blk_cell hb_ 4).trans rfl : _ = some (.int .i64 ((rd_T37 l0 x8_0).f1.f2.f0))); have hz3000021_5_2 := ((blk_cell hb_ 5).trans rfl : _ = some (.int .i64 ((rd_T37 l0 x8_0).f1.f2.f1))); have hz3000021_6_2 := ((blk_cell hb_ 6).trans rfl : _ = some (.int .i64 ((rd_T37 l0 x8_0).f1.f3))); have hz3000021_7_2 := ((blk_cell hb_ 7).trans rfl : _ = some (.int .i64 ((rd_T37 l0 x8_0).f1.f4))); have hz3000021_8_2 := ((blk_cell hb_ 8).trans rfl : _ = some (.int .i64 ((rd_T37 l0 x8_0).f2))); have hz3000021_9_2 := ((blk_cell hb_ 9).trans rfl : _ = some (.int .i64 ((rd_T37 l0 x8_0).f3))); have hz3000021_10_2 := ((blk_cell hb_ 10).trans rfl : _ = some (.int .i64 ((rd_T37 l0 x8_0).f4))); have hz3000021_11_2 := ((blk_cell hb_ 11).trans rfl : _ = some (.int .i64 ((rd_T37 l0 x8_0).f5.f0))); have hz3000021_12_2 := ((blk_cell hb_ 12).trans rfl : _ = some (.int .i64 ((rd_T37 l0 x8_0).f5.f1))); have hz3000021_13_2 := ((blk_cell hb_ 13).trans rfl : _ = some (.int .i64 ((rd_T37 l0 x8_0).f5.f2))); have hz3000021_14_2 := ((blk_cell hb_ 14).trans rfl : _ = some (.int .i64 ((rd_T37 l0 x8_0).f6))); have hz3000021_15_2 := ((blk_cell hb_ 15).trans rfl : _ = some (.int .i64 ((rd_T37 l0 x8_0).f7))); clear hb_))
      go_ret
      replace HS := Aside0.mk (SL.tail HS.out)
      unfold zone_Right.Post
      exact ⟨by first | rfl | (simp; done) | (simp [*]; done) | (simp at c3b0 ⊢; first | exact c3b0 | (simp [c3b0]; done)), HS.out, HK.out⟩
     ·rw [if_neg c3] at H
      have c3b0 : decide (((rd_T37 l0 x8_0).f0) ≤ x3_0) = false := decide_eq_false c3
      clear c3
      replace H := Option.bind_eq_some_iff.1 H
      obtain ⟨t247, Hc60, H⟩ := H
      try dsimp only at H
      have Hc6 := Aside0.mk Hc60
      clear Hc60
      have H' := Aside0.mk H
      clear H
      have pq245 : 0 ≤ (x8_0 : Int) := of_decide_eq_true (by first | (with_reducible assumption) | assumption)
      have qq245 : x8_0 < ((l0.length : Int) : Int) := of_decide_eq_true (by first | (with_reducible assumption) | assumption)
      obtain ⟨adq245, eq245, hxq245_0, hxq245_1, hxq245_2, hxq245_3, hxq245_4, hxq245_5, hxq245_6, hxq245_7, hxq245_8, hxq245_9, hxq245_10, hxq245_11, hxq245_12, hxq245_13, hxq245_14, hxq245_15⟩ := at_T37 (RO.at_ HR0.out HK.out) x8_0 pq245 qq245
      cases eq245
      replace pq245 := eq_true pq245
      replace qq245 := eq_true qq245
      go_wp2_with (first | ((with_reducible refine gate_dst (N := 11) rfl ?_); refine wpList_loadA rfl 37 (.tmp 10) rfl _ rfl _ _ (ats_of hxq245_0 (atk_cons hxq245_1 (atk_cons hxq245_2 (atk_cons hxq245_3 (atk_cons hxq245_4 (atk_cons hxq245_5 (atk_cons hxq245_6 (atk_cons hxq245_7 (atk_cons hxq245_8 (atk_cons hxq245_9 (atk_cons hxq245_10 (atk_cons hxq245_11 (atk_cons hxq245_12 (atk_cons hxq245_13 (atk_cons hxq245_14 (atk_cons hxq245_15 atk_nil)))))))))))))))) Try.underlying37 rfl (by kernel_rfl) ?_) | ((with_reducible refine gate_dst (N := 5) rfl ?_); refine wpList_plain rfl (fun K_ hK_ => ?_); refine op_box (S := S) (cs := #[.int .i64 0, .int .i64 0, .int .i64 0, .int .i64 0, .int .i64 0, .int .i64 0, .int .i64 0, .int .i64 0, .int .i64 0, .int .i64 0, .int .i64 0, .int .i64 0, .int .i64 0, .int .i64 0, .int .i64 0, .int .i64 0]) (t := 37) (HF.out.keep HK.out) HS.out (by first | (go_simp; done) | (go_simp; rfl)) ?_; intro g3000021 w7 hs_ hk_; refine hK_ _ _ ?_; clear hK_ K_; replace HS := Aside0.mk (hs_); replace HK := Aside0.mk (HK.out.trans hk_)) | ((with_reducible refine gate_store (t := 37) (p := 5) (v := (.tmp 11)) rfl ?_); refine wpList_plain rfl (fun K_ hK_ => ?_); refine op_store (S := S) 37 (.tmp 5) (.tmp 11) rfl g3000021 0 (.agg #[.int .i64 ((rd_T37 l0 x8_0).f0), .int .i64 ((rd_T37 l0 x8_0).f1.f0), .int .i64 ((rd_T37 l0 x8_0).f1.f1.f0), .int .i64 ((rd_T37 l0 x8_0).f1.f1.f1), .int .i64 ((rd_T37 l0 x8_0).f1.f2.f0), .int .i64 ((rd_T37 l0 x8_0).f1.f2.f1), .int .i64 ((rd_T37 l0 x8_0).f1.f3), .int .i64 ((rd_T37 l0 x8_0).f1.f4), .int .i64 ((rd_T37 l0 x8_0).f2), .int .i64 ((rd_T37 l0 x8_0).f3), .int .i64 ((rd_T37 l0 x8_0).f4), .int .i64 ((rd_T37 l0 x8_0).f5.f0), .int .i64 ((rd_T37 l0 x8_0).f5.f1), .int .i64 ((rd_T37 l0 x8_0).f5.f2), .int .i64 ((rd_T37 l0 x8_0).f6), .int .i64 ((rd_T37 l0 x8_0).f7)]) [.int .i64 ((rd_T37 l0 x8_0).f0), .int .i64 ((rd_T37 l0 x8_0).f1.f0), .int .i64 ((rd_T37 l0 x8_0).f1.f1.f0), .int .i64 ((rd_T37 l0 x8_0).f1.f1.f1), .int .i64 ((rd_T37 l0 x8_0).f1.f2.f0), .int .i64 ((rd_T37 l0 x8_0).f1.f2.f1), .int .i64 ((rd_T37 l0 x8_0).f1.f3), .int .i64 ((rd_T37 l0 x8_0).f1.f4), .int .i64 ((rd_T37 l0 x8_0).f2), .int .i64 ((rd_T37 l0 x8_0).f3), .int .i64 ((rd_T37 l0 x8_0).f4), .int .i64 ((rd_T37 l0 x8_0).f5.f0), .int .i64 ((rd_T37 l0 x8_0).f5.f1), .int .i64 ((rd_T37 l0 x8_0).f5.f2), .int .i64 ((rd_T37 l0 x8_0).f6), .int .i64 ((rd_T37 l0 x8_0).f7)] rfl rfl rfl (by kernel_rfl) (by simp [Value.oneCell']) HS.out (by simp) ?_; intro w8 hs_ hk_; refine hK_ _ _ ?_; clear hK_ K_; replace HS := Aside0.mk ((show SL (cells g3000021 37 [.int .i64 ((rd_T37 l0 x8_0).f0), .int .i64 ((rd_T37 l0 x8_0).f1.f0), .int .i64 ((rd_T37 l0 x8_0).f1.f1.f0), .int .i64 ((rd_T37 l0 x8_0).f1.f1.f1), .int .i64 ((rd_T37 l0 x8_0).f1.f2.f0), .int .i64 ((rd_T37 l0 x8_0).f1.f2.f1), .int .i64 ((rd_T37 l0 x8_0).f1.f3), .int .i64 ((rd_T37 l0 x8_0).f1.f4), .int .i64 ((rd_T37 l0 x8_0).f2), .int .i64 ((rd_T37 l0 x8_0).f3), .int .i64 ((rd_T37 l0 x8_0).f4), .int .i64 ((rd_T37 l0 x8_0).f5.f0), .int .i64 ((rd_T37 l0 x8_0).f5.f1), .int .i64 ((rd_T37 l0 x8_0).f5.f2), .int .i64 ((rd_T37 l0 x8_0).f6), .int .i64 ((rd_T37 l0 x8_0).f7)].toArray :: _) _ _ from hs_)); replace HK := Aside0.mk (HK.out.trans hk_); have hb_ := SL.at_ HS.out; have hz3000021_0_2 := ((blk_cell hb_ 0).trans rfl : _ = some (.int .i64 ((rd_T37 l0 x8_0).f0))); have hz3000021_1_2 := ((blk_cell hb_ 1).trans rfl : _ = some (.int .i64 ((rd_T37 l0 x8_0).f1.f0))); have hz3000021_2_2 := ((blk_cell hb_ 2).trans rfl : _ = some (.int .i64 ((rd_T37 l0 x8_0).f1.f1.f0))); have hz3000021_3_2 := ((blk_cell hb_ 3).trans rfl : _ = some (.int .i64 ((rd_T37 l0 x8_0).f1.f1.f1))); have hz3000021_4_2 := ((blk_cell hb_ 4).trans rfl : _ = some (.int .i64 ((rd_T37 l0 x8_0).f1.f2.f0))); have hz3000021_5_2 := ((blk_cell hb_ 5).trans rfl : _ = some (.int .i64 ((rd_T37 l0 x8_0).f1.f2.f1))); have hz3000021_6_2 := ((blk_cell hb_ 6).trans rfl : _ = some (.int .i64 ((rd_T37 l0 x8_0).f1.f3))); have hz3000021_7_2 := ((blk_cell hb_ 7).trans rfl : _ = some (.int .i64 ((rd_T37 l0 x8_0).f1.f4))); have hz3000021_8_2 := ((blk_cell hb_ 8).trans rfl : _ = some (.int .i64 ((rd_T37 l0 x8_0).f2))); have hz3000021_9_2 := ((blk_cell hb_ 9).trans rfl : _ = some (.int .i64 ((rd_T37 l0 x8_0).f3))); have hz3000021_10_2 := ((blk_cell hb_ 10).trans rfl : _ = some (.int .i64 ((rd_T37 l0 x8_0).f4))); have hz3000021_11_2 := ((blk_cell hb_ 11).trans rfl : _ = some (.int .i64 ((rd_T37 l0 x8_0).f5.f0))); have hz3000021_12_2 := ((blk_cell hb_ 12).trans rfl : _ = some (.int .i64 ((rd_T37 l0 x8_0).f5.f1))); have hz3000021_13_2 := ((blk_cell hb_ 13).trans rfl : _ = some (.int .i64 ((rd_T37 l0 x8_0).f5.f2))); have hz3000021_14_2 := ((blk_cell hb_ 14).trans rfl : _ = some (.int .i64 ((rd_T37 l0 x8_0).f6))); have hz3000021_15_2 := ((blk_cell hb_ 15).trans rfl : _ = some (.int .i64 ((rd_T37 l0 x8_0).f7))); clear hb_) | ((with_reducible refine gate_dst (N := 17) rfl ?_); refine wpList_loadA rfl 37 (.tmp 5) rfl _ rfl [.int .i64 ((rd_T37 l0 x8_0).f0), .int .i64 ((rd_T37 l0 x8_0).f1.f0), .int .i64 ((rd_T37 l0 x8_0).f1.f1.f0), .int .i64 ((rd_T37 l0 x8_0).f1.f1.f1), .int .i64 ((rd_T37 l0 x8_0).f1.f2.f0), .int .i64 ((rd_T37 l0 x8_0).f1.f2.f1), .int .i64 ((rd_T37 l0 x8_0).f1.f3), .int .i64 ((rd_T37 l0 x8_0).f1.f4), .int .i64 ((rd_T37 l0 x8_0).f2), .int .i64 ((rd_T37 l0 x8_0).f3), .int .i64 ((rd_T37 l0 x8_0).f4), .int .i64 ((rd_T37 l0 x8_0).f5.f0), .int .i64 ((rd_T37 l0 x8_0).f5.f1), .int .i64 ((rd_T37 l0 x8_0).f5.f2), .int .i64 ((rd_T37 l0 x8_0).f6), .int .i64 ((rd_T37 l0 x8_0).f7)] _ (cells_at (SL.at_ HS.out) 0 _ rfl) Try.underlying37 rfl (by kernel_rfl) ?_) | ((with_reducible refine gate_dst (N := 18) rfl ?_); (try (refine gate_guard (by rfl) ?_; dsimp only)); refine goesL_ (some 18) rfl rfl Try.func29 (by kernel_rfl) rfl #[.agg #[.int .i64 ((rd_T37 l0 x8_0).f0), .int .i64 ((rd_T37 l0 x8_0).f1.f0), .int .i64 ((rd_T37 l0 x8_0).f1.f1.f0), .int .i64 ((rd_T37 l0 x8_0).f1.f1.f1), .int .i64 ((rd_T37 l0 x8_0).f1.f2.f0), .int .i64 ((rd_T37 l0 x8_0).f1.f2.f1), .int .i64 ((rd_T37 l0 x8_0).f1.f3), .int .i64 ((rd_T37 l0 x8_0).f1.f4), .int .i64 ((rd_T37 l0 x8_0).f2), .int .i64 ((rd_T37 l0 x8_0).f3), .int .i64 ((rd_T37 l0 x8_0).f4), .int .i64 ((rd_T37 l0 x8_0).f5.f0), .int .i64 ((rd_T37 l0 x8_0).f5.f1), .int .i64 ((rd_T37 l0 x8_0).f5.f2), .int .i64 ((rd_T37 l0 x8_0).f6), .int .i64 ((rd_T37 l0 x8_0).f7)]] rfl (by (try simp only [List.map_toArray, List.map_cons, List.map_nil]); first | done | rfl | (simp; done)) ?_; (with_reducible refine (zone_may.calls _ _ _ _ _ _ _ _ _ _ _ _ _ _ _ _ _ _  Hc6.out).mono ?_); rintro e_ w9 ⟨rfl, hb_⟩; refine ⟨_, rfl, ?_⟩; replace HS := Aside0.mk (HS.out.below hb_); replace HK := Aside0.mk (HK.out.trans (Keep.below hb_)); (try clear hz3000021_0_2 hz3000021_1_2 hz3000021_2_2 hz3000021_3_2 hz3000021_4_2 hz3000021_5_2 hz3000021_6_2 hz3000021_7_2 hz3000021_8_2 hz3000021_9_2 hz3000021_10_2 hz3000021_11_2 hz3000021_12_2 hz3000021_13_2 hz3000021_14_2 hz3000021_15_2); refine stop_ ?_; intro G_ hG_))
      have H := H'.out
      clear H'
      by_cases c10 : t247 = true
      ·subst c10
       rw [if_pos rfl] at H
       have H' := Aside0.mk H
       clear H
       have hb_ := SL.at_ HS.out
       have hz3000021_0_0 := ((blk_cell hb_ 0).trans rfl : _ = some (.int .i64 ((rd_T37 l0 x8_0).f0)))
       have hz3000021_1_0 := ((blk_cell hb_ 1).trans rfl : _ = some (.int .i64 ((rd_T37 l0 x8_0).f1.f0)))
       have hz3000021_2_0 := ((blk_cell hb_ 2).trans rfl : _ = some (.int .i64 ((rd_T37 l0 x8_0).f1.f1.f0)))
       have hz3000021_3_0 := ((blk_cell hb_ 3).trans rfl : _ = some (.int .i64 ((rd_T37 l0 x8_0).f1.f1.f1)))
       have hz3000021_4_0 := ((blk_cell hb_ 4).trans rfl : _ = some (.int .i64 ((rd_T37 l0 x8_0).f1.f2.f0)))
       have hz3000021_5_0 := ((blk_cell hb_ 5).trans rfl : _ = some (.int .i64 ((rd_T37 l0 x8_0).f1.f2.f1)))
       have hz3000021_6_0 := ((blk_cell hb_ 6).trans rfl : _ = some (.int .i64 ((rd_T37 l0 x8_0).f1.f3)))
       have hz3000021_7_0 := ((blk_cell hb_ 7).trans rfl : _ = some (.int .i64 ((rd_T37 l0 x8_0).f1.f4)))
       have hz3000021_8_0 := ((blk_cell hb_ 8).trans rfl : _ = some (.int .i64 ((rd_T37 l0 x8_0).f2)))
       have hz3000021_9_0 := ((blk_cell hb_ 9).trans rfl : _ = some (.int .i64 ((rd_T37 l0 x8_0).f3)))
       have hz3000021_10_0 := ((blk_cell hb_ 10).trans rfl : _ = some (.int .i64 ((rd_T37 l0 x8_0).f4)))
       have hz3000021_11_0 := ((blk_cell hb_ 11).trans rfl : _ = some (.int .i64 ((rd_T37 l0 x8_0).f5.f0)))
       have hz3000021_12_0 := ((blk_cell hb_ 12).trans rfl : _ = some (.int .i64 ((rd_T37 l0 x8_0).f5.f1)))
       have hz3000021_13_0 := ((blk_cell hb_ 13).trans rfl : _ = some (.int .i64 ((rd_T37 l0 x8_0).f5.f2)))
       have hz3000021_14_0 := ((blk_cell hb_ 14).trans rfl : _ = some (.int .i64 ((rd_T37 l0 x8_0).f6)))
       have hz3000021_15_0 := ((blk_cell hb_ 15).trans rfl : _ = some (.int .i64 ((rd_T37 l0 x8_0).f7)))
       clear hb_
       refine hG_.out ?_
       go_wp2
       replace HS := Aside0.mk (SL.tail HS.out)
       go_roundg k1
       case measure => have := HQ1.out; omega
       case rel => exact ⟨((rd_T37 l0 x8_0).f0), (wrap64 (x8_0 + 1)), (by first | rfl | (simp; done) | (simp [*]; done)), (by first | rfl | (simp; done) | (simp [*]; done)), H', ⟨by have := HQ1.out; omega⟩, HS, HK⟩
      ·replace c10 := Bool.eq_false_iff.mpr c10
       subst c10
       rw [if_neg (show ¬ (false = true) by decide)] at H
       obtain rfl := Option.some.inj H
       refine hG_.out ?_
       go_wp2
       go_ret
       replace HS := Aside0.mk (SL.tail HS.out)
       unfold zone_Right.Post
       exact ⟨by first | rfl | (simp; done) | (simp [*]; done) | (simp at c3b0 ⊢; first | exact c3b0 | (simp [c3b0]; done)), HS.out, HK.out⟩
    ·rw [if_neg c2] at H
     exact absurd H (by simp)
   ·rw [if_neg c1] at H
    have c1b0 : decide (x8_0 < (l0.length : Int)) = false := decide_eq_false c1
    clear c1
    by_cases c11 : (l0.length : Int) ≤ 32
    ·rw [if_pos c11] at H
     have c11b0 : decide ((l0.length : Int) ≤ 32) = true := decide_eq_true c11
     have c11b1 : decide (l0.length ≤ 32) = true := decide_eq_true (by omega)
     clear c11
     obtain rfl := Option.some.inj H
     go_wp2
     go_ret
     unfold zone_Right.Post
     exact ⟨by first | rfl | (simp; done) | (simp [*]; done) | (simp at c11b0 ⊢; first | exact c11b0 | (simp [c11b0]; done)), HS.out, HK.out⟩
    ·rw [if_neg c11] at H
     have c11b0 : decide ((l0.length : Int) ≤ 32) = false := decide_eq_false c11
     have c11b1 : decide (l0.length ≤ 32) = false := decide_eq_false (by omega)
     clear c11
     obtain rfl := Option.some.inj H
     go_wp2
     go_ret
     unfold zone_Right.Post
     exact ⟨by first | rfl | (simp; done) | (simp [*]; done) | (simp at c11b0 ⊢; first | exact c11b0 | (simp [c11b0]; done)), HS.out, HK.out⟩
theorem zone_Right.calls (k : Nat) (A0 : Option Addr) (c0 : Nat) (l0 : List (S37)) (r : Bool) (w : World) (hr0 : Kd.C k37 w A0 l0.length l0) (hc0 : l0.length ≤ c0) (h : zone_Right.f k l0 = some r) :
  Calls Try.prog 14 #[.slice A0 l0.length c0] w fun e w' => e = .returned (.bool r) ∧ Below w.heap.size w w' :=
 (zone_Right.slcalls k A0 c0 l0 r (news w) [] w (fresh_news w) trivial (RO.top hr0) hc0 h).mono fun _ _ h => ⟨h.1, h.2.2.to_below⟩

/-! ### api_Zone_30: function 30 -/
def api_Zone_30.f (l0 : List (S37)) : Option ((List (S37))) := (some (([] : List (S37)) : List (S37))).bind fun y248 => (if y248.length + l0.length < 1099511627776 then (some (y248 ++ l0)) else (none))
set_option maxHeartbeats 8000000 in
set_option maxRecDepth 100000 in
theorem api_Zone_30.calls (A0 : Option Addr) (c0 : Nat) (l0 : List (S37)) (r : List (S37)) (w : World) (hr0 : Kd.C k37 w A0 l0.length l0) (hc0 : l0.length ≤ c0) (h : api_Zone_30.f l0 = some r) :
  Calls Try.prog 30 #[.slice A0 l0.length c0] w fun e w' => ∃ v0_ : Value, e = .returned (v0_) ∧ Kd.R k37 37 w' w.heap.size (fun _ => True) v0_ r ∧ Below w.heap.size w w' := by
 cases A0 with
 | none =>
  have hl0 : l0 = [] := by
   cases l0 with
   | nil => rfl
   | cons z_ zs_ => obtain ⟨ad_, e_, _⟩ := hr0.2.2 (by simp); cases e_
  subst hl0
  have hr_ : r = [] := by simpa [api_Zone_30.f] using h.symm
  subst hr_
  have hnil := fun (w : World) => Lib.run_eql_slice_nil (P := Try.prog) w 22 37 none ([] : List (S37)).length c0 0 0 Try.underlying22
  have hnil0 := fun (w : World) => Lib.run_eql_slice_nil (P := Try.prog) w 22 37 none 0 c0 0 0 Try.underlying22
  go_enter Try.func30, Try.ntmps30
  go_wp2
  go_ret
  exact ⟨_, rfl, Kd.R_nil _ _ _ _ _, Below.refl _ _⟩
 | some A0 =>
  have hnil := fun (w : World) => Lib.run_eql_slice_nil (P := Try.prog) w 22 37 (some A0) l0.length c0 0 0 Try.underlying22
  have HR0 := Aside0.mk hr0
  have HC0 := Aside0.mk hc0
  clear hr0 hc0
  have HB := Aside0.mk (Below.refl w.heap.size w)
  have H : ((some (([] : List (S37)) : List (S37))).bind fun y248 => (if y248.length + l0.length < 1099511627776 then (some (y248 ++ l0)) else (none))) = some r := h
  clear h
  obtain ⟨y248, hy248⟩ : ∃ y_ : List (S37), y_ = (([] : List (S37))) := ⟨_, rfl⟩
  replace H : (if y248.length + l0.length < 1099511627776 then (some (y248 ++ l0)) else (none)) = some r := by first | (rw [hy248]; with_reducible exact H) | (have H2_ := (Option.bind_some _ _).symm.trans H; rw [hy248]; with_reducible exact H2_) | (have H2_ := (Option.bind_some _ _).symm.trans H; with_reducible exact H2_) | with_reducible exact H | (rw [hy248]; exact H) | exact H
  have Ny248 := Aside0.mk hy248
  clear hy248
  by_cases c2 : y248.length + l0.length < 1099511627776
  ·rw [if_pos c2] at H
   have LMc2 := Aside0.mk c2
   clear c2
   obtain ⟨y251, hy251⟩ : ∃ y_ : List (S37), y_ = (y248 ++ l0) := ⟨_, rfl⟩
   replace H : (some y251) = some r := by first | (rw [hy251]; with_reducible exact H) | (have H2_ := (Option.bind_some _ _).symm.trans H; rw [hy251]; with_reducible exact H2_) | (have H2_ := (Option.bind_some _ _).symm.trans H; with_reducible exact H2_) | with_reducible exact H | (rw [hy251]; exact H) | exact H
   have Ny251 := Aside0.mk hy251
   clear hy251
   obtain rfl := Option.some.inj H
   go_enter Try.func30, Try.ntmps30
   go_wp2_with (first | ((with_reducible refine gate_dst (N := 5) rfl ?_); refine Kd.R_lit k37 _ 37 ?hg (N := 5) ?hd (xs := ([] : List (S37))) (inner := []) (ok := fun _ => True) (okp := fun _ => True) ?hr ?hp (fun _ hk => hk) trivial (Below.refl _ _) (Nat.le_refl _) (by simp) ?_; (case hd => rfl); (case hg => rfl); (case hr => first | (go_simp; done) | (go_simp; rfl)); (case hp => exact (Reps.none _ _)); intro v249 w3 ho4 hb hg_ hnew_; clear hg_ hnew_; (first | rw [← Ny248.out] at ho4 | (simp only [Int.reduceToNat] at ho4; rw [← Ny248.out] at ho4)); have n0_ := Aside0.mk (Kd.R_lower ho4 (below_size (by repeat (first | (with_reducible first | exact HB.out | apply below_alloc | apply pw_below_drewN | apply below_drew1) | exact HB.out)))); have n1_ := Aside0.mk (below_step (by repeat (first | (with_reducible first | exact HB.out | apply below_alloc | apply pw_below_drewN | apply below_drew1) | exact HB.out)) hb); clear HB; have HO250 := n0_; have HB := n1_; clear n0_ n1_; clear hb ho4) | ((with_reducible refine gate_builtin (b := .append) (xs := #[.tmp 5, .tmp 6]) rfl ?_); at_builtin; refine Kd.R_append_rows k37 (w0 := w) w.heap.size rfl (.tmp 5) (.tmp 6) 22 37 (.agg #[(.int .i64 0), (.int .i64 0), (.int .i64 0), (.int .i64 0), (.int .i64 0), (.int .i64 0), (.int .i64 0), (.int .i64 0), (.int .i64 0), (.int .i64 0), (.int .i64 0), (.int .i64 0), (.int .i64 0), (.int .i64 0), (.int .i64 0), (.int .i64 0)]) 128 rfl Try.underlying22 info37 rfl (by decide) (by omega) v249 y248 l0 _ _ _ (fun _ => True) (fun _ => False) rfl rfl ?aO ?aR (fun _ _ h => h) (fun _ h => h.elim) ?aF ?aB ?aS ?aL ?_; (case aR => repeat (first | exact (Kd.C_below HR0.out HB.out) | (with_reducible refine Kd.C_alloc ?_ _) | (with_reducible refine Kd.C_drewN ?_ _) | (with_reducible refine Kd.C_drew ?_))); (case aB => exact (by repeat (first | (with_reducible first | exact HB.out | apply below_alloc | apply pw_below_drewN | apply below_drew1) | exact HB.out))); (case aF => exact (fun _ _ => trivial)); (case aO => exact (by (with_reducible repeat (first | apply Kd.R_alloc | apply Kd.R_drewN | apply Kd.R_drew)); exact HO250.out)); (case aS => exact (below_size (by repeat (first | (with_reducible first | exact HB.out | apply below_alloc | apply pw_below_drewN | apply below_drew1) | exact HB.out)))); (case aL => have := LMc2.out; omega); intro v252 w5 ho hb hg hat; rw [← Ny251.out] at ho; have n0_ := Aside0.mk (hb); have n1_ := Aside0.mk (ho); clear HB; clear HO250; have HB := n0_; have HO253 := n1_; clear n0_ n1_; clear ho hb hg hat))
   go_ret
   exact ⟨_, by first | rfl | (simp [errW_none, errW_some] <;> rfl) | (simp [*, errW_none, errW_some] <;> rfl), by (with_reducible repeat (first | apply Kd.R_alloc | apply Kd.R_drewN | apply Kd.R_drew)); exact HO253.out, by repeat (first | (with_reducible first | exact HB.out | apply below_alloc | apply pw_below_drewN | apply below_drew1) | exact HB.out)⟩
  ·rw [if_neg c2] at H
   exact absurd H (by simp)

end Go.Proofs.Ytiadhonhjnbliaa.XZT
