-- Written by xprint.py (a program of this session) for this claim
import Derived.Test.YtiadhonhjnbliaaXZTx11
import Derived.Test.YtiadhonhjnbliaaSq
import Derived.Test.YtiadhonhjnbliaaSL5
import Derived.Test.YtiadhonhjnbliaaSL4
import Derived.Test.YtiadhonhjnbliaaXZTx0
import Derived.Test.YtiadhonhjnbliaaXZTx4
import Derived.Test.YtiadhonhjnbliaaXZTx5
namespace Go.Proofs.Ytiadhonhjnbliaa.XZT
open Go.Proofs.YtiadhonhjnbliaaV Go.Proofs.YtiadhonhjnbliaaS
open Go.RowKit Go.Proofs.YtiadhonhjnbliaaW.PrintWords Go.Proofs.YtiadhonhjnbliaaW.PrintLast Go.Proofs.YtiadhonhjnbliaaW.PrintMore
attribute [local go_sem] max2_int min2_int max_two min_two max_three min_three max_four min_four   -- for this text's walks alone
set_option linter.unusedVariables false
set_option linter.unusedSimpArgs false

-- NOT PRINTED: function 48 (api_Zone_48)

-- NOT PRINTED: function 49 (zone_find_1)

-- NOT PRINTED: function 7000001 (api_Zone_48_c49)

/-! ### zone_find_1_i1: function 49 -/
def zone_find_1_i1.f (a0_0 : Int) (a0_1 : Int) (a0_2 : Int) (a0_3 : Int) (a0_4 : Int) (a0_5 : Int) (a0_6 : Int) (a0_7 : Int) (a0_8 : Int) (a0_9 : Int) (a0_10 : Int) (a0_11 : Int) (a0_12 : Int) (a0_13 : Int) (a0_14 : Int) (a0_15 : Int) (s0_0 : Int) : Option (Bool) := if a0_0 = s0_0 then (some true) else (some false)
def zone_find_1_i1.Post (b0 : Nat) (s0_0 : Int) (r : Bool) (S : Nat → Prop) (L : List Asr) (w : World) (e : Ending) (w' : World) : Prop := e = .returned (.bool r) ∧ SL (cells b0 3 [.int .i64 s0_0].toArray :: L) w' S ∧ Keep S w w'
set_option maxHeartbeats 8000000 in
set_option maxRecDepth 100000 in
theorem zone_find_1_i1.slcalls (a0_0 : Int) (a0_1 : Int) (a0_2 : Int) (a0_3 : Int) (a0_4 : Int) (a0_5 : Int) (a0_6 : Int) (a0_7 : Int) (a0_8 : Int) (a0_9 : Int) (a0_10 : Int) (a0_11 : Int) (a0_12 : Int) (a0_13 : Int) (a0_14 : Int) (a0_15 : Int) (b0 : Nat) (s0_0 : Int) (r : Bool) (S : Nat → Prop) (L : List Asr) (w : World) (hf : Fresh S w) (hs : SL (cells b0 3 [.int .i64 s0_0].toArray :: L) w S) (h : zone_find_1_i1.f a0_0 a0_1 a0_2 a0_3 a0_4 a0_5 a0_6 a0_7 a0_8 a0_9 a0_10 a0_11 a0_12 a0_13 a0_14 a0_15 s0_0 = some r) :
  Calls Try.prog 49 #[.agg #[.int .i64 a0_0, .int .i64 a0_1, .int .i64 a0_2, .int .i64 a0_3, .int .i64 a0_4, .int .i64 a0_5, .int .i64 a0_6, .int .i64 a0_7, .int .i64 a0_8, .int .i64 a0_9, .int .i64 a0_10, .int .i64 a0_11, .int .i64 a0_12, .int .i64 a0_13, .int .i64 a0_14, .int .i64 a0_15], .pointer (some ⟨b0, 0, none⟩)] w (zone_find_1_i1.Post b0 s0_0 r S L w) := by
 have HF := Aside0.mk hf
 have HS := Aside0.mk hs
 have HK := Aside0.mk (Keep.refl S w)
 clear hf hs
 have hu37 := Try.underlying37
 have H : (if a0_0 = s0_0 then (some true) else (some false)) = some r := h
 clear h
 by_cases c1 : a0_0 = s0_0
 ·rw [if_pos c1] at H
  have c1b0 : (a0_0 == s0_0) = true := beq_iff_eq.mpr c1
  have c1b1 : (a0_0 != s0_0) = false := bne_eq_false_iff_eq.mpr c1
  clear c1
  obtain rfl := Option.some.inj H
  go_enter Try.func49, Try.ntmps49
  go_wp2_with (first | ((with_reducible refine gate_dst (N := 2) rfl ?_); refine wpList_plain rfl (fun K_ hK_ => ?_); refine op_box (S := S) (cs := #[.int .i64 a0_0, .int .i64 a0_1, .int .i64 a0_2, .int .i64 a0_3, .int .i64 a0_4, .int .i64 a0_5, .int .i64 a0_6, .int .i64 a0_7, .int .i64 a0_8, .int .i64 a0_9, .int .i64 a0_10, .int .i64 a0_11, .int .i64 a0_12, .int .i64 a0_13, .int .i64 a0_14, .int .i64 a0_15]) (t := 37) (HF.out.keep HK.out) HS.out (by first | (go_simp; done) | (go_simp; rfl)) ?_; intro g3000027 w2 hs_ hk_; refine hK_ _ _ ?_; clear hK_ K_; replace HS := Aside0.mk (hs_); replace HK := Aside0.mk (HK.out.trans hk_); have hb_ := SL.at_ HS.out; have hz3000027_0_1 := ((blk_cell hb_ 0).trans rfl : _ = some (.int .i64 a0_0)); have hz3000027_1_1 := ((blk_cell hb_ 1).trans rfl : _ = some (.int .i64 a0_1)); have hz3000027_2_1 := ((blk_cell hb_ 2).trans rfl : _ = some (.int .i64 a0_2)); have hz3000027_3_1 := ((blk_cell hb_ 3).trans rfl : _ = some (.int .i64 a0_3)); have hz3000027_4_1 := ((blk_cell hb_ 4).trans rfl : _ = some (.int .i64 a0_4)); have hz3000027_5_1 := ((blk_cell hb_ 5).trans rfl : _ = some (.int .i64 a0_5)); have hz3000027_6_1 := ((blk_cell hb_ 6).trans rfl : _ = some (.int .i64 a0_6)); have hz3000027_7_1 := ((blk_cell hb_ 7).trans rfl : _ = some (.int .i64 a0_7)); have hz3000027_8_1 := ((blk_cell hb_ 8).trans rfl : _ = some (.int .i64 a0_8)); have hz3000027_9_1 := ((blk_cell hb_ 9).trans rfl : _ = some (.int .i64 a0_9)); have hz3000027_10_1 := ((blk_cell hb_ 10).trans rfl : _ = some (.int .i64 a0_10)); have hz3000027_11_1 := ((blk_cell hb_ 11).trans rfl : _ = some (.int .i64 a0_11)); have hz3000027_12_1 := ((blk_cell hb_ 12).trans rfl : _ = some (.int .i64 a0_12)); have hz3000027_13_1 := ((blk_cell hb_ 13).trans rfl : _ = some (.int .i64 a0_13)); have hz3000027_14_1 := ((blk_cell hb_ 14).trans rfl : _ = some (.int .i64 a0_14)); have hz3000027_15_1 := ((blk_cell hb_ 15).trans rfl : _ = some (.int .i64 a0_15)); clear hb_; have hb_ := SL.at_ (SL.get1 HS.out); have hz0_0_1 := ((blk_cell hb_ 0).trans rfl : _ = some (.int .i64 s0_0)); clear hb_))
  go_ret
  replace HS := Aside0.mk (SL.tail HS.out)
  unfold zone_find_1_i1.Post
  exact ⟨by first | rfl | (simp; done) | (simp [*]; done) | (simp at c1b0 ⊢; first | exact c1b0 | (simp [c1b0]; done)), HS.out, HK.out⟩
 ·rw [if_neg c1] at H
  have c1b0 : (a0_0 == s0_0) = false := beq_eq_false_iff_ne.mpr c1
  have c1b1 : (a0_0 != s0_0) = true := bne_iff_ne.mpr c1
  obtain rfl := Option.some.inj H
  go_enter Try.func49, Try.ntmps49
  go_wp2_with (first | ((with_reducible refine gate_dst (N := 2) rfl ?_); refine wpList_plain rfl (fun K_ hK_ => ?_); refine op_box (S := S) (cs := #[.int .i64 a0_0, .int .i64 a0_1, .int .i64 a0_2, .int .i64 a0_3, .int .i64 a0_4, .int .i64 a0_5, .int .i64 a0_6, .int .i64 a0_7, .int .i64 a0_8, .int .i64 a0_9, .int .i64 a0_10, .int .i64 a0_11, .int .i64 a0_12, .int .i64 a0_13, .int .i64 a0_14, .int .i64 a0_15]) (t := 37) (HF.out.keep HK.out) HS.out (by first | (go_simp; done) | (go_simp; rfl)) ?_; intro g3000027 w3 hs_ hk_; refine hK_ _ _ ?_; clear hK_ K_; replace HS := Aside0.mk (hs_); replace HK := Aside0.mk (HK.out.trans hk_); have hb_ := SL.at_ HS.out; have hz3000027_0_1 := ((blk_cell hb_ 0).trans rfl : _ = some (.int .i64 a0_0)); have hz3000027_1_1 := ((blk_cell hb_ 1).trans rfl : _ = some (.int .i64 a0_1)); have hz3000027_2_1 := ((blk_cell hb_ 2).trans rfl : _ = some (.int .i64 a0_2)); have hz3000027_3_1 := ((blk_cell hb_ 3).trans rfl : _ = some (.int .i64 a0_3)); have hz3000027_4_1 := ((blk_cell hb_ 4).trans rfl : _ = some (.int .i64 a0_4)); have hz3000027_5_1 := ((blk_cell hb_ 5).trans rfl : _ = some (.int .i64 a0_5)); have hz3000027_6_1 := ((blk_cell hb_ 6).trans rfl : _ = some (.int .i64 a0_6)); have hz3000027_7_1 := ((blk_cell hb_ 7).trans rfl : _ = some (.int .i64 a0_7)); have hz3000027_8_1 := ((blk_cell hb_ 8).trans rfl : _ = some (.int .i64 a0_8)); have hz3000027_9_1 := ((blk_cell hb_ 9).trans rfl : _ = some (.int .i64 a0_9)); have hz3000027_10_1 := ((blk_cell hb_ 10).trans rfl : _ = some (.int .i64 a0_10)); have hz3000027_11_1 := ((blk_cell hb_ 11).trans rfl : _ = some (.int .i64 a0_11)); have hz3000027_12_1 := ((blk_cell hb_ 12).trans rfl : _ = some (.int .i64 a0_12)); have hz3000027_13_1 := ((blk_cell hb_ 13).trans rfl : _ = some (.int .i64 a0_13)); have hz3000027_14_1 := ((blk_cell hb_ 14).trans rfl : _ = some (.int .i64 a0_14)); have hz3000027_15_1 := ((blk_cell hb_ 15).trans rfl : _ = some (.int .i64 a0_15)); clear hb_; have hb_ := SL.at_ (SL.get1 HS.out); have hz0_0_1 := ((blk_cell hb_ 0).trans rfl : _ = some (.int .i64 s0_0)); clear hb_))
  go_ret
  replace HS := Aside0.mk (SL.tail HS.out)
  unfold zone_find_1_i1.Post
  exact ⟨by first | rfl | (simp; done) | (simp [*]; done) | (simp at c1b0 ⊢; first | exact c1b0 | (simp [c1b0]; done)), HS.out, HK.out⟩

/-! ### api_Zone_48_i1: function 48 -/
def api_Zone_48_i1.l0 : Nat → (List (S37)) → Int → Int → Option (Int)
 | 0, _, _, _ => none
 | k + 1, l0, s0_0, x8_0 => if x8_0 < (l0.length : Int) then (if 0 ≤ x8_0 then ((zone_find_1_i1.f ((rd_T37 l0 x8_0).f0) ((rd_T37 l0 x8_0).f1.f0) ((rd_T37 l0 x8_0).f1.f1.f0) ((rd_T37 l0 x8_0).f1.f1.f1) ((rd_T37 l0 x8_0).f1.f2.f0) ((rd_T37 l0 x8_0).f1.f2.f1) ((rd_T37 l0 x8_0).f1.f3) ((rd_T37 l0 x8_0).f1.f4) ((rd_T37 l0 x8_0).f2) ((rd_T37 l0 x8_0).f3) ((rd_T37 l0 x8_0).f4) ((rd_T37 l0 x8_0).f5.f0) ((rd_T37 l0 x8_0).f5.f1) ((rd_T37 l0 x8_0).f5.f2) ((rd_T37 l0 x8_0).f6) ((rd_T37 l0 x8_0).f7) s0_0).bind fun t294 => (if t294 = true then (some x8_0) else (api_Zone_48_i1.l0 k l0 s0_0 (wrap64 (x8_0 + 1))))) else (none)) else (some (-1))
def api_Zone_48_i1.f (k : Nat) (l0 : List (S37)) (s0_0 : Int) : Option (Int) := api_Zone_48_i1.l0 k l0 s0_0 0
theorem api_Zone_48_i1.mono_l : ∀ k, (∀ y0 y1 y2, LeO (api_Zone_48_i1.l0 k y0 y1 y2) (api_Zone_48_i1.l0 (k + 1) y0 y1 y2))
 | 0 => fun _ _ _ r h => by simp [api_Zone_48_i1.l0] at h
 | k + 1 => by
  have ih0 := api_Zone_48_i1.mono_l k
  ·intro y0 y1 y2
   unfold api_Zone_48_i1.l0
   repeat' first
   | (with_reducible exact ih0 _ _ _)
   | (with_reducible exact LeO.refl _)
   | (with_reducible exact LeO.none _)
   | (with_reducible refine LeO.ite ?_ ?_)
   | (with_reducible refine everyOf_le (fun _ => ?_))
   | (with_reducible refine LeO.bind ?_ (fun _ => ?_))
   | exact ih0 _ _ _
   | exact LeO.none _
   | refine LeO.ite ?_ ?_
   | refine LeO.bind ?_ (fun _ => ?_)
theorem api_Zone_48_i1.mono : ∀ a0 a1 k, LeO (api_Zone_48_i1.f k a0 a1) (api_Zone_48_i1.f (k + 1) a0 a1) := by
 intro a0 a1 k
 have ih0 := api_Zone_48_i1.mono_l k
 unfold api_Zone_48_i1.f
 repeat' first
   | (with_reducible exact ih0 _ _ _)
   | (with_reducible exact LeO.refl _)
   | (with_reducible exact LeO.none _)
   | (with_reducible refine LeO.ite ?_ ?_)
   | (with_reducible refine everyOf_le (fun _ => ?_))
   | (with_reducible refine LeO.bind ?_ (fun _ => ?_))
   | exact ih0 _ _ _
   | exact LeO.none _
   | refine LeO.ite ?_ ?_
   | refine LeO.bind ?_ (fun _ => ?_)
def api_Zone_48_i1.Post (b0 : Nat) (s0_0 : Int) (r : Int) (S : Nat → Prop) (L : List Asr) (w : World) (e : Ending) (w' : World) : Prop := e = .returned (.int .i64 r) ∧ SL (cells b0 3 [.int .i64 s0_0].toArray :: L) w' S ∧ Keep S w w'
set_option maxHeartbeats 8000000 in
set_option maxRecDepth 100000 in
theorem api_Zone_48_i1.slcalls (k : Nat) (A0 : Option Addr) (c0 : Nat) (l0 : List (S37)) (b0 : Nat) (s0_0 : Int) (r : Int) (S : Nat → Prop) (L : List Asr) (w : World) (hf : Fresh S w) (hs : SL (cells b0 3 [.int .i64 s0_0].toArray :: L) w S) (hr0 : RO S w (fun w_ => Kd.C k37 w_ A0 l0.length l0)) (hc0 : l0.length ≤ c0) (h : api_Zone_48_i1.f k l0 s0_0 = some r) :
  Calls Try.prog 48 #[.slice A0 l0.length c0, .func (.func 49) #[] #[.pointer (some ⟨b0, 0, none⟩)]] w (api_Zone_48_i1.Post b0 s0_0 r S L w) := by
 have HR0 := Aside0.mk hr0
 have HC0 := Aside0.mk hc0
 clear hr0 hc0
 have HF := Aside0.mk hf
 have HS := Aside0.mk hs
 have HK := Aside0.mk (Keep.refl S w)
 clear hf hs
 have hu37 := Try.underlying37
 have H : (api_Zone_48_i1.l0 k l0 s0_0 0) = some r := h
 clear h
 have H' := Aside0.mk H
 clear H
 go_enter Try.func48, Try.ntmps48
 go_wp2
 go_loopg [8] k (fun kq v8 w' => ∃ (x8_0 : Int), v8 = .int .i64 x8_0 ∧ Aside0 (api_Zone_48_i1.l0 kq l0 s0_0 x8_0 = some r) ∧ Aside0 (kq ≤ k) ∧ Aside0 (SL (cells b0 3 [.int .i64 s0_0].toArray :: L) w' S) ∧ Aside0 (Keep S w w'))
 case atStart => exact ⟨(0), (by first | rfl | (simp; done) | (simp [*]; done)), H', ⟨Nat.le_refl _⟩, HS, HK⟩
 case round =>
  clear H' HS HK
  obtain ⟨x8_0, rfl, HA, HQ1, HS, HK⟩ := hrel
  cases gk with
  | zero => exact absurd HA.out (by simp [api_Zone_48_i1.l0])
  | succ k1 =>
   have H := HA.out
   clear HA
   simp only [api_Zone_48_i1.l0] at H
   by_cases c1 : x8_0 < (l0.length : Int)
   ·rw [if_pos c1] at H
    have c1b0 : decide (x8_0 < (l0.length : Int)) = true := decide_eq_true c1
    clear c1
    by_cases c2 : 0 ≤ x8_0
    ·rw [if_pos c2] at H
     have c2b0 : decide (0 ≤ x8_0) = true := decide_eq_true c2
     clear c2
     replace H := Option.bind_eq_some_iff.1 H
     obtain ⟨t294, Hc30, H⟩ := H
     try dsimp only at H
     have Hc3 := Aside0.mk Hc30
     clear Hc30
     by_cases c4 : t294 = true
     ·subst c4
      rw [if_pos rfl] at H
      obtain rfl := Option.some.inj H
      have pq293 : 0 ≤ (x8_0 : Int) := of_decide_eq_true (by first | (with_reducible assumption) | assumption)
      have qq293 : x8_0 < ((l0.length : Int) : Int) := of_decide_eq_true (by first | (with_reducible assumption) | assumption)
      obtain ⟨adq293, eq293, hxq293_0, hxq293_1, hxq293_2, hxq293_3, hxq293_4, hxq293_5, hxq293_6, hxq293_7, hxq293_8, hxq293_9, hxq293_10, hxq293_11, hxq293_12, hxq293_13, hxq293_14, hxq293_15⟩ := at_T37 (RO.at_ HR0.out HK.out) x8_0 pq293 qq293
      cases eq293
      replace pq293 := eq_true pq293
      replace qq293 := eq_true qq293
      go_wp2_with (first | ((with_reducible refine gate_dst (N := 15) rfl ?_); refine wpList_loadA rfl 37 (.tmp 14) rfl _ rfl _ _ (ats_of hxq293_0 (atk_cons hxq293_1 (atk_cons hxq293_2 (atk_cons hxq293_3 (atk_cons hxq293_4 (atk_cons hxq293_5 (atk_cons hxq293_6 (atk_cons hxq293_7 (atk_cons hxq293_8 (atk_cons hxq293_9 (atk_cons hxq293_10 (atk_cons hxq293_11 (atk_cons hxq293_12 (atk_cons hxq293_13 (atk_cons hxq293_14 (atk_cons hxq293_15 atk_nil)))))))))))))))) Try.underlying37 rfl (by kernel_rfl) ?_) | ((with_reducible refine gate_dst (N := 16) rfl ?_); refine goesLc_ (some 16) rfl (by with_unfolding_all rfl) rfl Try.func49 (by kernel_rfl) rfl #[.agg #[.int .i64 ((rd_T37 l0 x8_0).f0), .int .i64 ((rd_T37 l0 x8_0).f1.f0), .int .i64 ((rd_T37 l0 x8_0).f1.f1.f0), .int .i64 ((rd_T37 l0 x8_0).f1.f1.f1), .int .i64 ((rd_T37 l0 x8_0).f1.f2.f0), .int .i64 ((rd_T37 l0 x8_0).f1.f2.f1), .int .i64 ((rd_T37 l0 x8_0).f1.f3), .int .i64 ((rd_T37 l0 x8_0).f1.f4), .int .i64 ((rd_T37 l0 x8_0).f2), .int .i64 ((rd_T37 l0 x8_0).f3), .int .i64 ((rd_T37 l0 x8_0).f4), .int .i64 ((rd_T37 l0 x8_0).f5.f0), .int .i64 ((rd_T37 l0 x8_0).f5.f1), .int .i64 ((rd_T37 l0 x8_0).f5.f2), .int .i64 ((rd_T37 l0 x8_0).f6), .int .i64 ((rd_T37 l0 x8_0).f7)], .pointer (some ⟨b0, 0, none⟩)] rfl (by (try simp only [List.map_toArray, List.map_cons, List.map_nil]); first | done | rfl | (simp; done)) ?_; have hs0_ := HS.out; (with_reducible refine (zone_find_1_i1.slcalls _ _ _ _ _ _ _ _ _ _ _ _ _ _ _ _ _ _ _ _ _ _ (HF.out.keep HK.out) hs0_  Hc3.out).mono ?_); rintro e_ w5 ⟨rfl, hsr_, hkr_⟩; refine ⟨_, rfl, ?_⟩; replace HS := Aside0.mk (hsr_); replace HK := Aside0.mk (HK.out.trans hkr_)))
      go_ret
      unfold api_Zone_48_i1.Post
      exact ⟨by first | rfl | (simp; done) | (simp [*]; done) | (simp at c2b0 ⊢; first | exact c2b0 | (simp [c2b0]; done)), HS.out, HK.out⟩
     ·replace c4 := Bool.eq_false_iff.mpr c4
      subst c4
      rw [if_neg (show ¬ (false = true) by decide)] at H
      have H' := Aside0.mk H
      clear H
      have pq293 : 0 ≤ (x8_0 : Int) := of_decide_eq_true (by first | (with_reducible assumption) | assumption)
      have qq293 : x8_0 < ((l0.length : Int) : Int) := of_decide_eq_true (by first | (with_reducible assumption) | assumption)
      obtain ⟨adq293, eq293, hxq293_0, hxq293_1, hxq293_2, hxq293_3, hxq293_4, hxq293_5, hxq293_6, hxq293_7, hxq293_8, hxq293_9, hxq293_10, hxq293_11, hxq293_12, hxq293_13, hxq293_14, hxq293_15⟩ := at_T37 (RO.at_ HR0.out HK.out) x8_0 pq293 qq293
      cases eq293
      replace pq293 := eq_true pq293
      replace qq293 := eq_true qq293
      go_wp2_with (first | ((with_reducible refine gate_dst (N := 15) rfl ?_); refine wpList_loadA rfl 37 (.tmp 14) rfl _ rfl _ _ (ats_of hxq293_0 (atk_cons hxq293_1 (atk_cons hxq293_2 (atk_cons hxq293_3 (atk_cons hxq293_4 (atk_cons hxq293_5 (atk_cons hxq293_6 (atk_cons hxq293_7 (atk_cons hxq293_8 (atk_cons hxq293_9 (atk_cons hxq293_10 (atk_cons hxq293_11 (atk_cons hxq293_12 (atk_cons hxq293_13 (atk_cons hxq293_14 (atk_cons hxq293_15 atk_nil)))))))))))))))) Try.underlying37 rfl (by kernel_rfl) ?_) | ((with_reducible refine gate_dst (N := 16) rfl ?_); refine goesLc_ (some 16) rfl (by with_unfolding_all rfl) rfl Try.func49 (by kernel_rfl) rfl #[.agg #[.int .i64 ((rd_T37 l0 x8_0).f0), .int .i64 ((rd_T37 l0 x8_0).f1.f0), .int .i64 ((rd_T37 l0 x8_0).f1.f1.f0), .int .i64 ((rd_T37 l0 x8_0).f1.f1.f1), .int .i64 ((rd_T37 l0 x8_0).f1.f2.f0), .int .i64 ((rd_T37 l0 x8_0).f1.f2.f1), .int .i64 ((rd_T37 l0 x8_0).f1.f3), .int .i64 ((rd_T37 l0 x8_0).f1.f4), .int .i64 ((rd_T37 l0 x8_0).f2), .int .i64 ((rd_T37 l0 x8_0).f3), .int .i64 ((rd_T37 l0 x8_0).f4), .int .i64 ((rd_T37 l0 x8_0).f5.f0), .int .i64 ((rd_T37 l0 x8_0).f5.f1), .int .i64 ((rd_T37 l0 x8_0).f5.f2), .int .i64 ((rd_T37 l0 x8_0).f6), .int .i64 ((rd_T37 l0 x8_0).f7)], .pointer (some ⟨b0, 0, none⟩)] rfl (by (try simp only [List.map_toArray, List.map_cons, List.map_nil]); first | done | rfl | (simp; done)) ?_; have hs0_ := HS.out; (with_reducible refine (zone_find_1_i1.slcalls _ _ _ _ _ _ _ _ _ _ _ _ _ _ _ _ _ _ _ _ _ _ (HF.out.keep HK.out) hs0_  Hc3.out).mono ?_); rintro e_ w6 ⟨rfl, hsr_, hkr_⟩; refine ⟨_, rfl, ?_⟩; replace HS := Aside0.mk (hsr_); replace HK := Aside0.mk (HK.out.trans hkr_)))
      go_roundg k1
      case measure => have := HQ1.out; omega
      case rel => exact ⟨(wrap64 (x8_0 + 1)), (by first | rfl | (simp; done) | (simp [*]; done)), H', ⟨by have := HQ1.out; omega⟩, HS, HK⟩
    ·rw [if_neg c2] at H
     exact absurd H (by simp)
   ·rw [if_neg c1] at H
    have c1b0 : decide (x8_0 < (l0.length : Int)) = false := decide_eq_false c1
    clear c1
    obtain rfl := Option.some.inj H
    go_wp2
    go_ret
    unfold api_Zone_48_i1.Post
    exact ⟨by first | rfl | (simp; done) | (simp [*]; done) | (simp at c1b0 ⊢; first | exact c1b0 | (simp [c1b0]; done)), HS.out, HK.out⟩

/-! ### zone_find: function 33 -/
def zone_find.f (k : Nat) (l0 : List (S37)) (a1 : Int) : Option (Int) := (api_Zone_48_i1.f k l0 a1).bind fun t295 => (some t295)
theorem zone_find.mono : ∀ a0 a1 k, LeO (zone_find.f k a0 a1) (zone_find.f (k + 1) a0 a1) := by
 intro a0 a1 k
 unfold zone_find.f
 repeat' first
   | (with_reducible exact api_Zone_48_i1.mono _ _ _)
   | (with_reducible exact LeO.refl _)
   | (with_reducible exact LeO.none _)
   | (with_reducible refine LeO.ite ?_ ?_)
   | (with_reducible refine everyOf_le (fun _ => ?_))
   | (with_reducible refine LeO.bind ?_ (fun _ => ?_))
   | exact api_Zone_48_i1.mono _ _ _
   | exact LeO.none _
   | refine LeO.ite ?_ ?_
   | refine LeO.bind ?_ (fun _ => ?_)
def zone_find.Post (r : Int) (S : Nat → Prop) (L : List Asr) (w : World) (e : Ending) (w' : World) : Prop := e = .returned (.int .i64 r) ∧ SL (L) w' S ∧ Keep S w w'
set_option maxHeartbeats 8000000 in
set_option maxRecDepth 100000 in
theorem zone_find.slcalls (k : Nat) (A0 : Option Addr) (c0 : Nat) (l0 : List (S37)) (a1 : Int) (r : Int) (S : Nat → Prop) (L : List Asr) (w : World) (hf : Fresh S w) (hs : SL (L) w S) (hr0 : RO S w (fun w_ => Kd.C k37 w_ A0 l0.length l0)) (hc0 : l0.length ≤ c0) (h : zone_find.f k l0 a1 = some r) :
  Calls Try.prog 33 #[.slice A0 l0.length c0, .int .i64 a1] w (zone_find.Post r S L w) := by
 have HR0 := Aside0.mk hr0
 have HC0 := Aside0.mk hc0
 clear hr0 hc0
 have HF := Aside0.mk hf
 have HS := Aside0.mk hs
 have HK := Aside0.mk (Keep.refl S w)
 clear hf hs
 have H : ((api_Zone_48_i1.f k l0 a1).bind fun t295 => (some t295)) = some r := h
 clear h
 replace H := Option.bind_eq_some_iff.1 H
 obtain ⟨t295, Hc10, H⟩ := H
 try dsimp only at H
 have Hc1 := Aside0.mk Hc10
 clear Hc10
 obtain rfl := Option.some.inj H
 go_enter Try.func33, Try.ntmps33
 go_wp2_with (first | ((with_reducible refine gate_dst (N := 3) rfl ?_); refine wpList_plain rfl (fun K_ hK_ => ?_); refine op_box (S := S) (cs := #[.int .i64 a1]) (t := 3) (HF.out.keep HK.out) HS.out (by first | (go_simp; done) | (go_simp; rfl)) ?_; intro g3000026 w2 hs_ hk_; refine hK_ _ _ ?_; clear hK_ K_; replace HS := Aside0.mk (hs_); replace HK := Aside0.mk (HK.out.trans hk_)) | ((with_reducible refine gate_dst (N := 7) rfl ?_); refine goesL_ (some 7) rfl rfl Try.func48 (by kernel_rfl) rfl #[.slice A0 l0.length c0, .func (.func 49) #[] #[.pointer (some ⟨g3000026, 0, none⟩)]] rfl (by (try simp only [List.map_toArray, List.map_cons, List.map_nil]); first | done | rfl | (simp; done)) ?_; have hs0_ := HS.out; (with_reducible refine (api_Zone_48_i1.slcalls k _ _ _ _ _ _ _ _ _ (HF.out.keep HK.out) hs0_ (HR0.out.keep HK.out) HC0.out Hc1.out).mono ?_); rintro e_ w3 ⟨rfl, hsr_, hkr_⟩; refine ⟨_, rfl, ?_⟩; replace HS := Aside0.mk (hsr_); replace HK := Aside0.mk (HK.out.trans hkr_)))
 go_ret
 replace HS := Aside0.mk (SL.tail HS.out)
 unfold zone_find.Post
 exact ⟨by first | rfl | (simp; done) | (simp [*]; done), HS.out, HK.out⟩
theorem zone_find.calls (k : Nat) (A0 : Option Addr) (c0 : Nat) (l0 : List (S37)) (a1 : Int) (r : Int) (w : World) (hr0 : Kd.C k37 w A0 l0.length l0) (hc0 : l0.length ≤ c0) (h : zone_find.f k l0 a1 = some r) :
  Calls Try.prog 33 #[.slice A0 l0.length c0, .int .i64 a1] w fun e w' => e = .returned (.int .i64 r) ∧ Below w.heap.size w w' :=
 (zone_find.slcalls k A0 c0 l0 a1 r (news w) [] w (fresh_news w) trivial (RO.top hr0) hc0 h).mono fun _ _ h => ⟨h.1, h.2.2.to_below⟩

/-! ### zone_moved: function 36 -/
def zone_moved.f (k : Nat) (a0 : Int) (a1 : Int) (a2 : Int) : Option (Int) := (sat_Sub.f k a2 a1).bind fun t296 => ((sat_Add.f k a0 t296).bind fun t297 => (some t297))
theorem zone_moved.mono : ∀ a0 a1 a2 k, LeO (zone_moved.f k a0 a1 a2) (zone_moved.f (k + 1) a0 a1 a2) := by
 intro a0 a1 a2 k
 unfold zone_moved.f
 repeat' first
   | (with_reducible exact sat_Add.mono _ _ _)
   | (with_reducible exact sat_Sub.mono _ _ _)
   | (with_reducible exact LeO.refl _)
   | (with_reducible exact LeO.none _)
   | (with_reducible refine LeO.ite ?_ ?_)
   | (with_reducible refine LeO.bind ?_ (fun _ => ?_))
   | exact sat_Add.mono _ _ _
   | exact sat_Sub.mono _ _ _
   | exact LeO.none _
   | refine LeO.ite ?_ ?_
   | refine LeO.bind ?_ (fun _ => ?_)
set_option maxHeartbeats 8000000 in
set_option maxRecDepth 100000 in
theorem zone_moved.calls (k : Nat) (a0 : Int) (a1 : Int) (a2 : Int) (r : Int) (w : World) (h : zone_moved.f k a0 a1 a2 = some r) :
  Calls Try.prog 36 #[.int .i64 a0, .int .i64 a1, .int .i64 a2] w fun e w' => e = .returned (.int .i64 r) ∧ Drawn0 w w' := by
 have H : ((sat_Sub.f k a2 a1).bind fun t296 => ((sat_Add.f k a0 t296).bind fun t297 => (some t297))) = some r := h
 clear h
 replace H := Option.bind_eq_some_iff.mp H
 obtain ⟨t296, A40, H⟩ := H
 replace H : ((sat_Add.f k a0 t296).bind fun t297 => (some t297)) = some r := H
 have A4 := Aside0.mk A40
 clear A40
 replace H := Option.bind_eq_some_iff.mp H
 obtain ⟨t297, A50, H⟩ := H
 replace H : (some t297) = some r := H
 have A5 := Aside0.mk A50
 clear A50
 obtain rfl := Option.some.inj H
 go_enter Try.func36, Try.ntmps36
 go_wp2_with (first | ((with_reducible refine gate_callee (f := 50) rfl ?_); refine goesL_ (some 10) rfl rfl Try.func50 (by kernel_rfl) rfl #[.int .i64 a2, .int .i64 a1] rfl (by (try simp only [List.map_toArray, List.map_cons, List.map_nil]); first | done | rfl | (simp only [List.length_drop, List.length_take]; rfl)) ?_; (with_reducible refine (sat_Sub.calls k a2 a1 t296 _ A4.out).mono ?_); rintro e w' ⟨rfl, ⟨nd, rfl⟩⟩; refine ⟨_, rfl, ?_⟩) | ((with_reducible refine gate_callee (f := 26) rfl ?_); refine goesL_ (some 11) rfl rfl Try.func26 (by kernel_rfl) rfl #[.int .i64 a0, .int .i64 t296] rfl (by (try simp only [List.map_toArray, List.map_cons, List.map_nil]); first | done | rfl | (simp only [List.length_drop, List.length_take]; rfl)) ?_; (with_reducible refine (sat_Add.calls k a0 t296 t297 _ A5.out).mono ?_); rintro e w' ⟨rfl, ⟨nd, rfl⟩⟩; refine ⟨_, rfl, ?_⟩))
 go_ret
 exact ⟨by first | rfl | (simp; done) | (simp [*]; done), by repeat (first | exact Drawn0.refl _ | apply Drawn0.step)⟩

/-! ### zone_Shift: function 18 -/
def zone_Shift.f (k : Nat) (l0 : List (S37)) (a1 : Int) (a2_0 : Int) (a2_1 : Int) : Option ((List (S37)) × Int) := (api_Zone_30.f l0).bind fun t304 => ((zone_find.f k t304 a1).bind fun t305 => (if t305 < 0 then (some (([] : List (S37)), 5)) else (if 0 ≤ t305 then (if t305 < (t304.length : Int) then ((zone_moved.f k ((rd_T37 t304 t305).f1.f2.f0) ((rd_T37 t304 t305).f1.f1.f0) a2_0).bind fun t307 => ((zone_moved.f k ((rd_T37 t304 t305).f1.f2.f1) ((rd_T37 t304 t305).f1.f1.f1) a2_1).bind fun t308 => ((some (t304.set (t305).toNat (⟨(rd_T37 t304 t305).f0, (⟨(rd_T37 t304 t305).f1.f0, (⟨(rd_T37 t304 t305).f1.f1.f0, (rd_T37 t304 t305).f1.f1.f1⟩ : S31), (⟨t307, t308⟩ : S31), (rd_T37 t304 t305).f1.f3, (rd_T37 t304 t305).f1.f4⟩ : S33), (rd_T37 t304 t305).f2, (rd_T37 t304 t305).f3, (rd_T37 t304 t305).f4, (⟨(rd_T37 t304 t305).f5.f0, (rd_T37 t304 t305).f5.f1, (rd_T37 t304 t305).f5.f2⟩ : S35), (rd_T37 t304 t305).f6, (rd_T37 t304 t305).f7⟩ : S37) : List (S37))).bind fun y309 => ((some (y309.set (t305).toNat (⟨(rd_T37 y309 t305).f0, (⟨(rd_T37 y309 t305).f1.f0, (⟨a2_0, a2_1⟩ : S31), (⟨(rd_T37 y309 t305).f1.f2.f0, (rd_T37 y309 t305).f1.f2.f1⟩ : S31), (rd_T37 y309 t305).f1.f3, (rd_T37 y309 t305).f1.f4⟩ : S33), (rd_T37 y309 t305).f2, (rd_T37 y309 t305).f3, (rd_T37 y309 t305).f4, (⟨(rd_T37 y309 t305).f5.f0, (rd_T37 y309 t305).f5.f1, (rd_T37 y309 t305).f5.f2⟩ : S35), (rd_T37 y309 t305).f6, (rd_T37 y309 t305).f7⟩ : S37) : List (S37))).bind fun y310 => ((area_Right.f ((rd_T37 y310 t305).f1.f0) ((rd_T37 y310 t305).f1.f1.f0) ((rd_T37 y310 t305).f1.f1.f1) ((rd_T37 y310 t305).f1.f2.f0) ((rd_T37 y310 t305).f1.f2.f1) ((rd_T37 y310 t305).f1.f3) ((rd_T37 y310 t305).f1.f4)).bind fun t312 => (if t312 = true then (some (y310, 0)) else (some (([] : List (S37)), 1)))))))) else (none)) else (none))))
theorem zone_Shift.mono : ∀ a0 a1 a2 a3 k, LeO (zone_Shift.f k a0 a1 a2 a3) (zone_Shift.f (k + 1) a0 a1 a2 a3) := by
 intro a0 a1 a2 a3 k
 unfold zone_Shift.f
 repeat' first
   | (with_reducible exact zone_find.mono _ _ _)
   | (with_reducible exact zone_moved.mono _ _ _ _)
   | (with_reducible exact LeO.refl _)
   | (with_reducible exact LeO.none _)
   | (with_reducible refine LeO.ite ?_ ?_)
   | (with_reducible refine everyOf_le (fun _ => ?_))
   | (with_reducible refine LeO.bind ?_ (fun _ => ?_))
   | exact zone_find.mono _ _ _
   | exact zone_moved.mono _ _ _ _
   | exact LeO.none _
   | refine LeO.ite ?_ ?_
   | refine LeO.bind ?_ (fun _ => ?_)
def zone_Shift.T6 : Bool × List (List Nat × List Nat) := (true, [([], []), ([], []), ([1], [1]), ([2], [2]), ([3], [3]), ([4], [4]), ([], []), ([6], [6]), ([7], [7]), ([8], [8]), ([9], [9]), ([], []), ([11], [11]), ([5, 10, 12], [5, 10, 12]), ([], []), ([14], [14]), ([15], [15]), ([16], [16]), ([17], [17]), ([], []), ([19], [19]), ([20], [20]), ([21], [21]), ([22], [22]), ([], []), ([24], [24]), ([18, 23, 25, 13], [18, 23, 25]), ([13, 26], [13, 26]), ([0, 0, 1, 2, 3, 4, 5, 6, 7, 8, 9, 10, 11, 12, 13, 14, 15, 16, 17, 18, 19, 20, 21, 22, 23, 24, 25, 26, 27], [0]), ([28, 0, 1, 2, 3, 4, 5, 6, 7, 8, 9, 10, 11, 12, 13, 14, 15, 16, 17, 18, 19, 20, 21, 22, 23, 24, 25, 26, 27], [28]), ([29, 27, 26, 0, 1, 2, 3, 4, 5, 6, 7, 8, 9, 10, 11, 12, 13, 14, 15, 16, 17, 18, 19, 20, 21, 22, 23, 24, 25, 26, 27], [27, 29])])
def zone_Shift.B6 : List Nat := [0, 0, 2, 6, 14, 30, 0, 64, 192, 448, 960, 0, 2048, 8190, 0, 16384, 49152, 114688, 245760, 0, 524288, 1572864, 3670016, 7864320, 0, 16777216, 67108862, 134217726, 268435455, 536870911, 1073741823]
theorem zone_Shift.tab6 : rtab .any (opsOf Try.f18 6) = zone_Shift.T6 := by kernel_rfl
theorem zone_Shift.bits6 : waitsOk zone_Shift.T6.2 zone_Shift.B6 = true := by kernel_rfl
def zone_Shift.Post (r1 : List (S37)) (r2 : Int) (S : Nat → Prop) (L : List Asr) (w : World) (e : Ending) (w' : World) : Prop := ∃ (Ar1 : Option Addr) (cr1 : Nat), e = .returned (.tuple #[.slice Ar1 r1.length cr1, .int .i64 r2]) ∧ SL (row k37 37 (.slice Ar1 r1.length cr1) r1 :: L) w' S ∧ Keep S w w'
set_option maxHeartbeats 8000000 in
set_option maxRecDepth 100000 in
theorem zone_Shift.slcalls (k : Nat) (A0 : Option Addr) (c0 : Nat) (l0 : List (S37)) (a1 : Int) (a2_0 : Int) (a2_1 : Int) (r1 : List (S37)) (r2 : Int) (S : Nat → Prop) (L : List Asr) (w : World) (hf : Fresh S w) (hs : SL (L) w S) (hr0 : RO S w (fun w_ => Kd.C k37 w_ A0 l0.length l0)) (hc0 : l0.length ≤ c0) (h : zone_Shift.f k l0 a1 a2_0 a2_1 = some (r1, r2)) :
  Calls Try.prog 18 #[.slice A0 l0.length c0, .int .i64 a1, .agg #[.int .i64 a2_0, .int .i64 a2_1]] w (zone_Shift.Post r1 r2 S L w) := by
 have HR0 := Aside0.mk hr0
 have HC0 := Aside0.mk hc0
 clear hr0 hc0
 have HF := Aside0.mk hf
 have HS := Aside0.mk hs
 have HK := Aside0.mk (Keep.refl S w)
 clear hf hs
 have hu31 := Try.underlying31
 have hu33 := Try.underlying33
 have H : ((api_Zone_30.f l0).bind fun t304 => ((zone_find.f k t304 a1).bind fun t305 => (if t305 < 0 then (some (([] : List (S37)), 5)) else (if 0 ≤ t305 then (if t305 < (t304.length : Int) then ((zone_moved.f k ((rd_T37 t304 t305).f1.f2.f0) ((rd_T37 t304 t305).f1.f1.f0) a2_0).bind fun t307 => ((zone_moved.f k ((rd_T37 t304 t305).f1.f2.f1) ((rd_T37 t304 t305).f1.f1.f1) a2_1).bind fun t308 => ((some (t304.set (t305).toNat (⟨(rd_T37 t304 t305).f0, (⟨(rd_T37 t304 t305).f1.f0, (⟨(rd_T37 t304 t305).f1.f1.f0, (rd_T37 t304 t305).f1.f1.f1⟩ : S31), (⟨t307, t308⟩ : S31), (rd_T37 t304 t305).f1.f3, (rd_T37 t304 t305).f1.f4⟩ : S33), (rd_T37 t304 t305).f2, (rd_T37 t304 t305).f3, (rd_T37 t304 t305).f4, (⟨(rd_T37 t304 t305).f5.f0, (rd_T37 t304 t305).f5.f1, (rd_T37 t304 t305).f5.f2⟩ : S35), (rd_T37 t304 t305).f6, (rd_T37 t304 t305).f7⟩ : S37) : List (S37))).bind fun y309 => ((some (y309.set (t305).toNat (⟨(rd_T37 y309 t305).f0, (⟨(rd_T37 y309 t305).f1.f0, (⟨a2_0, a2_1⟩ : S31), (⟨(rd_T37 y309 t305).f1.f2.f0, (rd_T37 y309 t305).f1.f2.f1⟩ : S31), (rd_T37 y309 t305).f1.f3, (rd_T37 y309 t305).f1.f4⟩ : S33), (rd_T37 y309 t305).f2, (rd_T37 y309 t305).f3, (rd_T37 y309 t305).f4, (⟨(rd_T37 y309 t305).f5.f0, (rd_T37 y309 t305).f5.f1, (rd_T37 y309 t305).f5.f2⟩ : S35), (rd_T37 y309 t305).f6, (rd_T37 y309 t305).f7⟩ : S37) : List (S37))).bind fun y310 => ((area_Right.f ((rd_T37 y310 t305).f1.f0) ((rd_T37 y310 t305).f1.f1.f0) ((rd_T37 y310 t305).f1.f1.f1) ((rd_T37 y310 t305).f1.f2.f0) ((rd_T37 y310 t305).f1.f2.f1) ((rd_T37 y310 t305).f1.f3) ((rd_T37 y310 t305).f1.f4)).bind fun t312 => (if t312 = true then (some (y310, 0)) else (some (([] : List (S37)), 1)))))))) else (none)) else (none))))) = some (r1, r2) := h
 clear h
 replace H := Option.bind_eq_some_iff.1 H
 obtain ⟨t304, Hc10, H⟩ := H
 try dsimp only at H
 have Hc1 := Aside0.mk Hc10
 clear Hc10
 replace H := Option.bind_eq_some_iff.1 H
 obtain ⟨t305, Hc20, H⟩ := H
 try dsimp only at H
 have Hc2 := Aside0.mk Hc20
 clear Hc20
 have H' := Aside0.mk H
 clear H
 go_enter Try.func18, Try.ntmps18
 go_wp2_with (first | ((with_reducible refine gate_dst (N := 5) rfl ?_); refine wpList_plain rfl (fun K_ hK_ => ?_); refine op_box (S := S) (cs := #[.int .i64 a2_0, .int .i64 a2_1]) (t := 31) (HF.out.keep HK.out) HS.out (by first | (go_simp; done) | (go_simp; rfl)) ?_; intro g3000028 w3 hs_ hk_; refine hK_ _ _ ?_; clear hK_ K_; replace HS := Aside0.mk (hs_); replace HK := Aside0.mk (HK.out.trans hk_)) | ((with_reducible refine gate_dst (N := 12) rfl ?_); refine goesL_ (some 12) rfl rfl Try.func30 (by kernel_rfl) rfl #[.slice A0 l0.length c0] rfl (by (try simp only [List.map_toArray, List.map_cons, List.map_nil]); first | done | rfl | (simp; done)) ?_; (with_reducible refine (api_Zone_30.calls _ _ _ _ _ (RO.at_ HR0.out HK.out) HC0.out Hc1.out).mono ?_); rintro e_ w4 ⟨v3000029_, rfl, ho3000029_, hb_⟩; refine ⟨_, rfl, ?_⟩; have hs_ := (SL.new (HF.out.keep HK.out) HS.out hb_ (row_of_R ho3000029_)).1; obtain ⟨Az3000029, cz3000029, e2_, _, _⟩ := SL.row_reads hs_; subst e2_; replace HS := Aside0.mk (hs_); replace HK := Aside0.mk (HK.out.trans (Keep.below hb_))) | ((with_reducible refine gate_dst (N := 15) rfl ?_); refine goesL_ (some 15) rfl rfl Try.func33 (by kernel_rfl) rfl #[.slice Az3000029 t304.length cz3000029, .int .i64 a1] rfl (by (try simp only [List.map_toArray, List.map_cons, List.map_nil]); first | done | rfl | (simp; done)) ?_; (with_reducible refine (zone_find.calls k _ _ _ _ _ _ (SL.row_c HS.out).2.2 (SL.row_c HS.out).2.1 Hc2.out).mono ?_); rintro e_ w5 ⟨rfl, hb_⟩; refine ⟨_, rfl, ?_⟩; replace HS := Aside0.mk (HS.out.below hb_); replace HK := Aside0.mk (HK.out.trans (Keep.below hb_)); refine stop_ ?_; intro G_ hG_))
 have H := H'.out
 clear H'
 by_cases c6 : t305 < 0
 ·rw [if_pos c6] at H
  have c6b0 : decide (t305 < 0) = true := decide_eq_true c6
  clear c6
  simp only [Option.some.injEq, Prod.mk.injEq] at H
  obtain ⟨rfl, rfl⟩ := H
  have n2_ := Aside0.mk (SL.nil_row k37 37 HS.out)
  clear HS
  have HS := n2_
  clear n2_
  refine hG_.out ?_
  try simp only [c6b0]
  go_wp2
  go_ret2
  replace HS := Aside0.mk (SL.tail (SL.get1 (SL.tail (SL.get1 HS.out))))
  unfold zone_Shift.Post
  exact ⟨none, 0, by first | rfl | (simp; done) | (simp [*]; done) | (simp at c6b0 ⊢; first | exact c6b0 | (simp [c6b0]; done)), HS.out, HK.out⟩
 ·rw [if_neg c6] at H
  have c6b0 : decide (t305 < 0) = false := decide_eq_false c6
  clear c6
  by_cases c7 : 0 ≤ t305
  ·rw [if_pos c7] at H
   have c7b0 : decide (0 ≤ t305) = true := decide_eq_true c7
   clear c7
   by_cases c8 : t305 < (t304.length : Int)
   ·rw [if_pos c8] at H
    have c8b0 : decide (t305 < (t304.length : Int)) = true := decide_eq_true c8
    clear c8
    replace H := Option.bind_eq_some_iff.1 H
    obtain ⟨t307, Hc90, H⟩ := H
    try dsimp only at H
    have Hc9 := Aside0.mk Hc90
    clear Hc90
    replace H := Option.bind_eq_some_iff.1 H
    obtain ⟨t308, Hc100, H⟩ := H
    try dsimp only at H
    have Hc10 := Aside0.mk Hc100
    clear Hc100
    replace H := Option.bind_eq_some_iff.1 H
    obtain ⟨y309, hy3090, H⟩ := H
    try dsimp only at H
    have hy309 := Option.some.inj hy3090
    clear hy3090
    have Ny309 := Aside0.mk hy309
    clear hy309
    replace H := Option.bind_eq_some_iff.1 H
    obtain ⟨y310, hy3100, H⟩ := H
    try dsimp only at H
    have hy310 := Option.some.inj hy3100
    clear hy3100
    have Ny310 := Aside0.mk hy310
    clear hy310
    replace H := Option.bind_eq_some_iff.1 H
    obtain ⟨t312, Hc110, H⟩ := H
    try dsimp only at H
    have Hc11 := Aside0.mk Hc110
    clear Hc110
    have H' := Aside0.mk H
    clear H
    have pq306 : 0 ≤ (t305 : Int) := of_decide_eq_true (by first | (with_reducible assumption) | assumption)
    have qq306 : t305 < ((t304.length : Int) : Int) := of_decide_eq_true (by first | (with_reducible assumption) | assumption)
    obtain ⟨adq306, eq306, hxq306_0, hxq306_1, hxq306_2, hxq306_3, hxq306_4, hxq306_5, hxq306_6, hxq306_7, hxq306_8, hxq306_9, hxq306_10, hxq306_11, hxq306_12, hxq306_13, hxq306_14, hxq306_15⟩ := at_T37 (SL.row_c HS.out).2.2 t305 pq306 qq306
    cases eq306
    replace pq306 := eq_true pq306
    replace qq306 := eq_true qq306
    refine hG_.out ?_
    try simp only [c6b0, c7b0, c8b0]
    try go_wp2
    refine start_ (n := 31) (S := fun w' => w'.cell? ⟨(adq306.add (t305.toNat * 16)).block, (adq306.add (t305.toNat * 16)).off + 4, none⟩ = some (.int .i64 ((rd_T37 t304 t305).f1.f2.f0)) ∧ w'.cell? ⟨(adq306.add (t305.toNat * 16)).block, (adq306.add (t305.toNat * 16)).off + 2, none⟩ = some (.int .i64 ((rd_T37 t304 t305).f1.f1.f0)) ∧ w'.cell? ⟨g3000028, 0, none⟩ = some (.int .i64 a2_0) ∧ w'.cell? ⟨(adq306.add (t305.toNat * 16)).block, (adq306.add (t305.toNat * 16)).off + 5, none⟩ = some (.int .i64 ((rd_T37 t304 t305).f1.f2.f1)) ∧ w'.cell? ⟨(adq306.add (t305.toNat * 16)).block, (adq306.add (t305.toNat * 16)).off + 3, none⟩ = some (.int .i64 ((rd_T37 t304 t305).f1.f1.f1)) ∧ w'.cell? ⟨g3000028, 1, none⟩ = some (.int .i64 a2_1)) (ds := [30]) #[O,O,O,O,O,O,O,O,O,O,O,O,O,O,O,O,O,O,O,O,O,O,O,O,O,O,O,O,O,O,O] (by kernel_rfl) rfl rfl ⟨(by obtain ⟨a_, e_, h0_, h1_, h2_, h3_, h4_, h5_, h6_, h7_, h8_, h9_, h10_, h11_, h12_, h13_, h14_, h15_⟩ := at_T37 (SL.row_c HS.out).2.2 t305 (of_eq_true pq306) (of_eq_true qq306); obtain rfl := Option.some.inj e_; exact h4_), (by obtain ⟨a_, e_, h0_, h1_, h2_, h3_, h4_, h5_, h6_, h7_, h8_, h9_, h10_, h11_, h12_, h13_, h14_, h15_⟩ := at_T37 (SL.row_c HS.out).2.2 t305 (of_eq_true pq306) (of_eq_true qq306); obtain rfl := Option.some.inj e_; exact h2_), bc (SL.get1 HS.out) 0 rfl, (by obtain ⟨a_, e_, h0_, h1_, h2_, h3_, h4_, h5_, h6_, h7_, h8_, h9_, h10_, h11_, h12_, h13_, h14_, h15_⟩ := at_T37 (SL.row_c HS.out).2.2 t305 (of_eq_true pq306) (of_eq_true qq306); obtain rfl := Option.some.inj e_; exact h5_), (by obtain ⟨a_, e_, h0_, h1_, h2_, h3_, h4_, h5_, h6_, h7_, h8_, h9_, h10_, h11_, h12_, h13_, h14_, h15_⟩ := at_T37 (SL.row_c HS.out).2.2 t305 (of_eq_true pq306) (of_eq_true qq306); obtain rfl := Option.some.inj e_; exact h3_), bc (SL.get1 HS.out) 1 rfl⟩ (fun hHeld => ?_); refine with_tabW zone_Shift.tab6 zone_Shift.bits6 (fun HT_ HW_ => ?_)
    replace HK := Aside0.mk (Keep.drew HK.out)
    replace HS := Aside0.mk (SL.drew HS.out)
    refine pure_ (i := 0) (N := some 22) (v := ?_) (a' := ?_) #[I,O,O,O,O,O,O,O,O,O,O,O,O,O,O,O,O,O,O,O,O,O,O,O,O,O,O,O,O,O,O] rfl rfl (any_of HT_.out (by kernel_rfl)) (fun _ _ _ h => h) (Or.inl ⟨by rfl, ?_⟩) ?_ ?_; rotate_left; · (intro w'; go_simp; with_reducible rfl)
    rotate_left; · (simp only [Act.put, sT, sZ, sS, i64_w, i32_w]; rfl)
    refine pure_ (i := 1) (N := some 23) (v := ?_) (a' := ?_) #[I,I,O,O,O,O,O,O,O,O,O,O,O,O,O,O,O,O,O,O,O,O,O,O,O,O,O,O,O,O,O] rfl rfl (any_of HT_.out (by kernel_rfl)) (fun _ _ _ h => h) (Or.inl ⟨by rfl, ?_⟩) ?_ ?_; rotate_left; · (intro w'; go_simp; with_reducible rfl)
    rotate_left; · (simp only [Act.put, sT, sZ, sS, i64_w, i32_w]; rfl)
    refine pure_ (i := 2) (N := some 24) (v := ?_) (a' := ?_) #[I,I,I,O,O,O,O,O,O,O,O,O,O,O,O,O,O,O,O,O,O,O,O,O,O,O,O,O,O,O,O] rfl rfl (any_of HT_.out (by kernel_rfl)) (fun _ _ _ h => h) (Or.inl ⟨by rfl, ?_⟩) ?_ ?_; rotate_left; · (intro w'; go_simp; with_reducible rfl)
    rotate_left; · (simp only [Act.put, sT, sZ, sS, i64_w, i32_w]; rfl)
    refine pure_ (i := 3) (N := some 25) (v := ?_) (a' := ?_) #[I,I,I,I,O,O,O,O,O,O,O,O,O,O,O,O,O,O,O,O,O,O,O,O,O,O,O,O,O,O,O] rfl rfl (any_of HT_.out (by kernel_rfl)) (fun _ _ _ h => h) (Or.inl ⟨by rfl, ?_⟩) ?_ ?_; rotate_left; · (intro w'; go_simp; with_reducible rfl)
    rotate_left; · (simp only [Act.put, sT, sZ, sS, i64_w, i32_w]; rfl)
    refine pure_ (i := 4) (N := some 26) (v := ?_) (a' := ?_) #[I,I,I,I,I,O,O,O,O,O,O,O,O,O,O,O,O,O,O,O,O,O,O,O,O,O,O,O,O,O,O] rfl rfl (any_of HT_.out (by kernel_rfl)) (fun _ _ _ h => h) (Or.inl ⟨by rfl, ?_⟩) ?_ ?_; rotate_left; · (intro w'; go_simp; with_reducible rfl)
    rotate_left; · (simp only [Act.put, sT, sZ, sS, i64_w, i32_w]; rfl)
    refine pure_ (i := 6) (N := some 28) (v := ?_) (a' := ?_) #[I,I,I,I,I,O,I,O,O,O,O,O,O,O,O,O,O,O,O,O,O,O,O,O,O,O,O,O,O,O,O] rfl rfl (any_of HT_.out (by kernel_rfl)) (fun _ _ _ h => h) (Or.inl ⟨by rfl, ?_⟩) ?_ ?_; rotate_left; · (intro w'; go_simp; with_reducible rfl)
    rotate_left; · (simp only [Act.put, sT, sZ, sS, i64_w, i32_w]; rfl)
    refine pure_ (i := 7) (N := some 29) (v := ?_) (a' := ?_) #[I,I,I,I,I,O,I,I,O,O,O,O,O,O,O,O,O,O,O,O,O,O,O,O,O,O,O,O,O,O,O] rfl rfl (any_of HT_.out (by kernel_rfl)) (fun _ _ _ h => h) (Or.inl ⟨by rfl, ?_⟩) ?_ ?_; rotate_left; · (intro w'; go_simp; with_reducible rfl)
    rotate_left; · (simp only [Act.put, sT, sZ, sS, i64_w, i32_w]; rfl)
    refine pure_ (i := 8) (N := some 30) (v := ?_) (a' := ?_) #[I,I,I,I,I,O,I,I,I,O,O,O,O,O,O,O,O,O,O,O,O,O,O,O,O,O,O,O,O,O,O] rfl rfl (any_of HT_.out (by kernel_rfl)) (fun _ _ _ h => h) (Or.inl ⟨by rfl, ?_⟩) ?_ ?_; rotate_left; · (intro w'; go_simp; with_reducible rfl)
    rotate_left; · (simp only [Act.put, sT, sZ, sS, i64_w, i32_w]; rfl)
    refine pure_ (i := 9) (N := some 31) (v := ?_) (a' := ?_) #[I,I,I,I,I,O,I,I,I,I,O,O,O,O,O,O,O,O,O,O,O,O,O,O,O,O,O,O,O,O,O] rfl rfl (any_of HT_.out (by kernel_rfl)) (fun _ _ _ h => h) (Or.inl ⟨by rfl, ?_⟩) ?_ ?_; rotate_left; · (intro w'; go_simp; with_reducible rfl)
    rotate_left; · (simp only [Act.put, sT, sZ, sS, i64_w, i32_w]; rfl)
    refine pure_ (i := 11) (N := some 33) (v := ?_) (a' := ?_) #[I,I,I,I,I,O,I,I,I,I,O,I,O,O,O,O,O,O,O,O,O,O,O,O,O,O,O,O,O,O,O] rfl rfl (any_of HT_.out (by kernel_rfl)) (fun _ _ _ h => h) (Or.inl ⟨by rfl, ?_⟩) ?_ ?_; rotate_left; · (intro w'; go_simp; with_reducible rfl)
    rotate_left; · (simp only [Act.put, sT, sZ, sS, i64_w, i32_w]; rfl)
    refine pure_ (i := 14) (N := some 36) (v := ?_) (a' := ?_) #[I,I,I,I,I,O,I,I,I,I,O,I,O,O,I,O,O,O,O,O,O,O,O,O,O,O,O,O,O,O,O] rfl rfl (any_of HT_.out (by kernel_rfl)) (fun _ _ _ h => h) (Or.inl ⟨by rfl, ?_⟩) ?_ ?_; rotate_left; · (intro w'; go_simp; with_reducible rfl)
    rotate_left; · (simp only [Act.put, sT, sZ, sS, i64_w, i32_w]; rfl)
    refine pure_ (i := 15) (N := some 37) (v := ?_) (a' := ?_) #[I,I,I,I,I,O,I,I,I,I,O,I,O,O,I,I,O,O,O,O,O,O,O,O,O,O,O,O,O,O,O] rfl rfl (any_of HT_.out (by kernel_rfl)) (fun _ _ _ h => h) (Or.inl ⟨by rfl, ?_⟩) ?_ ?_; rotate_left; · (intro w'; go_simp; with_reducible rfl)
    rotate_left; · (simp only [Act.put, sT, sZ, sS, i64_w, i32_w]; rfl)
    refine pure_ (i := 16) (N := some 38) (v := ?_) (a' := ?_) #[I,I,I,I,I,O,I,I,I,I,O,I,O,O,I,I,I,O,O,O,O,O,O,O,O,O,O,O,O,O,O] rfl rfl (any_of HT_.out (by kernel_rfl)) (fun _ _ _ h => h) (Or.inl ⟨by rfl, ?_⟩) ?_ ?_; rotate_left; · (intro w'; go_simp; with_reducible rfl)
    rotate_left; · (simp only [Act.put, sT, sZ, sS, i64_w, i32_w]; rfl)
    refine pure_ (i := 17) (N := some 39) (v := ?_) (a' := ?_) #[I,I,I,I,I,O,I,I,I,I,O,I,O,O,I,I,I,I,O,O,O,O,O,O,O,O,O,O,O,O,O] rfl rfl (any_of HT_.out (by kernel_rfl)) (fun _ _ _ h => h) (Or.inl ⟨by rfl, ?_⟩) ?_ ?_; rotate_left; · (intro w'; go_simp; with_reducible rfl)
    rotate_left; · (simp only [Act.put, sT, sZ, sS, i64_w, i32_w]; rfl)
    refine pure_ (i := 19) (N := some 41) (v := ?_) (a' := ?_) #[I,I,I,I,I,O,I,I,I,I,O,I,O,O,I,I,I,I,O,I,O,O,O,O,O,O,O,O,O,O,O] rfl rfl (any_of HT_.out (by kernel_rfl)) (fun _ _ _ h => h) (Or.inl ⟨by rfl, ?_⟩) ?_ ?_; rotate_left; · (intro w'; go_simp; with_reducible rfl)
    rotate_left; · (simp only [Act.put, sT, sZ, sS, i64_w, i32_w]; rfl)
    refine pure_ (i := 20) (N := some 42) (v := ?_) (a' := ?_) #[I,I,I,I,I,O,I,I,I,I,O,I,O,O,I,I,I,I,O,I,I,O,O,O,O,O,O,O,O,O,O] rfl rfl (any_of HT_.out (by kernel_rfl)) (fun _ _ _ h => h) (Or.inl ⟨by rfl, ?_⟩) ?_ ?_; rotate_left; · (intro w'; go_simp; with_reducible rfl)
    rotate_left; · (simp only [Act.put, sT, sZ, sS, i64_w, i32_w]; rfl)
    refine pure_ (i := 21) (N := some 43) (v := ?_) (a' := ?_) #[I,I,I,I,I,O,I,I,I,I,O,I,O,O,I,I,I,I,O,I,I,I,O,O,O,O,O,O,O,O,O] rfl rfl (any_of HT_.out (by kernel_rfl)) (fun _ _ _ h => h) (Or.inl ⟨by rfl, ?_⟩) ?_ ?_; rotate_left; · (intro w'; go_simp; with_reducible rfl)
    rotate_left; · (simp only [Act.put, sT, sZ, sS, i64_w, i32_w]; rfl)
    refine pure_ (i := 22) (N := some 44) (v := ?_) (a' := ?_) #[I,I,I,I,I,O,I,I,I,I,O,I,O,O,I,I,I,I,O,I,I,I,I,O,O,O,O,O,O,O,O] rfl rfl (any_of HT_.out (by kernel_rfl)) (fun _ _ _ h => h) (Or.inl ⟨by rfl, ?_⟩) ?_ ?_; rotate_left; · (intro w'; go_simp; with_reducible rfl)
    rotate_left; · (simp only [Act.put, sT, sZ, sS, i64_w, i32_w]; rfl)
    refine pure_ (i := 24) (N := some 46) (v := ?_) (a' := ?_) #[I,I,I,I,I,O,I,I,I,I,O,I,O,O,I,I,I,I,O,I,I,I,I,O,I,O,O,O,O,O,O] rfl rfl (any_of HT_.out (by kernel_rfl)) (fun _ _ _ h => h) (Or.inl ⟨by rfl, ?_⟩) ?_ ?_; rotate_left; · (intro w'; go_simp; with_reducible rfl)
    rotate_left; · (simp only [Act.put, sT, sZ, sS, i64_w, i32_w]; rfl)
    refine take_ (i := 5) (N := some 27) (v := ?_) (a' := ?_) #[I,I,I,I,I,I,I,I,I,I,O,I,O,O,I,I,I,I,O,I,I,I,I,O,I,O,O,O,O,O,O] rfl rfl (take_ofW HT_.out HW_.out (by kernel_rfl)) (fun _ _ _ h => h) (Or.inl ⟨by rfl, ?_⟩) hHeld ?_ ?_; rotate_left
    ·rintro w' ⟨s0, s1, s2, s3, s4, s5⟩
     go_simp
     with_reducible rfl
    rotate_left; · (simp only [Act.put, sT, sZ, sS, i64_w, i32_w]; rfl)
    refine take_ (i := 10) (N := some 32) (v := ?_) (a' := ?_) #[I,I,I,I,I,I,I,I,I,I,I,I,O,O,I,I,I,I,O,I,I,I,I,O,I,O,O,O,O,O,O] rfl rfl (take_ofW HT_.out HW_.out (by kernel_rfl)) (fun _ _ _ h => h) (Or.inl ⟨by rfl, ?_⟩) hHeld ?_ ?_; rotate_left
    ·rintro w' ⟨s0, s1, s2, s3, s4, s5⟩
     go_simp
     with_reducible rfl
    rotate_left; · (simp only [Act.put, sT, sZ, sS, i64_w, i32_w]; rfl)
    refine take_ (i := 12) (N := some 34) (v := ?_) (a' := ?_) #[I,I,I,I,I,I,I,I,I,I,I,I,I,O,I,I,I,I,O,I,I,I,I,O,I,O,O,O,O,O,O] rfl rfl (take_ofW HT_.out HW_.out (by kernel_rfl)) (fun _ _ _ h => h) (Or.inl ⟨by rfl, ?_⟩) hHeld ?_ ?_; rotate_left
    ·rintro w' ⟨s0, s1, s2, s3, s4, s5⟩
     go_simp
     with_reducible rfl
    rotate_left; · (simp only [Act.put, sT, sZ, sS, i64_w, i32_w]; rfl)
    refine take_ (i := 18) (N := some 40) (v := ?_) (a' := ?_) #[I,I,I,I,I,I,I,I,I,I,I,I,I,O,I,I,I,I,I,I,I,I,I,O,I,O,O,O,O,O,O] rfl rfl (take_ofW HT_.out HW_.out (by kernel_rfl)) (fun _ _ _ h => h) (Or.inl ⟨by rfl, ?_⟩) hHeld ?_ ?_; rotate_left
    ·rintro w' ⟨s0, s1, s2, s3, s4, s5⟩
     go_simp
     with_reducible rfl
    rotate_left; · (simp only [Act.put, sT, sZ, sS, i64_w, i32_w]; rfl)
    refine take_ (i := 23) (N := some 45) (v := ?_) (a' := ?_) #[I,I,I,I,I,I,I,I,I,I,I,I,I,O,I,I,I,I,I,I,I,I,I,I,I,O,O,O,O,O,O] rfl rfl (take_ofW HT_.out HW_.out (by kernel_rfl)) (fun _ _ _ h => h) (Or.inl ⟨by rfl, ?_⟩) hHeld ?_ ?_; rotate_left
    ·rintro w' ⟨s0, s1, s2, s3, s4, s5⟩
     go_simp
     with_reducible rfl
    rotate_left; · (simp only [Act.put, sT, sZ, sS, i64_w, i32_w]; rfl)
    refine take_ (i := 25) (N := some 47) (v := ?_) (a' := ?_) #[I,I,I,I,I,I,I,I,I,I,I,I,I,O,I,I,I,I,I,I,I,I,I,I,I,I,O,O,O,O,O] rfl rfl (take_ofW HT_.out HW_.out (by kernel_rfl)) (fun _ _ _ h => h) (Or.inl ⟨by rfl, ?_⟩) hHeld ?_ ?_; rotate_left
    ·rintro w' ⟨s0, s1, s2, s3, s4, s5⟩
     go_simp
     with_reducible rfl
    rotate_left; · (simp only [Act.put, sT, sZ, sS, i64_w, i32_w]; rfl)
    refine one_ (i := 13) (N := some 35) #[I,I,I,I,I,I,I,I,I,I,I,I,I,I,I,I,I,I,I,I,I,I,I,I,I,I,O,O,O,O,O] rfl rfl (one_of HT_.out (by kernel_rfl)) (by decide) (fun K hK => ?_)
    refine goes_ Try.func36 (by kernel_rfl) rfl #[.int .i64 ((rd_T37 t304 t305).f1.f2.f0), .int .i64 ((rd_T37 t304 t305).f1.f1.f0), .int .i64 a2_0] (by rfl) rfl rfl (by (try simp only [List.map_toArray, List.map_cons, List.map_nil]); first | done | rfl | (simp; done)) ?_
    (with_reducible refine (zone_moved.calls k _ _ _ _ _  Hc9.out).mono ?_)
    rintro e_ w12 ⟨rfl, hb_⟩
    refine ⟨_, rfl, ?_⟩
    replace hb_ := Drawn0.below hb_
    replace HS := Aside0.mk (HS.out.below hb_)
    replace HK := Aside0.mk (HK.out.trans (Keep.below hb_))
    refine hK.out _ _ ⟨(by obtain ⟨a_, e_, h0_, h1_, h2_, h3_, h4_, h5_, h6_, h7_, h8_, h9_, h10_, h11_, h12_, h13_, h14_, h15_⟩ := at_T37 (SL.row_c HS.out).2.2 t305 (of_eq_true pq306) (of_eq_true qq306); obtain rfl := Option.some.inj e_; exact h4_), (by obtain ⟨a_, e_, h0_, h1_, h2_, h3_, h4_, h5_, h6_, h7_, h8_, h9_, h10_, h11_, h12_, h13_, h14_, h15_⟩ := at_T37 (SL.row_c HS.out).2.2 t305 (of_eq_true pq306) (of_eq_true qq306); obtain rfl := Option.some.inj e_; exact h2_), bc (SL.get1 HS.out) 0 rfl, (by obtain ⟨a_, e_, h0_, h1_, h2_, h3_, h4_, h5_, h6_, h7_, h8_, h9_, h10_, h11_, h12_, h13_, h14_, h15_⟩ := at_T37 (SL.row_c HS.out).2.2 t305 (of_eq_true pq306) (of_eq_true qq306); obtain rfl := Option.some.inj e_; exact h5_), (by obtain ⟨a_, e_, h0_, h1_, h2_, h3_, h4_, h5_, h6_, h7_, h8_, h9_, h10_, h11_, h12_, h13_, h14_, h15_⟩ := at_T37 (SL.row_c HS.out).2.2 t305 (of_eq_true pq306) (of_eq_true qq306); obtain rfl := Option.some.inj e_; exact h3_), bc (SL.get1 HS.out) 1 rfl⟩ (fun hHeld => ?_)
    clear hK K
    refine norm_ (a' := ?_) ?_ ?_; rotate_left
    ·show Act.put _ (some 35) _ = _
     simp only [Act.put, sT, sZ, sS, i64_w, i32_w]
     rfl
    refine one_ (i := 26) (N := some 48) #[I,I,I,I,I,I,I,I,I,I,I,I,I,I,I,I,I,I,I,I,I,I,I,I,I,I,I,O,O,O,O] rfl rfl (one_of HT_.out (by kernel_rfl)) (by decide) (fun K hK => ?_)
    refine goes_ Try.func36 (by kernel_rfl) rfl #[.int .i64 ((rd_T37 t304 t305).f1.f2.f1), .int .i64 ((rd_T37 t304 t305).f1.f1.f1), .int .i64 a2_1] (by rfl) rfl rfl (by (try simp only [List.map_toArray, List.map_cons, List.map_nil]); first | done | rfl | (simp; done)) ?_
    (with_reducible refine (zone_moved.calls k _ _ _ _ _  Hc10.out).mono ?_)
    rintro e_ w13 ⟨rfl, hb_⟩
    refine ⟨_, rfl, ?_⟩
    replace hb_ := Drawn0.below hb_
    replace HS := Aside0.mk (HS.out.below hb_)
    replace HK := Aside0.mk (HK.out.trans (Keep.below hb_))
    refine hK.out _ _ ⟨(by obtain ⟨a_, e_, h0_, h1_, h2_, h3_, h4_, h5_, h6_, h7_, h8_, h9_, h10_, h11_, h12_, h13_, h14_, h15_⟩ := at_T37 (SL.row_c HS.out).2.2 t305 (of_eq_true pq306) (of_eq_true qq306); obtain rfl := Option.some.inj e_; exact h4_), (by obtain ⟨a_, e_, h0_, h1_, h2_, h3_, h4_, h5_, h6_, h7_, h8_, h9_, h10_, h11_, h12_, h13_, h14_, h15_⟩ := at_T37 (SL.row_c HS.out).2.2 t305 (of_eq_true pq306) (of_eq_true qq306); obtain rfl := Option.some.inj e_; exact h2_), bc (SL.get1 HS.out) 0 rfl, (by obtain ⟨a_, e_, h0_, h1_, h2_, h3_, h4_, h5_, h6_, h7_, h8_, h9_, h10_, h11_, h12_, h13_, h14_, h15_⟩ := at_T37 (SL.row_c HS.out).2.2 t305 (of_eq_true pq306) (of_eq_true qq306); obtain rfl := Option.some.inj e_; exact h5_), (by obtain ⟨a_, e_, h0_, h1_, h2_, h3_, h4_, h5_, h6_, h7_, h8_, h9_, h10_, h11_, h12_, h13_, h14_, h15_⟩ := at_T37 (SL.row_c HS.out).2.2 t305 (of_eq_true pq306) (of_eq_true qq306); obtain rfl := Option.some.inj e_; exact h3_), bc (SL.get1 HS.out) 1 rfl⟩ (fun hHeld => ?_)
    clear hK K
    refine norm_ (a' := ?_) ?_ ?_; rotate_left
    ·show Act.put _ (some 48) _ = _
     simp only [Act.put, sT, sZ, sS, i64_w, i32_w]
     rfl
    refine pure_ (i := 27) (N := some 49) (v := ?_) (a' := ?_) #[I,I,I,I,I,I,I,I,I,I,I,I,I,I,I,I,I,I,I,I,I,I,I,I,I,I,I,I,O,O,O] rfl rfl (any_of HT_.out (by kernel_rfl)) (fun _ _ _ h => h) (Or.inl ⟨by rfl, ?_⟩) ?_ ?_; rotate_left; · (intro w'; go_simp; with_reducible rfl)
    rotate_left; · (simp only [Act.put, sT, sZ, sS, i64_w, i32_w]; rfl)
    refine pure_ (i := 28) (N := some 50) (v := ?_) (a' := ?_) #[I,I,I,I,I,I,I,I,I,I,I,I,I,I,I,I,I,I,I,I,I,I,I,I,I,I,I,I,I,O,O] rfl rfl (any_of HT_.out (by kernel_rfl)) (fun _ _ _ h => h) (Or.inl ⟨by rfl, ?_⟩) ?_ ?_; rotate_left; · (intro w'; go_simp; with_reducible rfl)
    rotate_left; · (simp only [Act.put, sT, sZ, sS, i64_w, i32_w]; rfl)
    refine pure_ (i := 29) (N := some 51) (v := ?_) (a' := ?_) #[I,I,I,I,I,I,I,I,I,I,I,I,I,I,I,I,I,I,I,I,I,I,I,I,I,I,I,I,I,I,O] rfl rfl (any_of HT_.out (by kernel_rfl)) (fun _ _ _ h => h) (Or.inl ⟨by rfl, ?_⟩) ?_ ?_; rotate_left; · (intro w'; go_simp; with_reducible rfl)
    rotate_left; · (simp only [Act.put, sT, sZ, sS, i64_w, i32_w]; rfl)
    refine last_ (i := 30) (N := none) #[I,I,I,I,I,I,I,I,I,I,I,I,I,I,I,I,I,I,I,I,I,I,I,I,I,I,I,I,I,I,I] rfl rfl (one_of HT_.out (by kernel_rfl)) (by decide) (fun K hK => ?_)
    refine st_of (by rfl) ?_
    refine op_setF (S := S) (d := k37) ⟨fun h_ => h_⟩ 31 (.tmp 51) (.tmp 49) rfl adq306 (t305) z37 4 [.int .i64 t307, .int .i64 t308] (.agg #[.int .i64 t307, .int .i64 t308]) HS.out _ (by intro g_ o_ h_; subst h_; first | rfl | (simp [Go.Addr.add]; done) | (simp [Go.Addr.add]; rfl) | (simp [Go.Addr.add]; constructor <;> split <;> simp_all [show k37.sz = 16 from rfl]) | (simp [Go.Addr.add]; split <;> simp_all [show k37.sz = 16 from rfl])) rfl (by rfl) rfl (by kernel_rfl) (by simp [Value.oneCell']) (of_decide_eq_true (by first | (with_reducible assumption) | assumption)) (of_decide_eq_true (by first | (with_reducible assumption) | assumption)) (Nat.le_of_ble_eq_true rfl) (⟨(rd_T37 t304 t305).f0, (⟨(rd_T37 t304 t305).f1.f0, (⟨(rd_T37 t304 t305).f1.f1.f0, (rd_T37 t304 t305).f1.f1.f1⟩ : S31), (⟨t307, t308⟩ : S31), (rd_T37 t304 t305).f1.f3, (rd_T37 t304 t305).f1.f4⟩ : S33), (rd_T37 t304 t305).f2, (rd_T37 t304 t305).f3, (rd_T37 t304 t305).f4, (⟨(rd_T37 t304 t305).f5.f0, (rd_T37 t304 t305).f5.f1, (rd_T37 t304 t305).f5.f2⟩ : S35), (rd_T37 t304 t305).f6, (rd_T37 t304 t305).f7⟩ : S37) (fun c_ h_ => by obtain rfl := k37_open h_; exact k37_mk _ _) y309 Ny309.out ?_
    intro w14 hs_ hk_
    replace HS := Aside0.mk ((show SL (row k37 37 (.slice (some adq306) t304.length cz3000029) y309 :: _) _ _ from hs_))
    replace HK := Aside0.mk (HK.out.trans hk_)
    refine hK.out _ _ ?_
    clear hK K
    refine done_ (done_of HT_.out (by kernel_rfl)) ?_
    have hb_ := SL.at_ (SL.get1 HS.out)
    have hz3000028_0_4 := ((blk_cell hb_ 0).trans rfl : _ = some (.int .i64 a2_0))
    have hz3000028_1_4 := ((blk_cell hb_ 1).trans rfl : _ = some (.int .i64 a2_1))
    clear hb_
    try go_wp2_with (first | ((with_reducible refine gate_store (t := 31) (p := 55) (v := (.tmp 53)) rfl ?_); refine wpList_plain rfl (fun K_ hK_ => ?_); refine op_setF (S := S) (d := k37) ⟨fun h_ => h_⟩ 31 (.tmp 55) (.tmp 53) rfl adq306 (t305) z37 2 [.int .i64 a2_0, .int .i64 a2_1] (.agg #[.int .i64 a2_0, .int .i64 a2_1]) HS.out _ (by intro g_ o_ h_; subst h_; first | rfl | (simp [Go.Addr.add]; done) | (simp [Go.Addr.add]; rfl) | (simp [Go.Addr.add]; constructor <;> split <;> simp_all [show k37.sz = 16 from rfl]) | (simp [Go.Addr.add]; split <;> simp_all [show k37.sz = 16 from rfl])) rfl (by rfl) rfl (by kernel_rfl) (by simp [Value.oneCell']) (of_decide_eq_true (by first | (with_reducible assumption) | assumption)) (of_decide_eq_true (by first | (with_reducible assumption) | assumption)) (Nat.le_of_ble_eq_true rfl) (⟨(rd_T37 y309 t305).f0, (⟨(rd_T37 y309 t305).f1.f0, (⟨a2_0, a2_1⟩ : S31), (⟨(rd_T37 y309 t305).f1.f2.f0, (rd_T37 y309 t305).f1.f2.f1⟩ : S31), (rd_T37 y309 t305).f1.f3, (rd_T37 y309 t305).f1.f4⟩ : S33), (rd_T37 y309 t305).f2, (rd_T37 y309 t305).f3, (rd_T37 y309 t305).f4, (⟨(rd_T37 y309 t305).f5.f0, (rd_T37 y309 t305).f5.f1, (rd_T37 y309 t305).f5.f2⟩ : S35), (rd_T37 y309 t305).f6, (rd_T37 y309 t305).f7⟩ : S37) (fun c_ h_ => by obtain rfl := k37_open h_; exact k37_mk _ _) y310 Ny310.out ?_; intro w15 hs_ hk_; refine hK_ _ _ ?_; clear hK_ K_; replace HS := Aside0.mk ((show SL (row k37 37 (.slice (some adq306) t304.length cz3000029) y310 :: _) _ _ from hs_)); replace HK := Aside0.mk (HK.out.trans hk_); (try clear hz3000028_0_4 hz3000028_1_4); have pq311 : 0 ≤ (t305 : Int) := of_decide_eq_true (by first | (with_reducible assumption) | assumption); have qq311 : t305 < ((t304.length : Int) : Int) := of_decide_eq_true (by first | (with_reducible assumption) | assumption); obtain ⟨adq311, eq311, hxq311_0, hxq311_1, hxq311_2, hxq311_3, hxq311_4, hxq311_5, hxq311_6, hxq311_7, hxq311_8, hxq311_9, hxq311_10, hxq311_11, hxq311_12, hxq311_13, hxq311_14, hxq311_15⟩ := at_T37 (SL.row_c HS.out).2.2 t305 pq311 qq311; obtain rfl : adq306 = adq311 := (by injection eq311); replace pq311 := eq_true pq311; replace qq311 := eq_true qq311; have hxq311_1_1 := hxq311_2; rw [show ∀ n_ : Nat, n_ + 2 = n_ + 1 + 1 from fun _ => rfl] at hxq311_1_1; have hxq311_1_2 := hxq311_3; rw [show ∀ n_ : Nat, n_ + 3 = n_ + 1 + 2 from fun _ => rfl] at hxq311_1_2; have hxq311_1_3 := hxq311_4; rw [show ∀ n_ : Nat, n_ + 4 = n_ + 1 + 3 from fun _ => rfl] at hxq311_1_3; have hxq311_1_4 := hxq311_5; rw [show ∀ n_ : Nat, n_ + 5 = n_ + 1 + 4 from fun _ => rfl] at hxq311_1_4; have hxq311_1_5 := hxq311_6; rw [show ∀ n_ : Nat, n_ + 6 = n_ + 1 + 5 from fun _ => rfl] at hxq311_1_5; have hxq311_1_6 := hxq311_7; rw [show ∀ n_ : Nat, n_ + 7 = n_ + 1 + 6 from fun _ => rfl] at hxq311_1_6) | ((with_reducible refine gate_dst (N := 59) rfl ?_); refine goesL_ (some 59) rfl rfl Try.func37 (by kernel_rfl) rfl #[.agg #[.int .i64 ((rd_T37 y310 t305).f1.f0), .int .i64 ((rd_T37 y310 t305).f1.f1.f0), .int .i64 ((rd_T37 y310 t305).f1.f1.f1), .int .i64 ((rd_T37 y310 t305).f1.f2.f0), .int .i64 ((rd_T37 y310 t305).f1.f2.f1), .int .i64 ((rd_T37 y310 t305).f1.f3), .int .i64 ((rd_T37 y310 t305).f1.f4)]] rfl (by (try simp only [List.map_toArray, List.map_cons, List.map_nil]); first | done | rfl | (simp; done)) ?_; (with_reducible refine (area_Right.calls _ _ _ _ _ _ _ _ _  Hc11.out).mono ?_); rintro e_ w16 ⟨rfl, hb_⟩; refine ⟨_, rfl, ?_⟩; replace HS := Aside0.mk (HS.out.below hb_); replace HK := Aside0.mk (HK.out.trans (Keep.below hb_)); refine stop_ ?_; intro G_ hG_))
    have H := H'.out
    clear H'
    by_cases c17 : t312 = true
    ·subst c17
     rw [if_pos rfl] at H
     simp only [Option.some.injEq, Prod.mk.injEq] at H
     obtain ⟨rfl, rfl⟩ := H
     refine hG_.out ?_
     go_wp2
     go_ret2
     replace HS := Aside0.mk (SL.tail (SL.get1 HS.out))
     unfold zone_Shift.Post
     have el18 := Aside0.mk (SL.row_c HS.out).1
     replace HS := Aside0.mk (SL.row_len HS.out)
     exact ⟨(some adq306), cz3000029, by first | rfl | (simp; done) | (rw [← el18.out]; rfl) | (rw [← el18.out]) | (simp [*]; done) | (simp at c8b0 ⊢; first | exact c8b0 | (simp [c8b0]; done)), HS.out, HK.out⟩
    ·replace c17 := Bool.eq_false_iff.mpr c17
     subst c17
     rw [if_neg (show ¬ (false = true) by decide)] at H
     simp only [Option.some.injEq, Prod.mk.injEq] at H
     obtain ⟨rfl, rfl⟩ := H
     have n2_ := Aside0.mk (SL.nil_row k37 37 HS.out)
     clear HS
     have HS := n2_
     clear n2_
     refine hG_.out ?_
     go_wp2
     go_ret2
     replace HS := Aside0.mk (SL.tail (SL.get1 (SL.tail (SL.get1 HS.out))))
     unfold zone_Shift.Post
     exact ⟨none, 0, by first | rfl | (simp; done) | (simp [*]; done) | (simp at c8b0 ⊢; first | exact c8b0 | (simp [c8b0]; done)), HS.out, HK.out⟩
   ·rw [if_neg c8] at H
    exact absurd H (by simp)
  ·rw [if_neg c7] at H
   exact absurd H (by simp)

/-! ### barrowref02_Same: function 21 -/
def barrowref02_Same.l0 : Nat → List Int → List Int → Int → Option (Bool)
 | 0, _, _, _ => none
 | k + 1, x0, x1, x5 => if x5 < (x0.length : Int) then (if 0 ≤ x5 then (if x5 < (x1.length : Int) then (if (rd x0 x5) = (rd x1 x5) then (barrowref02_Same.l0 k x0 x1 (wrap64 (x5 + 1))) else (some false)) else (none)) else (none)) else (some true)
def barrowref02_Same.f (k : Nat) (l0 : List Int) (l1 : List Int) : Option (Bool) := if (l0.length : Int) = (l1.length : Int) then (barrowref02_Same.l0 k l0 l1 0) else (some false)
theorem barrowref02_Same.mono_l : ∀ k, (∀ y0 y1 y2, LeO (barrowref02_Same.l0 k y0 y1 y2) (barrowref02_Same.l0 (k + 1) y0 y1 y2))
 | 0 => fun _ _ _ r h => by simp [barrowref02_Same.l0] at h
 | k + 1 => by
  have ih0 := barrowref02_Same.mono_l k
  ·intro y0 y1 y2
   unfold barrowref02_Same.l0
   repeat' first
   | (with_reducible exact ih0 _ _ _)
   | (with_reducible exact LeO.refl _)
   | (with_reducible exact LeO.none _)
   | (with_reducible refine LeO.ite ?_ ?_)
   | (with_reducible refine LeO.bind ?_ (fun _ => ?_))
   | exact ih0 _ _ _
   | exact LeO.none _
   | refine LeO.ite ?_ ?_
   | refine LeO.bind ?_ (fun _ => ?_)
theorem barrowref02_Same.mono : ∀ a0 a1 k, LeO (barrowref02_Same.f k a0 a1) (barrowref02_Same.f (k + 1) a0 a1) := by
 intro a0 a1 k
 have ih0 := barrowref02_Same.mono_l k
 unfold barrowref02_Same.f
 repeat' first
   | (with_reducible exact ih0 _ _ _)
   | (with_reducible exact LeO.refl _)
   | (with_reducible exact LeO.none _)
   | (with_reducible refine LeO.ite ?_ ?_)
   | (with_reducible refine LeO.bind ?_ (fun _ => ?_))
   | exact ih0 _ _ _
   | exact LeO.none _
   | refine LeO.ite ?_ ?_
   | refine LeO.bind ?_ (fun _ => ?_)
set_option maxHeartbeats 8000000 in
set_option maxRecDepth 100000 in
theorem barrowref02_Same.calls (k : Nat) (A0 : Option Addr) (c0 : Nat) (l0 : List Int) (A1 : Option Addr) (c1 : Nat) (l1 : List Int) (r : Bool) (w : World) (hr0 : Kd.C (Kd.int .i64) w A0 l0.length l0) (hc0 : l0.length ≤ c0) (hr1 : Kd.C (Kd.int .i64) w A1 l1.length l1) (hc1 : l1.length ≤ c1) (h : barrowref02_Same.f k l0 l1 = some r) :
  Calls Try.prog 21 #[.slice A0 l0.length c0, .slice A1 l1.length c1] w fun e w' => e = .returned (.bool r) ∧ Drawn0 w w' := by
 have HR0 := Aside0.mk hr0
 have HC0 := Aside0.mk hc0
 clear hr0 hc0
 have HR1 := Aside0.mk hr1
 have HC1 := Aside0.mk hc1
 clear hr1 hc1
 have H : (if (l0.length : Int) = (l1.length : Int) then (barrowref02_Same.l0 k l0 l1 0) else (some false)) = some r := h
 clear h
 by_cases c3 : (l0.length : Int) = (l1.length : Int)
 ·rw [if_pos c3] at H
  have c3b0 : ((l0.length : Int) == (l1.length : Int)) = true := beq_iff_eq.mpr c3
  have c3b1 : ((l0.length : Int) != (l1.length : Int)) = false := bne_eq_false_iff_eq.mpr c3
  have c3b2 : (l0.length == l1.length) = true := by first | simpa using c3 | (simp at c3 ⊢; omega)
  clear c3
  have H' := Aside0.mk H
  clear H
  go_enter Try.func21, Try.ntmps21
  go_wp2
  repeat (go_quiet (fail); try go_wp2)
  go_loopg [5] k (fun kq v5 w' => ∃ (x5_1 : Int), v5 = .int .i64 x5_1 ∧ Aside0 (barrowref02_Same.l0 kq l0 l1 x5_1 = some r) ∧ Aside0 (kq ≤ k) ∧ Drawn0 w w')
  case atStart => exact ⟨(0), (by first | rfl | (simp; done) | (simp [*]; done)), H', ⟨Nat.le_refl _⟩, by repeat (first | exact Drawn0.refl _ | apply Drawn0.step)⟩
  case round =>
   clear H'
   try clear c1
   try clear c2
   try clear p2
   try clear c3
   try clear c3b0
   try clear c3b1
   try clear c3b2
   obtain ⟨x5_1, rfl, HA, HK1, ⟨m1, rfl⟩⟩ := hrel
   cases gk with
   | zero => exact absurd HA.out (by simp [barrowref02_Same.l0])
   | succ k1 =>
    have H := HA.out
    clear HA
    simp only [barrowref02_Same.l0] at H
    by_cases c4 : x5_1 < (l0.length : Int)
    ·rw [if_pos c4] at H
     have c4b0 : decide (x5_1 < (l0.length : Int)) = true := decide_eq_true c4
     clear c4
     by_cases c5 : 0 ≤ x5_1
     ·rw [if_pos c5] at H
      have c5b0 : decide (0 ≤ x5_1) = true := decide_eq_true c5
      clear c5
      by_cases c6 : x5_1 < (l1.length : Int)
      ·rw [if_pos c6] at H
       have c6b0 : decide (x5_1 < (l1.length : Int)) = true := decide_eq_true c6
       clear c6
       by_cases c7 : (rd l0 x5_1) = (rd l1 x5_1)
       ·rw [if_pos c7] at H
        have c7b0 : ((rd l0 x5_1) == (rd l1 x5_1)) = true := beq_iff_eq.mpr c7
        have c7b1 : ((rd l0 x5_1) != (rd l1 x5_1)) = false := bne_eq_false_iff_eq.mpr c7
        clear c7
        have H' := Aside0.mk H
        clear H
        have p313 : 0 ≤ (x5_1 : Int) := of_decide_eq_true (by first | (with_reducible assumption) | assumption)
        have q313 : x5_1 < (l0.length : Int) := of_decide_eq_true (by first | (with_reducible assumption) | assumption)
        obtain ⟨ad313, e313, hx313_0⟩ := Kd.at_int HR0.out x5_1 p313 q313
        cases e313
        replace p313 := eq_true p313
        replace q313 := eq_true q313
        have p314 : 0 ≤ (x5_1 : Int) := of_decide_eq_true (by first | (with_reducible assumption) | assumption)
        have q314 : x5_1 < (l1.length : Int) := of_decide_eq_true (by first | (with_reducible assumption) | assumption)
        obtain ⟨ad314, e314, hx314_0⟩ := Kd.at_int HR1.out x5_1 p314 q314
        cases e314
        replace p314 := eq_true p314
        replace q314 := eq_true q314
        go_wp2
        repeat (go_quiet (fail); try go_wp2)
        go_roundg k1
        case measure => have := HK1.out; omega
        case rel => exact ⟨(wrap64 (x5_1 + 1)), (by first | rfl | (simp; done) | (simp [*]; done)), H', ⟨by have := HK1.out; omega⟩, by repeat (first | exact Drawn0.refl _ | apply Drawn0.step)⟩
       ·rw [if_neg c7] at H
        have c7b0 : ((rd l0 x5_1) == (rd l1 x5_1)) = false := beq_eq_false_iff_ne.mpr c7
        have c7b1 : ((rd l0 x5_1) != (rd l1 x5_1)) = true := bne_iff_ne.mpr c7
        obtain rfl := Option.some.inj H
        have p313 : 0 ≤ (x5_1 : Int) := of_decide_eq_true (by first | (with_reducible assumption) | assumption)
        have q313 : x5_1 < (l0.length : Int) := of_decide_eq_true (by first | (with_reducible assumption) | assumption)
        obtain ⟨ad313, e313, hx313_0⟩ := Kd.at_int HR0.out x5_1 p313 q313
        cases e313
        replace p313 := eq_true p313
        replace q313 := eq_true q313
        have p314 : 0 ≤ (x5_1 : Int) := of_decide_eq_true (by first | (with_reducible assumption) | assumption)
        have q314 : x5_1 < (l1.length : Int) := of_decide_eq_true (by first | (with_reducible assumption) | assumption)
        obtain ⟨ad314, e314, hx314_0⟩ := Kd.at_int HR1.out x5_1 p314 q314
        cases e314
        replace p314 := eq_true p314
        replace q314 := eq_true q314
        go_wp2
        repeat (go_quiet (fail); try go_wp2)
        go_ret
        exact ⟨by first | rfl | (simp; done) | (simp [*]; done), by repeat (first | exact Drawn0.refl _ | apply Drawn0.step)⟩
      ·rw [if_neg c6] at H
       exact absurd H (by simp)
     ·rw [if_neg c5] at H
      exact absurd H (by simp)
    ·rw [if_neg c4] at H
     have c4b0 : decide (x5_1 < (l0.length : Int)) = false := decide_eq_false c4
     clear c4
     obtain rfl := Option.some.inj H
     go_wp2
     repeat (go_quiet (fail); try go_wp2)
     go_ret
     exact ⟨by first | rfl | (simp; done) | (simp [*]; done), by repeat (first | exact Drawn0.refl _ | apply Drawn0.step)⟩
 ·rw [if_neg c3] at H
  have c3b0 : ((l0.length : Int) == (l1.length : Int)) = false := beq_eq_false_iff_ne.mpr c3
  have c3b1 : ((l0.length : Int) != (l1.length : Int)) = true := bne_iff_ne.mpr c3
  have c3b2 : (l0.length == l1.length) = false := by first | simpa using c3 | (simp at c3 ⊢; omega)
  obtain rfl := Option.some.inj H
  go_enter Try.func21, Try.ntmps21
  go_wp2
  repeat (go_quiet (fail); try go_wp2)
  go_ret
  exact ⟨by first | rfl | (simp; done) | (simp [*]; done), by repeat (first | exact Drawn0.refl _ | apply Drawn0.step)⟩
end Go.Proofs.Ytiadhonhjnbliaa.XZT
