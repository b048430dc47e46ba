-- Written by xprint.py (a program of this session) for this claim
import Derived.Test.YtiadhonhjnbliaaSL5
import Derived.Test.YtiadhonhjnbliaaSL4
import Derived.Test.YtiadhonhjnbliaaXZTx0
import Derived.Test.YtiadhonhjnbliaaXZTx4
import Derived.Test.YtiadhonhjnbliaaXZTx5
namespace Go.Proofs.Ytiadhonhjnbliaa.XZT
open Go.Proofs.YtiadhonhjnbliaaV Go.Proofs.YtiadhonhjnbliaaS
open Go.RowKit Go.Proofs.YtiadhonhjnbliaaW.PrintWords Go.Proofs.YtiadhonhjnbliaaW.PrintLast Go.Proofs.YtiadhonhjnbliaaW.PrintMore
attribute [local go_sem] max2_int min2_int max_two min_two max_three min_three max_four min_four   -- for this text's walks alone
set_option linter.unusedVariables false
set_option linter.unusedSimpArgs false

-- NOT PRINTED: function 48 (api_Zone_48)

-- NOT PRINTED: function 49 (zone_find_1)

-- NOT PRINTED: function 7000001 (api_Zone_48_c49)

/-! ### zone_find_1_i1: function 49 -/
def zone_find_1_i1.f (a0_0 : Int) (a0_1 : Int) (a0_2 : Int) (a0_3 : Int) (a0_4 : Int) (a0_5 : Int) (a0_6 : Int) (a0_7 : Int) (a0_8 : Int) (a0_9 : Int) (a0_10 : Int) (a0_11 : Int) (a0_12 : Int) (a0_13 : Int) (a0_14 : Int) (a0_15 : Int) (s0_0 : Int) : Option (Bool) := if a0_0 = s0_0 then (some true) else (some false)
def zone_find_1_i1.Post (b0 : Nat) (s0_0 : Int) (r : Bool) (S : Nat → Prop) (L : List Asr) (w : World) (e : Ending) (w' : World) : Prop := e = .returned (.bool r) ∧ SL (cells b0 3 [.int .i64 s0_0].toArray :: L) w' S ∧ Keep S w w'
set_option maxHeartbeats 8000000 in
set_option maxRecDepth 100000 in
theorem zone_find_1_i1.slcalls (a0_0 : Int) (a0_1 : Int) (a0_2 : Int) (a0_3 : Int) (a0_4 : Int) (a0_5 : Int) (a0_6 : Int) (a0_7 : Int) (a0_8 : Int) (a0_9 : Int) (a0_10 : Int) (a0_11 : Int) (a0_12 : Int) (a0_13 : Int) (a0_14 : Int) (a0_15 : Int) (b0 : Nat) (s0_0 : Int) (r : Bool) (S : Nat → Prop) (L : List Asr) (w : World) (hf : Fresh S w) (hs : SL (cells b0 3 [.int .i64 s0_0].toArray :: L) w S) (h : zone_find_1_i1.f a0_0 a0_1 a0_2 a0_3 a0_4 a0_5 a0_6 a0_7 a0_8 a0_9 a0_10 a0_11 a0_12 a0_13 a0_14 a0_15 s0_0 = some r) :
    Calls Try.prog 49 #[.agg #[.int .i64 a0_0, .int .i64 a0_1, .int .i64 a0_2, .int .i64 a0_3, .int .i64 a0_4, .int .i64 a0_5, .int .i64 a0_6, .int .i64 a0_7, .int .i64 a0_8, .int .i64 a0_9, .int .i64 a0_10, .int .i64 a0_11, .int .i64 a0_12, .int .i64 a0_13, .int .i64 a0_14, .int .i64 a0_15], .pointer (some ⟨b0, 0, none⟩)] w (zone_find_1_i1.Post b0 s0_0 r S L w) := by
  have HF := Aside0.mk hf
  have HS := Aside0.mk hs
  have HK := Aside0.mk (Keep.refl S w)
  clear hf hs
  have hu37 := Try.underlying37
  have H : (if a0_0 = s0_0 then (some true) else (some false)) = some r := h
  clear h
  by_cases c1 : a0_0 = s0_0
  · rw [if_pos c1] at H
    have c1b0 : (a0_0 == s0_0) = true := beq_iff_eq.mpr c1
    have c1b1 : (a0_0 != s0_0) = false := bne_eq_false_iff_eq.mpr c1
    clear c1
    obtain rfl := Option.some.inj H
    go_enter Try.func49, Try.ntmps49
    go_wp2_with (first | ((with_reducible refine gate_dst (N := 2) rfl ?_); refine wpList_plain rfl (fun K_ hK_ => ?_); refine op_box (S := S) (cs := #[.int .i64 a0_0, .int .i64 a0_1, .int .i64 a0_2, .int .i64 a0_3, .int .i64 a0_4, .int .i64 a0_5, .int .i64 a0_6, .int .i64 a0_7, .int .i64 a0_8, .int .i64 a0_9, .int .i64 a0_10, .int .i64 a0_11, .int .i64 a0_12, .int .i64 a0_13, .int .i64 a0_14, .int .i64 a0_15]) (t := 37) (HF.out.keep HK.out) HS.out (by first | (go_simp; done) | (go_simp; rfl)) ?_; intro g3000027 w2 hs_ hk_; refine hK_ _ _ ?_; clear hK_ K_; replace HS := Aside0.mk (hs_); replace HK := Aside0.mk (HK.out.trans hk_); have hb_ := SL.at_ HS.out; have hz3000027_0_1 := ((blk_cell hb_ 0).trans rfl : _ = some (.int .i64 a0_0)); have hz3000027_1_1 := ((blk_cell hb_ 1).trans rfl : _ = some (.int .i64 a0_1)); have hz3000027_2_1 := ((blk_cell hb_ 2).trans rfl : _ = some (.int .i64 a0_2)); have hz3000027_3_1 := ((blk_cell hb_ 3).trans rfl : _ = some (.int .i64 a0_3)); have hz3000027_4_1 := ((blk_cell hb_ 4).trans rfl : _ = some (.int .i64 a0_4)); have hz3000027_5_1 := ((blk_cell hb_ 5).trans rfl : _ = some (.int .i64 a0_5)); have hz3000027_6_1 := ((blk_cell hb_ 6).trans rfl : _ = some (.int .i64 a0_6)); have hz3000027_7_1 := ((blk_cell hb_ 7).trans rfl : _ = some (.int .i64 a0_7)); have hz3000027_8_1 := ((blk_cell hb_ 8).trans rfl : _ = some (.int .i64 a0_8)); have hz3000027_9_1 := ((blk_cell hb_ 9).trans rfl : _ = some (.int .i64 a0_9)); have hz3000027_10_1 := ((blk_cell hb_ 10).trans rfl : _ = some (.int .i64 a0_10)); have hz3000027_11_1 := ((blk_cell hb_ 11).trans rfl : _ = some (.int .i64 a0_11)); have hz3000027_12_1 := ((blk_cell hb_ 12).trans rfl : _ = some (.int .i64 a0_12)); have hz3000027_13_1 := ((blk_cell hb_ 13).trans rfl : _ = some (.int .i64 a0_13)); have hz3000027_14_1 := ((blk_cell hb_ 14).trans rfl : _ = some (.int .i64 a0_14)); have hz3000027_15_1 := ((blk_cell hb_ 15).trans rfl : _ = some (.int .i64 a0_15)); clear hb_; have hb_ := SL.at_ (SL.get1 HS.out); have hz0_0_1 := ((blk_cell hb_ 0).trans rfl : _ = some (.int .i64 s0_0)); clear hb_))
    go_ret
    replace HS := Aside0.mk (SL.tail HS.out)
    unfold zone_find_1_i1.Post
    exact ⟨by first | rfl | (simp; done) | (simp [*]; done) | (simp at c1b0 ⊢; first | exact c1b0 | (simp [c1b0]; done)), HS.out, HK.out⟩
  · rw [if_neg c1] at H
    have c1b0 : (a0_0 == s0_0) = false := beq_eq_false_iff_ne.mpr c1
    have c1b1 : (a0_0 != s0_0) = true := bne_iff_ne.mpr c1
    obtain rfl := Option.some.inj H
    go_enter Try.func49, Try.ntmps49
    go_wp2_with (first | ((with_reducible refine gate_dst (N := 2) rfl ?_); refine wpList_plain rfl (fun K_ hK_ => ?_); refine op_box (S := S) (cs := #[.int .i64 a0_0, .int .i64 a0_1, .int .i64 a0_2, .int .i64 a0_3, .int .i64 a0_4, .int .i64 a0_5, .int .i64 a0_6, .int .i64 a0_7, .int .i64 a0_8, .int .i64 a0_9, .int .i64 a0_10, .int .i64 a0_11, .int .i64 a0_12, .int .i64 a0_13, .int .i64 a0_14, .int .i64 a0_15]) (t := 37) (HF.out.keep HK.out) HS.out (by first | (go_simp; done) | (go_simp; rfl)) ?_; intro g3000027 w3 hs_ hk_; refine hK_ _ _ ?_; clear hK_ K_; replace HS := Aside0.mk (hs_); replace HK := Aside0.mk (HK.out.trans hk_); have hb_ := SL.at_ HS.out; have hz3000027_0_1 := ((blk_cell hb_ 0).trans rfl : _ = some (.int .i64 a0_0)); have hz3000027_1_1 := ((blk_cell hb_ 1).trans rfl : _ = some (.int .i64 a0_1)); have hz3000027_2_1 := ((blk_cell hb_ 2).trans rfl : _ = some (.int .i64 a0_2)); have hz3000027_3_1 := ((blk_cell hb_ 3).trans rfl : _ = some (.int .i64 a0_3)); have hz3000027_4_1 := ((blk_cell hb_ 4).trans rfl : _ = some (.int .i64 a0_4)); have hz3000027_5_1 := ((blk_cell hb_ 5).trans rfl : _ = some (.int .i64 a0_5)); have hz3000027_6_1 := ((blk_cell hb_ 6).trans rfl : _ = some (.int .i64 a0_6)); have hz3000027_7_1 := ((blk_cell hb_ 7).trans rfl : _ = some (.int .i64 a0_7)); have hz3000027_8_1 := ((blk_cell hb_ 8).trans rfl : _ = some (.int .i64 a0_8)); have hz3000027_9_1 := ((blk_cell hb_ 9).trans rfl : _ = some (.int .i64 a0_9)); have hz3000027_10_1 := ((blk_cell hb_ 10).trans rfl : _ = some (.int .i64 a0_10)); have hz3000027_11_1 := ((blk_cell hb_ 11).trans rfl : _ = some (.int .i64 a0_11)); have hz3000027_12_1 := ((blk_cell hb_ 12).trans rfl : _ = some (.int .i64 a0_12)); have hz3000027_13_1 := ((blk_cell hb_ 13).trans rfl : _ = some (.int .i64 a0_13)); have hz3000027_14_1 := ((blk_cell hb_ 14).trans rfl : _ = some (.int .i64 a0_14)); have hz3000027_15_1 := ((blk_cell hb_ 15).trans rfl : _ = some (.int .i64 a0_15)); clear hb_; have hb_ := SL.at_ (SL.get1 HS.out); have hz0_0_1 := ((blk_cell hb_ 0).trans rfl : _ = some (.int .i64 s0_0)); clear hb_))
    go_ret
    replace HS := Aside0.mk (SL.tail HS.out)
    unfold zone_find_1_i1.Post
    exact ⟨by first | rfl | (simp; done) | (simp [*]; done) | (simp at c1b0 ⊢; first | exact c1b0 | (simp [c1b0]; done)), HS.out, HK.out⟩

/-! ### api_Zone_48_i1: function 48 -/
def api_Zone_48_i1.l0 : Nat → (List (S37)) → Int → Int → Option (Int)
  | 0, _, _, _ => none
  | k + 1, l0, s0_0, x8_0 => if x8_0 < (l0.length : Int) then (if 0 ≤ x8_0 then ((zone_find_1_i1.f ((rd_T37 l0 x8_0).f0) ((rd_T37 l0 x8_0).f1.f0) ((rd_T37 l0 x8_0).f1.f1.f0) ((rd_T37 l0 x8_0).f1.f1.f1) ((rd_T37 l0 x8_0).f1.f2.f0) ((rd_T37 l0 x8_0).f1.f2.f1) ((rd_T37 l0 x8_0).f1.f3) ((rd_T37 l0 x8_0).f1.f4) ((rd_T37 l0 x8_0).f2) ((rd_T37 l0 x8_0).f3) ((rd_T37 l0 x8_0).f4) ((rd_T37 l0 x8_0).f5.f0) ((rd_T37 l0 x8_0).f5.f1) ((rd_T37 l0 x8_0).f5.f2) ((rd_T37 l0 x8_0).f6) ((rd_T37 l0 x8_0).f7) s0_0).bind fun t295 => (if t295 = true then (some x8_0) else (api_Zone_48_i1.l0 k l0 s0_0 (wrap64 (x8_0 + 1))))) else (none)) else (some (-1))
def api_Zone_48_i1.f (k : Nat) (l0 : List (S37)) (s0_0 : Int) : Option (Int) := api_Zone_48_i1.l0 k l0 s0_0 0
theorem api_Zone_48_i1.mono_l : ∀ k, (∀ y0 y1 y2, LeO (api_Zone_48_i1.l0 k y0 y1 y2) (api_Zone_48_i1.l0 (k + 1) y0 y1 y2))
  | 0 => fun _ _ _ r h => by simp [api_Zone_48_i1.l0] at h
  | k + 1 => by
    have ih0 := api_Zone_48_i1.mono_l k
    · intro y0 y1 y2
      unfold api_Zone_48_i1.l0
      repeat' first
      | (with_reducible exact ih0 _ _ _)
      | (with_reducible exact LeO.refl _)
      | (with_reducible exact LeO.none _)
      | (with_reducible refine LeO.ite ?_ ?_)
      | (with_reducible refine everyOf_le (fun _ => ?_))
      | (with_reducible refine LeO.bind ?_ (fun _ => ?_))
      | exact ih0 _ _ _
      | exact LeO.none _
      | refine LeO.ite ?_ ?_
      | refine LeO.bind ?_ (fun _ => ?_)
theorem api_Zone_48_i1.mono : ∀ a0 a1 k, LeO (api_Zone_48_i1.f k a0 a1) (api_Zone_48_i1.f (k + 1) a0 a1) := by
  intro a0 a1 k
  have ih0 := api_Zone_48_i1.mono_l k
  unfold api_Zone_48_i1.f
  repeat' first
      | (with_reducible exact ih0 _ _ _)
      | (with_reducible exact LeO.refl _)
      | (with_reducible exact LeO.none _)
      | (with_reducible refine LeO.ite ?_ ?_)
      | (with_reducible refine everyOf_le (fun _ => ?_))
      | (with_reducible refine LeO.bind ?_ (fun _ => ?_))
      | exact ih0 _ _ _
      | exact LeO.none _
      | refine LeO.ite ?_ ?_
      | refine LeO.bind ?_ (fun _ => ?_)
def api_Zone_48_i1.Post (b0 : Nat) (s0_0 : Int) (r : Int) (S : Nat → Prop) (L : List Asr) (w : World) (e : Ending) (w' : World) : Prop := e = .returned (.int .i64 r) ∧ SL (cells b0 3 [.int .i64 s0_0].toArray :: L) w' S ∧ Keep S w w'
set_option maxHeartbeats 8000000 in
set_option maxRecDepth 100000 in
theorem api_Zone_48_i1.slcalls (k : Nat) (A0 : Option Addr) (c0 : Nat) (l0 : List (S37)) (b0 : Nat) (s0_0 : Int) (r : Int) (S : Nat → Prop) (L : List Asr) (w : World) (hf : Fresh S w) (hs : SL (cells b0 3 [.int .i64 s0_0].toArray :: L) w S) (hr0 : RO S w (fun w_ => Kd.C k37 w_ A0 l0.length l0)) (hc0 : l0.length ≤ c0) (h : api_Zone_48_i1.f k l0 s0_0 = some r) :
    Calls Try.prog 48 #[.slice A0 l0.length c0, .func (.func 49) #[] #[.pointer (some ⟨b0, 0, none⟩)]] w (api_Zone_48_i1.Post b0 s0_0 r S L w) := by
  have HR0 := Aside0.mk hr0
  have HC0 := Aside0.mk hc0
  clear hr0 hc0
  have HF := Aside0.mk hf
  have HS := Aside0.mk hs
  have HK := Aside0.mk (Keep.refl S w)
  clear hf hs
  have hu37 := Try.underlying37
  have H : (api_Zone_48_i1.l0 k l0 s0_0 0) = some r := h
  clear h
  have H' := Aside0.mk H
  clear H
  go_enter Try.func48, Try.ntmps48
  go_wp2
  go_loopg [8] k (fun kq v8 w' => ∃ (x8_0 : Int), v8 = .int .i64 x8_0 ∧ Aside0 (api_Zone_48_i1.l0 kq l0 s0_0 x8_0 = some r) ∧ Aside0 (kq ≤ k) ∧ Aside0 (SL (cells b0 3 [.int .i64 s0_0].toArray :: L) w' S) ∧ Aside0 (Keep S w w'))
  case atStart => exact ⟨(0), (by first | rfl | (simp; done) | (simp [*]; done)), H', ⟨Nat.le_refl _⟩, HS, HK⟩
  case round =>
    clear H' HS HK
    obtain ⟨x8_0, rfl, HA, HQ1, HS, HK⟩ := hrel
    cases gk with
    | zero => exact absurd HA.out (by simp [api_Zone_48_i1.l0])
    | succ k1 =>
      have H := HA.out
      clear HA
      simp only [api_Zone_48_i1.l0] at H
      by_cases c1 : x8_0 < (l0.length : Int)
      · rw [if_pos c1] at H
        have c1b0 : decide (x8_0 < (l0.length : Int)) = true := decide_eq_true c1
        clear c1
        by_cases c2 : 0 ≤ x8_0
        · rw [if_pos c2] at H
          have c2b0 : decide (0 ≤ x8_0) = true := decide_eq_true c2
          clear c2
          replace H := Option.bind_eq_some_iff.1 H
          obtain ⟨t295, Hc30, H⟩ := H
          try dsimp only at H
          have Hc3 := Aside0.mk Hc30
          clear Hc30
          by_cases c4 : t295 = true
          · subst c4
            rw [if_pos rfl] at H
            obtain rfl := Option.some.inj H
            have pq294 : 0 ≤ (x8_0 : Int) := of_decide_eq_true (by first | (with_reducible assumption) | assumption)
            have qq294 : x8_0 < ((l0.length : Int) : Int) := of_decide_eq_true (by first | (with_reducible assumption) | assumption)
            obtain ⟨adq294, eq294, hxq294_0, hxq294_1, hxq294_2, hxq294_3, hxq294_4, hxq294_5, hxq294_6, hxq294_7, hxq294_8, hxq294_9, hxq294_10, hxq294_11, hxq294_12, hxq294_13, hxq294_14, hxq294_15⟩ := at_T37 (RO.at_ HR0.out HK.out) x8_0 pq294 qq294
            cases eq294
            replace pq294 := eq_true pq294
            replace qq294 := eq_true qq294
            go_wp2_with (first | ((with_reducible refine gate_dst (N := 15) rfl ?_); refine wpList_loadA rfl 37 (.tmp 14) rfl _ rfl _ _ (ats_of hxq294_0 (atk_cons hxq294_1 (atk_cons hxq294_2 (atk_cons hxq294_3 (atk_cons hxq294_4 (atk_cons hxq294_5 (atk_cons hxq294_6 (atk_cons hxq294_7 (atk_cons hxq294_8 (atk_cons hxq294_9 (atk_cons hxq294_10 (atk_cons hxq294_11 (atk_cons hxq294_12 (atk_cons hxq294_13 (atk_cons hxq294_14 (atk_cons hxq294_15 atk_nil)))))))))))))))) Try.underlying37 rfl (by kernel_rfl) ?_) | ((with_reducible refine gate_dst (N := 16) rfl ?_); refine goesLc_ (some 16) rfl (by with_unfolding_all rfl) rfl Try.func49 (by kernel_rfl) rfl #[.agg #[.int .i64 ((rd_T37 l0 x8_0).f0), .int .i64 ((rd_T37 l0 x8_0).f1.f0), .int .i64 ((rd_T37 l0 x8_0).f1.f1.f0), .int .i64 ((rd_T37 l0 x8_0).f1.f1.f1), .int .i64 ((rd_T37 l0 x8_0).f1.f2.f0), .int .i64 ((rd_T37 l0 x8_0).f1.f2.f1), .int .i64 ((rd_T37 l0 x8_0).f1.f3), .int .i64 ((rd_T37 l0 x8_0).f1.f4), .int .i64 ((rd_T37 l0 x8_0).f2), .int .i64 ((rd_T37 l0 x8_0).f3), .int .i64 ((rd_T37 l0 x8_0).f4), .int .i64 ((rd_T37 l0 x8_0).f5.f0), .int .i64 ((rd_T37 l0 x8_0).f5.f1), .int .i64 ((rd_T37 l0 x8_0).f5.f2), .int .i64 ((rd_T37 l0 x8_0).f6), .int .i64 ((rd_T37 l0 x8_0).f7)], .pointer (some ⟨b0, 0, none⟩)] rfl (by (try simp only [List.map_toArray, List.map_cons, List.map_nil]); first | done | rfl | (simp; done)) ?_; have hs0_ := HS.out; (with_reducible refine (zone_find_1_i1.slcalls _ _ _ _ _ _ _ _ _ _ _ _ _ _ _ _ _ _ _ _ _ _ (HF.out.keep HK.out) hs0_  Hc3.out).mono ?_); rintro e_ w5 ⟨rfl, hsr_, hkr_⟩; refine ⟨_, rfl, ?_⟩; replace HS := Aside0.mk (hsr_); replace HK := Aside0.mk (HK.out.trans hkr_)))
            go_ret
            unfold api_Zone_48_i1.Post
            exact ⟨by first | rfl | (simp; done) | (simp [*]; done) | (simp at c2b0 ⊢; first | exact c2b0 | (simp [c2b0]; done)), HS.out, HK.out⟩
          · replace c4 := Bool.eq_false_iff.mpr c4
            subst c4
            rw [if_neg (show ¬ (false = true) by decide)] at H
            have H' := Aside0.mk H
            clear H
            have pq294 : 0 ≤ (x8_0 : Int) := of_decide_eq_true (by first | (with_reducible assumption) | assumption)
            have qq294 : x8_0 < ((l0.length : Int) : Int) := of_decide_eq_true (by first | (with_reducible assumption) | assumption)
            obtain ⟨adq294, eq294, hxq294_0, hxq294_1, hxq294_2, hxq294_3, hxq294_4, hxq294_5, hxq294_6, hxq294_7, hxq294_8, hxq294_9, hxq294_10, hxq294_11, hxq294_12, hxq294_13, hxq294_14, hxq294_15⟩ := at_T37 (RO.at_ HR0.out HK.out) x8_0 pq294 qq294
            cases eq294
            replace pq294 := eq_true pq294
            replace qq294 := eq_true qq294
            go_wp2_with (first | ((with_reducible refine gate_dst (N := 15) rfl ?_); refine wpList_loadA rfl 37 (.tmp 14) rfl _ rfl _ _ (ats_of hxq294_0 (atk_cons hxq294_1 (atk_cons hxq294_2 (atk_cons hxq294_3 (atk_cons hxq294_4 (atk_cons hxq294_5 (atk_cons hxq294_6 (atk_cons hxq294_7 (atk_cons hxq294_8 (atk_cons hxq294_9 (atk_cons hxq294_10 (atk_cons hxq294_11 (atk_cons hxq294_12 (atk_cons hxq294_13 (atk_cons hxq294_14 (atk_cons hxq294_15 atk_nil)))))))))))))))) Try.underlying37 rfl (by kernel_rfl) ?_) | ((with_reducible refine gate_dst (N := 16) rfl ?_); refine goesLc_ (some 16) rfl (by with_unfolding_all rfl) rfl Try.func49 (by kernel_rfl) rfl #[.agg #[.int .i64 ((rd_T37 l0 x8_0).f0), .int .i64 ((rd_T37 l0 x8_0).f1.f0), .int .i64 ((rd_T37 l0 x8_0).f1.f1.f0), .int .i64 ((rd_T37 l0 x8_0).f1.f1.f1), .int .i64 ((rd_T37 l0 x8_0).f1.f2.f0), .int .i64 ((rd_T37 l0 x8_0).f1.f2.f1), .int .i64 ((rd_T37 l0 x8_0).f1.f3), .int .i64 ((rd_T37 l0 x8_0).f1.f4), .int .i64 ((rd_T37 l0 x8_0).f2), .int .i64 ((rd_T37 l0 x8_0).f3), .int .i64 ((rd_T37 l0 x8_0).f4), .int .i64 ((rd_T37 l0 x8_0).f5.f0), .int .i64 ((rd_T37 l0 x8_0).f5.f1), .int .i64 ((rd_T37 l0 x8_0).f5.f2), .int .i64 ((rd_T37 l0 x8_0).f6), .int .i64 ((rd_T37 l0 x8_0).f7)], .pointer (some ⟨b0, 0, none⟩)] rfl (by (try simp only [List.map_toArray, List.map_cons, List.map_nil]); first | done | rfl | (simp; done)) ?_; have hs0_ := HS.out; (with_reducible refine (zone_find_1_i1.slcalls _ _ _ _ _ _ _ _ _ _ _ _ _ _ _ _ _ _ _ _ _ _ (HF.out.keep HK.out) hs0_  Hc3.out).mono ?_); rintro e_ w6 ⟨rfl, hsr_, hkr_⟩; refine ⟨_, rfl, ?_⟩; replace HS := Aside0.mk (hsr_); replace HK := Aside0.mk (HK.out.trans hkr_)))
            go_roundg k1
            case measure => have := HQ1.out; omega
            case rel => exact ⟨(wrap64 (x8_0 + 1)), (by first | rfl | (simp; done) | (simp [*]; done)), H', ⟨by have := HQ1.out; omega⟩, HS, HK⟩
        · rw [if_neg c2] at H
          exact absurd H (by simp)
      · rw [if_neg c1] at H
        have c1b0 : decide (x8_0 < (l0.length : Int)) = false := decide_eq_false c1
        clear c1
        obtain rfl := Option.some.inj H
        go_wp2
        go_ret
        unfold api_Zone_48_i1.Post
        exact ⟨by first | rfl | (simp; done) | (simp [*]; done) | (simp at c1b0 ⊢; first | exact c1b0 | (simp [c1b0]; done)), HS.out, HK.out⟩

/-! ### zone_find: function 33 -/
def zone_find.f (k : Nat) (l0 : List (S37)) (a1 : Int) : Option (Int) := (api_Zone_48_i1.f k l0 a1).bind fun t296 => (some t296)
theorem zone_find.mono : ∀ a0 a1 k, LeO (zone_find.f k a0 a1) (zone_find.f (k + 1) a0 a1) := by
  intro a0 a1 k
  unfold zone_find.f
  repeat' first
      | (with_reducible exact api_Zone_48_i1.mono _ _ _)
      | (with_reducible exact LeO.refl _)
      | (with_reducible exact LeO.none _)
      | (with_reducible refine LeO.ite ?_ ?_)
      | (with_reducible refine everyOf_le (fun _ => ?_))
      | (with_reducible refine LeO.bind ?_ (fun _ => ?_))
      | exact api_Zone_48_i1.mono _ _ _
      | exact LeO.none _
      | refine LeO.ite ?_ ?_
      | refine LeO.bind ?_ (fun _ => ?_)
def zone_find.Post (r : Int) (S : Nat → Prop) (L : List Asr) (w : World) (e : Ending) (w' : World) : Prop := e = .returned (.int .i64 r) ∧ SL (L) w' S ∧ Keep S w w'
set_option maxHeartbeats 8000000 in
set_option maxRecDepth 100000 in
theorem zone_find.slcalls (k : Nat) (A0 : Option Addr) (c0 : Nat) (l0 : List (S37)) (a1 : Int) (r : Int) (S : Nat → Prop) (L : List Asr) (w : World) (hf : Fresh S w) (hs : SL (L) w S) (hr0 : RO S w (fun w_ => Kd.C k37 w_ A0 l0.length l0)) (hc0 : l0.length ≤ c0) (h : zone_find.f k l0 a1 = some r) :
    Calls Try.prog 33 #[.slice A0 l0.length c0, .int .i64 a1] w (zone_find.Post r S L w) := by
  have HR0 := Aside0.mk hr0
  have HC0 := Aside0.mk hc0
  clear hr0 hc0
  have HF := Aside0.mk hf
  have HS := Aside0.mk hs
  have HK := Aside0.mk (Keep.refl S w)
  clear hf hs
  have H : ((api_Zone_48_i1.f k l0 a1).bind fun t296 => (some t296)) = some r := h
  clear h
  replace H := Option.bind_eq_some_iff.1 H
  obtain ⟨t296, Hc10, H⟩ := H
  try dsimp only at H
  have Hc1 := Aside0.mk Hc10
  clear Hc10
  obtain rfl := Option.some.inj H
  go_enter Try.func33, Try.ntmps33
  go_wp2_with (first | ((with_reducible refine gate_dst (N := 3) rfl ?_); refine wpList_plain rfl (fun K_ hK_ => ?_); refine op_box (S := S) (cs := #[.int .i64 a1]) (t := 3) (HF.out.keep HK.out) HS.out (by first | (go_simp; done) | (go_simp; rfl)) ?_; intro g3000026 w2 hs_ hk_; refine hK_ _ _ ?_; clear hK_ K_; replace HS := Aside0.mk (hs_); replace HK := Aside0.mk (HK.out.trans hk_)) | ((with_reducible refine gate_dst (N := 7) rfl ?_); refine goesL_ (some 7) rfl rfl Try.func48 (by kernel_rfl) rfl #[.slice A0 l0.length c0, .func (.func 49) #[] #[.pointer (some ⟨g3000026, 0, none⟩)]] rfl (by (try simp only [List.map_toArray, List.map_cons, List.map_nil]); first | done | rfl | (simp; done)) ?_; have hs0_ := HS.out; (with_reducible refine (api_Zone_48_i1.slcalls k _ _ _ _ _ _ _ _ _ (HF.out.keep HK.out) hs0_ (HR0.out.keep HK.out) HC0.out Hc1.out).mono ?_); rintro e_ w3 ⟨rfl, hsr_, hkr_⟩; refine ⟨_, rfl, ?_⟩; replace HS := Aside0.mk (hsr_); replace HK := Aside0.mk (HK.out.trans hkr_)))
  go_ret
  replace HS := Aside0.mk (SL.tail HS.out)
  unfold zone_find.Post
  exact ⟨by first | rfl | (simp; done) | (simp [*]; done), HS.out, HK.out⟩
theorem zone_find.calls (k : Nat) (A0 : Option Addr) (c0 : Nat) (l0 : List (S37)) (a1 : Int) (r : Int) (w : World) (hr0 : Kd.C k37 w A0 l0.length l0) (hc0 : l0.length ≤ c0) (h : zone_find.f k l0 a1 = some r) :
    Calls Try.prog 33 #[.slice A0 l0.length c0, .int .i64 a1] w fun e w' => e = .returned (.int .i64 r) ∧ Below w.heap.size w w' :=
  (zone_find.slcalls k A0 c0 l0 a1 r (news w) [] w (fresh_news w) trivial (RO.top hr0) hc0 h).mono fun _ _ h => ⟨h.1, h.2.2.to_below⟩

/-! ### zone_moved: function 36 -/
def zone_moved.f (k : Nat) (a0 : Int) (a1 : Int) (a2 : Int) : Option (Int) := (sat_Sub.f k a2 a1).bind fun t297 => ((sat_Add.f k a0 t297).bind fun t298 => (some t298))
theorem zone_moved.mono : ∀ a0 a1 a2 k, LeO (zone_moved.f k a0 a1 a2) (zone_moved.f (k + 1) a0 a1 a2) := by
  intro a0 a1 a2 k
  unfold zone_moved.f
  repeat' first
      | (with_reducible exact sat_Add.mono _ _ _)
      | (with_reducible exact sat_Sub.mono _ _ _)
      | (with_reducible exact LeO.refl _)
      | (with_reducible exact LeO.none _)
      | (with_reducible refine LeO.ite ?_ ?_)
      | (with_reducible refine LeO.bind ?_ (fun _ => ?_))
      | exact sat_Add.mono _ _ _
      | exact sat_Sub.mono _ _ _
      | exact LeO.none _
      | refine LeO.ite ?_ ?_
      | refine LeO.bind ?_ (fun _ => ?_)
set_option maxHeartbeats 8000000 in
set_option maxRecDepth 100000 in
theorem zone_moved.calls (k : Nat) (a0 : Int) (a1 : Int) (a2 : Int) (r : Int) (w : World) (h : zone_moved.f k a0 a1 a2 = some r) :
    Calls Try.prog 36 #[.int .i64 a0, .int .i64 a1, .int .i64 a2] w fun e w' => e = .returned (.int .i64 r) ∧ Drawn0 w w' := by
  have H : ((sat_Sub.f k a2 a1).bind fun t297 => ((sat_Add.f k a0 t297).bind fun t298 => (some t298))) = some r := h
  clear h
  replace H := Option.bind_eq_some_iff.mp H
  obtain ⟨t297, A40, H⟩ := H
  replace H : ((sat_Add.f k a0 t297).bind fun t298 => (some t298)) = some r := H
  have A4 := Aside0.mk A40
  clear A40
  replace H := Option.bind_eq_some_iff.mp H
  obtain ⟨t298, A50, H⟩ := H
  replace H : (some t298) = some r := H
  have A5 := Aside0.mk A50
  clear A50
  obtain rfl := Option.some.inj H
  go_enter Try.func36, Try.ntmps36
  go_wp2_with (first | ((with_reducible refine gate_callee (f := 50) rfl ?_); refine goesL_ (some 10) rfl rfl Try.func50 (by kernel_rfl) rfl #[.int .i64 a2, .int .i64 a1] rfl (by (try simp only [List.map_toArray, List.map_cons, List.map_nil]); first | done | rfl | (simp only [List.length_drop, List.length_take]; rfl)) ?_; (with_reducible refine (sat_Sub.calls k a2 a1 t297 _ A4.out).mono ?_); rintro e w' ⟨rfl, ⟨nd, rfl⟩⟩; refine ⟨_, rfl, ?_⟩) | ((with_reducible refine gate_callee (f := 26) rfl ?_); refine goesL_ (some 11) rfl rfl Try.func26 (by kernel_rfl) rfl #[.int .i64 a0, .int .i64 t297] rfl (by (try simp only [List.map_toArray, List.map_cons, List.map_nil]); first | done | rfl | (simp only [List.length_drop, List.length_take]; rfl)) ?_; (with_reducible refine (sat_Add.calls k a0 t297 t298 _ A5.out).mono ?_); rintro e w' ⟨rfl, ⟨nd, rfl⟩⟩; refine ⟨_, rfl, ?_⟩))
  go_ret
  exact ⟨by first | rfl | (simp; done) | (simp [*]; done), by repeat (first | exact Drawn0.refl _ | apply Drawn0.step)⟩

end Go.Proofs.Ytiadhonhjnbliaa.XZT
