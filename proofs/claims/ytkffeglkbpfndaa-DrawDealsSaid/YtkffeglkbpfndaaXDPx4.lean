-- Written by xprint.py (a program of this session) for this claim
-- jfacts
import Derived.Test.YtkffeglkbpfndaaSL5
import Derived.Test.YtkffeglkbpfndaaXDPx0
import Derived.Test.YtkffeglkbpfndaaXDPx1
import Derived.Test.YtkffeglkbpfndaaXDPx2
import Derived.Test.YtkffeglkbpfndaaXDPx3
namespace Go.Proofs.Ytkffeglkbpfndaa.XDP
open Go.Proofs.YtkffeglkbpfndaaV Go.Proofs.YtkffeglkbpfndaaS
open Go.RowKit Go.Proofs.YtkffeglkbpfndaaW.PrintWords Go.Proofs.YtkffeglkbpfndaaW.PrintLast Go.Proofs.YtkffeglkbpfndaaW.PrintMore
attribute [local go_sem] max2_int min2_int max_two min_two max_three min_three max_four min_four   -- for this text's walks alone
set_option linter.unusedVariables false
set_option linter.unusedSimpArgs false

/-! ### barrowlaw02_DrawDeals: function 7 -/
mutual
def barrowlaw02_DrawDeals.l199 : Nat → (List Int) → Bool → (List Int) → (List Int) → Bool → Option (Bool)
  | 0, _, _, _, _, _ => none
  | k + 1, l2, t187, t193, t195, x62_199 => if x62_199 = true then (none) else ((some ((t193.length : Int) : Int)).bind fun j198 => (if 0 ≤ j198 then (if j198 ≤ 281474976710656 then ((some (List.replicate (j198).toNat false : List Bool)).bind fun y199 => (barrowlaw02_DrawDeals.l0 k l2 t187 t193 t195 y199 0 y199)) else (none)) else (none)))
def barrowlaw02_DrawDeals.l0 : Nat → (List Int) → Bool → (List Int) → (List Int) → (List Bool) → Int → (List Bool) → Option (Bool)
  | 0, _, _, _, _, _, _, _ => none
  | k + 1, l2, t187, t193, t195, y199, x12_0, y3000013_0 => if x12_0 < (t193.length : Int) then (if 0 ≤ x12_0 then (if (rd t193 x12_0) < 0 then (none) else (if (rd t193 x12_0) ≥ (t193.length : Int) then (none) else ((some (rd t193 x12_0 : Int)).bind fun j239 => (if 0 ≤ j239 then (if j239 < (y199.length : Int) then (if rdOf false y3000013_0 j239 = true then (none) else ((some (y3000013_0.set (j239).toNat true : List Bool)).bind fun y243 => (barrowlaw02_DrawDeals.l0 k l2 t187 t193 t195 y199 (wrap64 (x12_0 + 1)) y243))) else (none)) else (none))))) else (none)) else ((draw_Stream_Pick.f k l2 t195).bind fun bt244 => (if t187 = true then (if bt244.2.1 = true then (if bt244.1 ≥ 0 then (if bt244.1 < (l2.length : Int) then (if 0 ≤ bt244.1 then (if (rd l2 bt244.1) > 0 then (some true) else (none)) else (none)) else (none)) else (none)) else (if bt244.1 = 0 then (some true) else (none))) else (none)))
end
def barrowlaw02_DrawDeals.f (k : Nat) (l0 : List Int) (a1 : Int) (l2 : List Int) : Option (Bool) := (barrowlaw02_small.f k).bind fun t187 => ((draw_New.f).bind fun t188 => (if (l0.length : Int) > 4096 then (if t187 = true then (some true) else (none)) else (if (l2.length : Int) > 300 then (if t187 = true then (some true) else (none)) else ((draw_Stream_Feed.f k l0 t188).bind fun bt189 => (if bt189.1 = 0 then ((draw_Stream_Deal.f k a1 bt189.2).bind fun bt193 => (if (bt193.1.length : Int) > 0 then (if bt193.2.1 = true then (barrowlaw02_DrawDeals.l199 k l2 t187 bt193.1 bt193.2.2 ((bt193.1.length : Int) != a1)) else (none)) else (if (bt193.2.1 != (a1 == 0)) = true then (none) else (if bt193.2.1 = true then (barrowlaw02_DrawDeals.l199 k l2 t187 bt193.1 bt193.2.2 ((bt193.1.length : Int) != a1)) else (barrowlaw02_DrawDeals.l199 k l2 t187 bt193.1 bt193.2.2 false))))) else (some t187))))))
theorem barrowlaw02_DrawDeals.mono_l : ∀ k, (∀ y0 y1 y2 y3 y4, LeO (barrowlaw02_DrawDeals.l199 k y0 y1 y2 y3 y4) (barrowlaw02_DrawDeals.l199 (k + 1) y0 y1 y2 y3 y4)) ∧ (∀ y0 y1 y2 y3 y4 y5 y6, LeO (barrowlaw02_DrawDeals.l0 k y0 y1 y2 y3 y4 y5 y6) (barrowlaw02_DrawDeals.l0 (k + 1) y0 y1 y2 y3 y4 y5 y6))
  | 0 => ⟨fun _ _ _ _ _ r h => by simp [barrowlaw02_DrawDeals.l199] at h, fun _ _ _ _ _ _ _ r h => by simp [barrowlaw02_DrawDeals.l0] at h⟩
  | k + 1 => by
    obtain ⟨ih0, ih1⟩ := barrowlaw02_DrawDeals.mono_l k
    refine ⟨?_, ?_⟩
    · intro y0 y1 y2 y3 y4
      unfold barrowlaw02_DrawDeals.l199
      repeat' first
      | (with_reducible exact ih0 _ _ _ _ _)
      | (with_reducible exact ih1 _ _ _ _ _ _ _)
      | (with_reducible exact barrowlaw02_small.mono _)
      | (with_reducible exact draw_Stream_Deal.mono _ _ _)
      | (with_reducible exact draw_Stream_Feed.mono _ _ _)
      | (with_reducible exact draw_Stream_Pick.mono _ _ _)
      | (with_reducible exact LeO.refl _)
      | (with_reducible exact LeO.none _)
      | (with_reducible refine LeO.ite ?_ ?_)
      | (with_reducible refine everyOf_le (fun _ => ?_))
      | (with_reducible refine LeO.bind ?_ (fun _ => ?_))
      | exact ih0 _ _ _ _ _
      | exact ih1 _ _ _ _ _ _ _
      | exact barrowlaw02_small.mono _
      | exact draw_Stream_Deal.mono _ _ _
      | exact draw_Stream_Feed.mono _ _ _
      | exact draw_Stream_Pick.mono _ _ _
      | exact LeO.none _
      | refine LeO.ite ?_ ?_
      | refine LeO.bind ?_ (fun _ => ?_)
    · intro y0 y1 y2 y3 y4 y5 y6
      unfold barrowlaw02_DrawDeals.l0
      repeat' first
      | (with_reducible exact ih0 _ _ _ _ _)
      | (with_reducible exact ih1 _ _ _ _ _ _ _)
      | (with_reducible exact barrowlaw02_small.mono _)
      | (with_reducible exact draw_Stream_Deal.mono _ _ _)
      | (with_reducible exact draw_Stream_Feed.mono _ _ _)
      | (with_reducible exact draw_Stream_Pick.mono _ _ _)
      | (with_reducible exact LeO.refl _)
      | (with_reducible exact LeO.none _)
      | (with_reducible refine LeO.ite ?_ ?_)
      | (with_reducible refine everyOf_le (fun _ => ?_))
      | (with_reducible refine LeO.bind ?_ (fun _ => ?_))
      | exact ih0 _ _ _ _ _
      | exact ih1 _ _ _ _ _ _ _
      | exact barrowlaw02_small.mono _
      | exact draw_Stream_Deal.mono _ _ _
      | exact draw_Stream_Feed.mono _ _ _
      | exact draw_Stream_Pick.mono _ _ _
      | exact LeO.none _
      | refine LeO.ite ?_ ?_
      | refine LeO.bind ?_ (fun _ => ?_)
theorem barrowlaw02_DrawDeals.mono : ∀ a0 a1 a2 k, LeO (barrowlaw02_DrawDeals.f k a0 a1 a2) (barrowlaw02_DrawDeals.f (k + 1) a0 a1 a2) := by
  intro a0 a1 a2 k
  obtain ⟨ih0, ih1⟩ := barrowlaw02_DrawDeals.mono_l k
  unfold barrowlaw02_DrawDeals.f
  repeat' first
      | (with_reducible exact ih0 _ _ _ _ _)
      | (with_reducible exact ih1 _ _ _ _ _ _ _)
      | (with_reducible exact barrowlaw02_small.mono _)
      | (with_reducible exact draw_Stream_Deal.mono _ _ _)
      | (with_reducible exact draw_Stream_Feed.mono _ _ _)
      | (with_reducible exact draw_Stream_Pick.mono _ _ _)
      | (with_reducible exact LeO.refl _)
      | (with_reducible exact LeO.none _)
      | (with_reducible refine LeO.ite ?_ ?_)
      | (with_reducible refine everyOf_le (fun _ => ?_))
      | (with_reducible refine LeO.bind ?_ (fun _ => ?_))
      | exact ih0 _ _ _ _ _
      | exact ih1 _ _ _ _ _ _ _
      | exact barrowlaw02_small.mono _
      | exact draw_Stream_Deal.mono _ _ _
      | exact draw_Stream_Feed.mono _ _ _
      | exact draw_Stream_Pick.mono _ _ _
      | exact LeO.none _
      | refine LeO.ite ?_ ?_
      | refine LeO.bind ?_ (fun _ => ?_)
def barrowlaw02_DrawDeals.Post (r : Bool) (S : Nat → Prop) (L : List Asr) (w : World) (e : Ending) (w' : World) : Prop := e = .returned (.bool r) ∧ SL (L) w' S ∧ Keep S w w'
set_option maxHeartbeats 8000000 in
set_option maxRecDepth 100000 in
theorem barrowlaw02_DrawDeals.slcalls (k : Nat) (A0 : Option Addr) (c0 : Nat) (l0 : List Int) (a1 : Int) (A2 : Option Addr) (c2 : Nat) (l2 : List Int) (r : Bool) (S : Nat → Prop) (L : List Asr) (w : World) (hf : Fresh S w) (hs : SL (L) w S) (hr0 : RO S w (fun w_ => Kd.C (Kd.int .i64) w_ A0 l0.length l0)) (hc0 : l0.length ≤ c0) (hr2 : RO S w (fun w_ => Kd.C (Kd.int .i64) w_ A2 l2.length l2)) (hc2 : l2.length ≤ c2) (h : barrowlaw02_DrawDeals.f k l0 a1 l2 = some r) :
    Calls Try.prog 7 #[.slice A0 l0.length c0, .int .i64 a1, .slice A2 l2.length c2] w (barrowlaw02_DrawDeals.Post r S L w) := by
  have HR0 := Aside0.mk hr0
  have HC0 := Aside0.mk hc0
  clear hr0 hc0
  have HR2 := Aside0.mk hr2
  have HC2 := Aside0.mk hc2
  clear hr2 hc2
  have HF := Aside0.mk hf
  have HS := Aside0.mk hs
  have HK := Aside0.mk (Keep.refl S w)
  clear hf hs
  have H : ((barrowlaw02_small.f k).bind fun t187 => ((draw_New.f).bind fun t188 => (if (l0.length : Int) > 4096 then (if t187 = true then (some true) else (none)) else (if (l2.length : Int) > 300 then (if t187 = true then (some true) else (none)) else ((draw_Stream_Feed.f k l0 t188).bind fun bt189 => (if bt189.1 = 0 then ((draw_Stream_Deal.f k a1 bt189.2).bind fun bt193 => (if (bt193.1.length : Int) > 0 then (if bt193.2.1 = true then (barrowlaw02_DrawDeals.l199 k l2 t187 bt193.1 bt193.2.2 ((bt193.1.length : Int) != a1)) else (none)) else (if (bt193.2.1 != (a1 == 0)) = true then (none) else (if bt193.2.1 = true then (barrowlaw02_DrawDeals.l199 k l2 t187 bt193.1 bt193.2.2 ((bt193.1.length : Int) != a1)) else (barrowlaw02_DrawDeals.l199 k l2 t187 bt193.1 bt193.2.2 false))))) else (some t187))))))) = some r := h
  clear h
  replace H := Option.bind_eq_some_iff.1 H
  obtain ⟨t187, Hc10, H⟩ := H
  try dsimp only at H
  have Hc1 := Aside0.mk Hc10
  clear Hc10
  replace H := Option.bind_eq_some_iff.1 H
  obtain ⟨t188, Hc20, H⟩ := H
  try dsimp only at H
  have Hc2 := Aside0.mk Hc20
  clear Hc20
  by_cases c3 : (l0.length : Int) > 4096
  · rw [if_pos c3] at H
    have c3b0 : decide (4096 < (l0.length : Int)) = true := decide_eq_true c3
    have c3b1 : decide (4096 < l0.length) = true := decide_eq_true (by omega)
    clear c3
    by_cases c4 : t187 = true
    · subst c4
      rw [if_pos rfl] at H
      obtain rfl := Option.some.inj H
      go_enter Try.func7, Try.ntmps7
      go_wp2_with (first | ((with_reducible refine gate_dst (N := 15) rfl ?_); refine goesL_ (some 15) rfl rfl Try.func8 (by kernel_rfl) rfl #[] rfl (by (try simp only [List.map_toArray, List.map_cons, List.map_nil]); first | done | rfl | (simp; done)) ?_; (with_reducible refine (barrowlaw02_small.calls k _ _  Hc1.out).mono ?_); rintro e_ w5 ⟨rfl, hb_⟩; refine ⟨_, rfl, ?_⟩; replace HS := Aside0.mk (HS.out.below hb_); replace HK := Aside0.mk (HK.out.trans (Keep.below hb_))) | ((with_reducible refine gate_dst (N := 16) rfl ?_); refine goesL_ (some 16) rfl rfl Try.func11 (by kernel_rfl) rfl #[] rfl (by (try simp only [List.map_toArray, List.map_cons, List.map_nil]); first | done | rfl | (simp; done)) ?_; have hs0_ := HS.out; (with_reducible refine (draw_New.slcalls _ _ _ _ (HF.out.keep HK.out) hs0_  Hc2.out).mono ?_); rintro e_ w6 ⟨g3000010, Az3000011, cz3000011, rfl, hsr_, hkr_⟩; refine ⟨_, rfl, ?_⟩; replace HS := Aside0.mk (hsr_); replace HK := Aside0.mk (HK.out.trans hkr_)))
      go_ret
      replace HS := Aside0.mk (SL.tail (SL.tail HS.out))
      unfold barrowlaw02_DrawDeals.Post
      exact ⟨by first | rfl | (simp; done) | (simp [*]; done) | (simp at c3b0 ⊢; first | exact c3b0 | (simp [c3b0]; done)), HS.out, HK.out⟩
    · replace c4 := Bool.eq_false_iff.mpr c4
      subst c4
      rw [if_neg (show ¬ (false = true) by decide)] at H
      exact absurd H (by simp)
  · rw [if_neg c3] at H
    have c3b0 : decide (4096 < (l0.length : Int)) = false := decide_eq_false c3
    have c3b1 : decide (4096 < l0.length) = false := decide_eq_false (by omega)
    clear c3
    by_cases c7 : (l2.length : Int) > 300
    · rw [if_pos c7] at H
      have c7b0 : decide (300 < (l2.length : Int)) = true := decide_eq_true c7
      have c7b1 : decide (300 < l2.length) = true := decide_eq_true (by omega)
      clear c7
      by_cases c8 : t187 = true
      · subst c8
        rw [if_pos rfl] at H
        obtain rfl := Option.some.inj H
        go_enter Try.func7, Try.ntmps7
        go_wp2_with (first | ((with_reducible refine gate_dst (N := 15) rfl ?_); refine goesL_ (some 15) rfl rfl Try.func8 (by kernel_rfl) rfl #[] rfl (by (try simp only [List.map_toArray, List.map_cons, List.map_nil]); first | done | rfl | (simp; done)) ?_; (with_reducible refine (barrowlaw02_small.calls k _ _  Hc1.out).mono ?_); rintro e_ w9 ⟨rfl, hb_⟩; refine ⟨_, rfl, ?_⟩; replace HS := Aside0.mk (HS.out.below hb_); replace HK := Aside0.mk (HK.out.trans (Keep.below hb_))) | ((with_reducible refine gate_dst (N := 16) rfl ?_); refine goesL_ (some 16) rfl rfl Try.func11 (by kernel_rfl) rfl #[] rfl (by (try simp only [List.map_toArray, List.map_cons, List.map_nil]); first | done | rfl | (simp; done)) ?_; have hs0_ := HS.out; (with_reducible refine (draw_New.slcalls _ _ _ _ (HF.out.keep HK.out) hs0_  Hc2.out).mono ?_); rintro e_ w10 ⟨g3000010, Az3000011, cz3000011, rfl, hsr_, hkr_⟩; refine ⟨_, rfl, ?_⟩; replace HS := Aside0.mk (hsr_); replace HK := Aside0.mk (HK.out.trans hkr_)))
        go_ret
        replace HS := Aside0.mk (SL.tail (SL.tail HS.out))
        unfold barrowlaw02_DrawDeals.Post
        exact ⟨by first | rfl | (simp; done) | (simp [*]; done) | (simp at c7b0 ⊢; first | exact c7b0 | (simp [c7b0]; done)), HS.out, HK.out⟩
      · replace c8 := Bool.eq_false_iff.mpr c8
        subst c8
        rw [if_neg (show ¬ (false = true) by decide)] at H
        exact absurd H (by simp)
    · rw [if_neg c7] at H
      have c7b0 : decide (300 < (l2.length : Int)) = false := decide_eq_false c7
      have c7b1 : decide (300 < l2.length) = false := decide_eq_false (by omega)
      clear c7
      replace H := Option.bind_eq_some_iff.1 H
      obtain ⟨⟨t189, t190⟩, Hc110, H⟩ := H
      try dsimp only at H
      have Hc11 := Aside0.mk Hc110
      clear Hc110
      have H' := Aside0.mk H
      clear H
      go_enter Try.func7, Try.ntmps7
      go_wp2_with (first | ((with_reducible refine gate_dst (N := 15) rfl ?_); refine goesL_ (some 15) rfl rfl Try.func8 (by kernel_rfl) rfl #[] rfl (by (try simp only [List.map_toArray, List.map_cons, List.map_nil]); first | done | rfl | (simp; done)) ?_; (with_reducible refine (barrowlaw02_small.calls k _ _  Hc1.out).mono ?_); rintro e_ w12 ⟨rfl, hb_⟩; refine ⟨_, rfl, ?_⟩; replace HS := Aside0.mk (HS.out.below hb_); replace HK := Aside0.mk (HK.out.trans (Keep.below hb_))) | ((with_reducible refine gate_dst (N := 16) rfl ?_); refine goesL_ (some 16) rfl rfl Try.func11 (by kernel_rfl) rfl #[] rfl (by (try simp only [List.map_toArray, List.map_cons, List.map_nil]); first | done | rfl | (simp; done)) ?_; have hs0_ := HS.out; (with_reducible refine (draw_New.slcalls _ _ _ _ (HF.out.keep HK.out) hs0_  Hc2.out).mono ?_); rintro e_ w13 ⟨g3000010, Az3000011, cz3000011, rfl, hsr_, hkr_⟩; refine ⟨_, rfl, ?_⟩; replace HS := Aside0.mk (hsr_); replace HK := Aside0.mk (HK.out.trans hkr_)) | ((with_reducible refine gate_dst (N := 36) rfl ?_); refine goesL_ (some 36) rfl rfl Try.func12 (by kernel_rfl) rfl #[.pointer (some ⟨g3000010, 0, none⟩), .slice A0 l0.length c0] rfl (by (try simp only [List.map_toArray, List.map_cons, List.map_nil]); first | done | rfl | (simp; done)) ?_; have hs0_ := (SL.get1 (SL.get1 HS.out)); (with_reducible refine (draw_Stream_Feed.slcalls k _ _ _ _ _ _ _ _ _ _ _ _ (HF.out.keep HK.out) hs0_ (HR0.out.keep HK.out) HC0.out Hc11.out).mono ?_); rintro e_ w14 ⟨A191, c192, rfl, hsr_, hkr_⟩; refine ⟨_, rfl, ?_⟩; replace HS := Aside0.mk (hsr_); replace HK := Aside0.mk (HK.out.trans hkr_); refine stop_ ?_; intro G_ hG_))
      have H := H'.out
      clear H'
      by_cases c15 : t189 = 0
      · rw [if_pos c15] at H
        have c15b0 : (t189 == 0) = true := beq_iff_eq.mpr c15
        have c15b1 : (t189 != 0) = false := bne_eq_false_iff_eq.mpr c15
        clear c15
        replace H := Option.bind_eq_some_iff.1 H
        obtain ⟨⟨t193, t194, t195⟩, Hc160, H⟩ := H
        try dsimp only at H
        have Hc16 := Aside0.mk Hc160
        clear Hc160
        have H' := Aside0.mk H
        clear H
        refine hG_.out ?_
        try simp only [c15b0, c15b1]
        try go_upto_region 8 with (first | ((with_reducible refine gate_dst (N := 42) rfl ?_); refine goesL_ (some 42) rfl rfl Try.func19 (by kernel_rfl) rfl #[.pointer (some ⟨g3000010, 0, none⟩), .int .i64 a1] rfl (by (try simp only [List.map_toArray, List.map_cons, List.map_nil]); first | done | rfl | (simp; done)) ?_; have hs0_ := (SL.get1 (SL.get1 HS.out)); (with_reducible refine (draw_Stream_Deal.slcalls k _ _ _ _ _ _ _ _ _ _ _ (HF.out.keep HK.out) hs0_  Hc16.out).mono ?_); rintro e_ w17 ⟨A196, c197, Az3000012, cz3000012, rfl, hsr_, hkr_⟩; refine ⟨_, rfl, ?_⟩; replace HS := Aside0.mk (hsr_); replace HK := Aside0.mk (HK.out.trans hkr_)))
        (try simp only [Act.put, sT, sZ, sS])
        go_cut [62] (fun v62 wc => ∃ (kq : Nat) (x62_199 : Bool), v62 = .bool x62_199 ∧ Aside0 (barrowlaw02_DrawDeals.l199 kq l2 t187 t193 t195 x62_199 = some r) ∧ Aside0 (kq ≤ k) ∧ Aside0 (SL (cells g3000010 50 [.slice A196 t195.length c197].toArray :: row (Kd.int .i64) 3 (.slice A196 t195.length c197) t195 :: row (Kd.int .i64) 3 (.slice Az3000012 t193.length cz3000012) t193 :: L) wc S) ∧ Aside0 (Keep S w wc))
        case first =>
          have H := H'.out
          clear H'
          by_cases c18 : (t193.length : Int) > 0
          · rw [if_pos c18] at H
            have c18b0 : decide (0 < (t193.length : Int)) = true := decide_eq_true c18
            have c18b1 : decide (0 < t193.length) = true := decide_eq_true (by omega)
            clear c18
            by_cases c19 : t194 = true
            · subst c19
              rw [if_pos rfl] at H
              have H' := Aside0.mk H
              clear H
              go_wp2
              go_meet
              case rel => exact ⟨k, (((t193.length : Int) != a1)), (by first | rfl | (simp; done) | (simp [*]; done)), H', ⟨by omega⟩, HS, HK⟩
            · replace c19 := Bool.eq_false_iff.mpr c19
              subst c19
              rw [if_neg (show ¬ (false = true) by decide)] at H
              exact absurd H (by simp)
          · rw [if_neg c18] at H
            have c18b0 : decide (0 < (t193.length : Int)) = false := decide_eq_false c18
            have c18b1 : decide (0 < t193.length) = false := decide_eq_false (by omega)
            clear c18
            by_cases c20 : (t194 != (a1 == 0)) = true
            · rw [if_pos c20] at H
              exact absurd H (by simp)
            · rw [if_neg c20] at H
              have c20b0 : (t194 != (a1 == 0)) = false := by simpa using c20
              (try (have c20b1 : decide (t194 = (a1 == 0)) = true := by simpa using c20))
              (try (have c20b2 : (t194 == (a1 == 0)) = true := by simpa using c20))
              clear c20
              by_cases c21 : t194 = true
              · subst c21
                rw [if_pos rfl] at H
                have H' := Aside0.mk H
                clear H
                go_wp2
                go_meet
                case rel => exact ⟨k, (((t193.length : Int) != a1)), (by first | rfl | (simp; done) | (simp [*]; done)), H', ⟨by omega⟩, HS, HK⟩
              · replace c21 := Bool.eq_false_iff.mpr c21
                subst c21
                rw [if_neg (show ¬ (false = true) by decide)] at H
                have H' := Aside0.mk H
                clear H
                go_wp2
                go_meet
                case rel => exact ⟨k, (false), (by first | rfl | (simp; done) | (simp [*]; done)), H', ⟨by omega⟩, HS, HK⟩
        case rest =>
          clear H' HS HK
          obtain ⟨kq, x62_199, rfl, HA, HQ1, HS, HK⟩ := hcut
          cases kq with
          | zero => exact absurd HA.out (by simp [barrowlaw02_DrawDeals.l199])
          | succ k1 =>
            have H := HA.out
            clear HA
            simp only [barrowlaw02_DrawDeals.l199] at H
            by_cases c22 : x62_199 = true
            · subst c22
              rw [if_pos rfl] at H
              exact absurd H (by simp)
            · replace c22 := Bool.eq_false_iff.mpr c22
              subst c22
              rw [if_neg (show ¬ (false = true) by decide)] at H
              replace H := Option.bind_eq_some_iff.1 H
              obtain ⟨j198, hj1980, H⟩ := H
              try dsimp only at H
              have hj198 := Option.some.inj hj1980
              try rw [hj198] at c18b0
              try rw [hj198] at c18b1
              clear hj1980
              by_cases c23 : 0 ≤ j198
              · rw [if_pos c23] at H
                have c23b0 := eq_true c23
                have c23b1 : decide (0 ≤ j198) = true := decide_eq_true c23
                clear c23
                by_cases c24 : j198 ≤ 281474976710656
                · rw [if_pos c24] at H
                  have LMc24 := Aside0.mk c24
                  clear c24
                  replace H := Option.bind_eq_some_iff.1 H
                  obtain ⟨y199, hy1990, H⟩ := H
                  try dsimp only at H
                  have hy199 := Option.some.inj hy1990
                  clear hy1990
                  have Ny199 := Aside0.mk hy199
                  clear hy199
                  have H' := Aside0.mk H
                  clear H
                  go_wp2_with (first | ((with_reducible refine gate_dst (N := 65) rfl ?_); refine wpList_plain rfl (fun K_ hK_ => ?_); refine op_make (S := S) (enc := Value.bool) (h1 := fun _ => rfl) false 46 4 1 (.tmp 64) (.tmp 64) rfl Try.underlying46 (by kernel_rfl) rfl (by decide) (j198) rfl rfl (of_decide_eq_true (by first | (with_reducible assumption) | assumption)) (by have := LMc24.out; omega) y199 Ny199.out (HF.out.keep HK.out) HS.out ?_; intro Az3000013 cz3000013 w25 hs_ hk_; refine hK_ _ _ ?_; clear hK_ K_; replace HS := Aside0.mk ((show SL (row Kd.bool 4 (.slice Az3000013 y199.length cz3000013) y199 :: _) _ _ from hs_)); replace HK := Aside0.mk (HK.out.trans hk_)))
                  try clear hj198
                  go_loopg [12] k1 (fun kq v12 w' => ∃ (y3000013_0 : List Bool) (x12_0 : Int), v12 = .int .i64 x12_0 ∧ Aside0 (barrowlaw02_DrawDeals.l0 kq l2 t187 t193 t195 y199 x12_0 y3000013_0 = some r) ∧ Aside0 (kq ≤ k1) ∧ Aside0 (SL (row Kd.bool 4 (.slice Az3000013 y199.length cz3000013) y3000013_0 :: cells g3000010 50 [.slice A196 t195.length c197].toArray :: row (Kd.int .i64) 3 (.slice A196 t195.length c197) t195 :: row (Kd.int .i64) 3 (.slice Az3000012 t193.length cz3000012) t193 :: L) w' S) ∧ Aside0 (Keep S w w'))
                  case atStart => exact ⟨(y199), (0), (by first | rfl | (simp; done) | (simp [*]; done)), H', ⟨Nat.le_refl _⟩, HS, HK⟩
                  case round =>
                    clear H' HS HK
                    obtain ⟨y3000013_0, x12_0, rfl, HA, HQ2, HS, HK⟩ := hrel
                    cases gk with
                    | zero => exact absurd HA.out (by simp [barrowlaw02_DrawDeals.l0])
                    | succ k2 =>
                      have H := HA.out
                      clear HA
                      simp only [barrowlaw02_DrawDeals.l0] at H
                      by_cases c26 : x12_0 < (t193.length : Int)
                      · rw [if_pos c26] at H
                        have c26b0 : decide (x12_0 < (t193.length : Int)) = true := decide_eq_true c26
                        clear c26
                        by_cases c27 : 0 ≤ x12_0
                        · rw [if_pos c27] at H
                          have c27b0 : decide (0 ≤ x12_0) = true := decide_eq_true c27
                          clear c27
                          by_cases c28 : (rd t193 x12_0) < 0
                          · rw [if_pos c28] at H
                            exact absurd H (by simp)
                          · rw [if_neg c28] at H
                            have c28b0 : decide ((rd t193 x12_0) < 0) = false := decide_eq_false c28
                            clear c28
                            by_cases c29 : (rd t193 x12_0) ≥ (t193.length : Int)
                            · rw [if_pos c29] at H
                              exact absurd H (by simp)
                            · rw [if_neg c29] at H
                              have c29b0 : decide ((t193.length : Int) ≤ (rd t193 x12_0)) = false := decide_eq_false c29
                              clear c29
                              replace H := Option.bind_eq_some_iff.1 H
                              obtain ⟨j239, hj2390, H⟩ := H
                              try dsimp only at H
                              have hj239 := Option.some.inj hj2390
                              try rw [hj239] at c28b0
                              try rw [hj239] at c29b0
                              clear hj2390
                              by_cases c30 : 0 ≤ j239
                              · rw [if_pos c30] at H
                                have c30b0 : decide (0 ≤ j239) = true := decide_eq_true c30
                                clear c30
                                by_cases c31 : j239 < (y199.length : Int)
                                · rw [if_pos c31] at H
                                  have c31b0 : decide (j239 < (y199.length : Int)) = true := decide_eq_true c31
                                  clear c31
                                  by_cases c32 : rdOf false y3000013_0 j239 = true
                                  · rw [if_pos c32] at H
                                    exact absurd H (by simp)
                                  · rw [if_neg c32] at H
                                    have c32b0 : rdOf false y3000013_0 j239 = false := by simpa using c32
                                    clear c32
                                    replace H := Option.bind_eq_some_iff.1 H
                                    obtain ⟨y243, hy2430, H⟩ := H
                                    try dsimp only at H
                                    have hy243 := Option.some.inj hy2430
                                    clear hy2430
                                    have Ny243 := Aside0.mk hy243
                                    clear hy243
                                    have H' := Aside0.mk H
                                    clear H
                                    have pq236 : 0 ≤ (x12_0 : Int) := of_decide_eq_true (by first | (with_reducible assumption) | assumption)
                                    have qq236 : x12_0 < ((t193.length : Int) : Int) := of_decide_eq_true (by first | (with_reducible assumption) | assumption)
                                    obtain ⟨adq236, eq236, hxq236_0⟩ := Kd.at_int (SL.row_c (SL.get3 HS.out)).2.2 x12_0 pq236 qq236
                                    cases eq236
                                    replace pq236 := eq_true pq236
                                    replace qq236 := eq_true qq236
                                    have pq240 : 0 ≤ (j239 : Int) := of_decide_eq_true (by first | (with_reducible assumption) | assumption)
                                    have qq240 : j239 < ((y199.length : Int) : Int) := of_decide_eq_true (by first | (with_reducible assumption) | assumption)
                                    obtain ⟨adq240, eq240, hxq240_0⟩ := Kd.at_bool (SL.row_c HS.out).2.2 j239 pq240 qq240
                                    cases eq240
                                    replace pq240 := eq_true pq240
                                    replace qq240 := eq_true qq240
                                    go_wp2_with (first | ((with_reducible refine gate_store (t := 4) (p := 100) (v := (.const (.bool true))) rfl ?_); refine wpList_plain rfl (fun K_ hK_ => ?_); refine op_set (S := S) (enc := Value.bool) (h1 := fun _ => rfl) 4 (.tmp 100) (.const (.bool true)) rfl adq240 (j239) true HS.out (by rfl) rfl (by kernel_rfl) (of_decide_eq_true (by first | (with_reducible assumption) | assumption)) (of_decide_eq_true (by first | (with_reducible assumption) | assumption)) y243 Ny243.out ?_; intro w33 hs_ hk_; refine hK_ _ _ ?_; clear hK_ K_; replace HS := Aside0.mk ((show SL (row Kd.bool 4 (.slice (some adq240) y199.length cz3000013) y243 :: _) _ _ from hs_)); replace HK := Aside0.mk (HK.out.trans hk_)))
                                    go_roundg k2
                                    case measure => have := HQ1.out; have := HQ2.out; omega
                                    case rel => exact ⟨(y243), (wrap64 (x12_0 + 1)), (by first | rfl | (simp; done) | (simp [*]; done)), H', ⟨by have := HQ1.out; have := HQ2.out; omega⟩, HS, HK⟩
                                · rw [if_neg c31] at H
                                  exact absurd H (by simp)
                              · rw [if_neg c30] at H
                                exact absurd H (by simp)
                        · rw [if_neg c27] at H
                          exact absurd H (by simp)
                      · rw [if_neg c26] at H
                        have c26b0 : decide (x12_0 < (t193.length : Int)) = false := decide_eq_false c26
                        clear c26
                        replace H := Option.bind_eq_some_iff.1 H
                        obtain ⟨⟨t244, t245, t246⟩, Hc340, H⟩ := H
                        try dsimp only at H
                        have Hc34 := Aside0.mk Hc340
                        clear Hc340
                        by_cases c35 : t187 = true
                        · subst c35
                          rw [if_pos rfl] at H
                          by_cases c36 : t245 = true
                          · subst c36
                            rw [if_pos rfl] at H
                            by_cases c37 : t244 ≥ 0
                            · rw [if_pos c37] at H
                              have c37b0 : decide (0 ≤ t244) = true := decide_eq_true c37
                              clear c37
                              by_cases c38 : t244 < (l2.length : Int)
                              · rw [if_pos c38] at H
                                have c38b0 : decide (t244 < (l2.length : Int)) = true := decide_eq_true c38
                                clear c38
                                by_cases c39 : 0 ≤ t244
                                · rw [if_pos c39] at H
                                  have c39b0 : decide (0 ≤ t244) = true := decide_eq_true c39
                                  clear c39
                                  by_cases c40 : (rd l2 t244) > 0
                                  · rw [if_pos c40] at H
                                    have c40b0 : decide (0 < (rd l2 t244)) = true := decide_eq_true c40
                                    clear c40
                                    obtain rfl := Option.some.inj H
                                    go_wp2_with (first | ((with_reducible refine gate_dst (N := 104) rfl ?_); refine goesL_ (some 104) rfl rfl Try.func17 (by kernel_rfl) rfl #[.pointer (some ⟨g3000010, 0, none⟩), .slice A2 l2.length c2] rfl (by (try simp only [List.map_toArray, List.map_cons, List.map_nil]); first | done | rfl | (simp; done)) ?_; have hs0_ := (SL.get2 (SL.get2 HS.out)); (with_reducible refine (draw_Stream_Pick.slcalls k2 _ _ _ _ _ _ _ _ _ _ _ _ _ (HF.out.keep HK.out) hs0_ (HR2.out.keep HK.out) HC2.out Hc34.out).mono ?_); rintro e_ w41 ⟨A247, c248, rfl, hsr_, hkr_⟩; refine ⟨_, rfl, ?_⟩; replace HS := Aside0.mk (hsr_); replace HK := Aside0.mk (HK.out.trans hkr_); have pq249 : 0 ≤ (t244 : Int) := of_decide_eq_true (by first | (with_reducible assumption) | assumption); have qq249 : t244 < ((l2.length : Int) : Int) := of_decide_eq_true (by first | (with_reducible assumption) | assumption); obtain ⟨adq249, eq249, hxq249_0⟩ := Kd.at_int (RO.at_ HR2.out HK.out) t244 pq249 qq249; cases eq249; replace pq249 := eq_true pq249; replace qq249 := eq_true qq249))
                                    go_ret
                                    replace HS := Aside0.mk (SL.tail (SL.tail (SL.tail (SL.tail HS.out))))
                                    unfold barrowlaw02_DrawDeals.Post
                                    exact ⟨by first | rfl | (simp; done) | (simp [*]; done) | (simp at c40b0 ⊢; first | exact c40b0 | (simp [c40b0]; done)), HS.out, HK.out⟩
                                  · rw [if_neg c40] at H
                                    exact absurd H (by simp)
                                · rw [if_neg c39] at H
                                  exact absurd H (by simp)
                              · rw [if_neg c38] at H
                                exact absurd H (by simp)
                            · rw [if_neg c37] at H
                              exact absurd H (by simp)
                          · replace c36 := Bool.eq_false_iff.mpr c36
                            subst c36
                            rw [if_neg (show ¬ (false = true) by decide)] at H
                            by_cases c42 : t244 = 0
                            · rw [if_pos c42] at H
                              have c42b0 : (t244 == 0) = true := beq_iff_eq.mpr c42
                              have c42b1 : (t244 != 0) = false := bne_eq_false_iff_eq.mpr c42
                              clear c42
                              obtain rfl := Option.some.inj H
                              go_wp2_with (first | ((with_reducible refine gate_dst (N := 104) rfl ?_); refine goesL_ (some 104) rfl rfl Try.func17 (by kernel_rfl) rfl #[.pointer (some ⟨g3000010, 0, none⟩), .slice A2 l2.length c2] rfl (by (try simp only [List.map_toArray, List.map_cons, List.map_nil]); first | done | rfl | (simp; done)) ?_; have hs0_ := (SL.get2 (SL.get2 HS.out)); (with_reducible refine (draw_Stream_Pick.slcalls k2 _ _ _ _ _ _ _ _ _ _ _ _ _ (HF.out.keep HK.out) hs0_ (HR2.out.keep HK.out) HC2.out Hc34.out).mono ?_); rintro e_ w43 ⟨A247, c248, rfl, hsr_, hkr_⟩; refine ⟨_, rfl, ?_⟩; replace HS := Aside0.mk (hsr_); replace HK := Aside0.mk (HK.out.trans hkr_)))
                              go_ret
                              replace HS := Aside0.mk (SL.tail (SL.tail (SL.tail (SL.tail HS.out))))
                              unfold barrowlaw02_DrawDeals.Post
                              exact ⟨by first | rfl | (simp; done) | (simp [*]; done) | (simp at c42b0 ⊢; first | exact c42b0 | (simp [c42b0]; done)), HS.out, HK.out⟩
                            · rw [if_neg c42] at H
                              exact absurd H (by simp)
                        · replace c35 := Bool.eq_false_iff.mpr c35
                          subst c35
                          rw [if_neg (show ¬ (false = true) by decide)] at H
                          exact absurd H (by simp)
                · rw [if_neg c24] at H
                  exact absurd H (by simp)
              · rw [if_neg c23] at H
                exact absurd H (by simp)
      · rw [if_neg c15] at H
        have c15b0 : (t189 == 0) = false := beq_eq_false_iff_ne.mpr c15
        have c15b1 : (t189 != 0) = true := bne_iff_ne.mpr c15
        obtain rfl := Option.some.inj H
        refine hG_.out ?_
        try simp only [c15b0, c15b1]
        go_wp2
        go_ret
        replace HS := Aside0.mk (SL.tail (SL.tail HS.out))
        unfold barrowlaw02_DrawDeals.Post
        exact ⟨by first | rfl | (simp; done) | (simp [*]; done) | (simp at c15b0 ⊢; first | exact c15b0 | (simp [c15b0]; done)), HS.out, HK.out⟩
theorem barrowlaw02_DrawDeals.calls (k : Nat) (A0 : Option Addr) (c0 : Nat) (l0 : List Int) (a1 : Int) (A2 : Option Addr) (c2 : Nat) (l2 : List Int) (r : Bool) (w : World) (hr0 : Kd.C (Kd.int .i64) w A0 l0.length l0) (hc0 : l0.length ≤ c0) (hr2 : Kd.C (Kd.int .i64) w A2 l2.length l2) (hc2 : l2.length ≤ c2) (h : barrowlaw02_DrawDeals.f k l0 a1 l2 = some r) :
    Calls Try.prog 7 #[.slice A0 l0.length c0, .int .i64 a1, .slice A2 l2.length c2] w fun e w' => e = .returned (.bool r) ∧ Below w.heap.size w w' :=
  (barrowlaw02_DrawDeals.slcalls k A0 c0 l0 a1 A2 c2 l2 r (news w) [] w (fresh_news w) trivial (RO.top hr0) hc0 (RO.top hr2) hc2 h).mono fun _ _ h => ⟨h.1, h.2.2.to_below⟩

/-- THE ONE PURE STATEMENT of barrowlaw02_DrawDeals. -/
def barrowlaw02_DrawDeals.Pure : Prop := ∀ (l0 : List Int) (a1 : Int) (l2 : List Int), (l0.length ≤ maxLen ∧ l0.length * 8 ≤ 140737488351232 ∧ ∀ x250_ ∈ l0, (Lit.int .i64 x250_).wf = true) → ((Lit.int .i64 a1).wf = true) → (l2.length ≤ maxLen ∧ l2.length * 8 ≤ 140737488351232 ∧ ∀ x251_ ∈ l2, (Lit.int .i64 x251_).wf = true) → ∃ k, barrowlaw02_DrawDeals.f k l0 a1 l2 = some true

end Go.Proofs.Ytkffeglkbpfndaa.XDP
