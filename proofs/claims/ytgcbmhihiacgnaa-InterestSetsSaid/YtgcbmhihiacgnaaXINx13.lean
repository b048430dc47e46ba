-- Written by xprint.py (a program of this session) for this claim
import Derived.Test.YtgcbmhihiacgnaaSL5
import Derived.Test.YtgcbmhihiacgnaaXINx0
import Derived.Test.YtgcbmhihiacgnaaXINx3
import Derived.Test.YtgcbmhihiacgnaaXINx4
import Derived.Test.YtgcbmhihiacgnaaXINx9
import Derived.Test.YtgcbmhihiacgnaaXINx10
import Derived.Test.YtgcbmhihiacgnaaXINx12
namespace Go.Proofs.Ytgcbmhihiacgnaa.XIN
open Go.Proofs.YtgcbmhihiacgnaaV Go.Proofs.YtgcbmhihiacgnaaS
open Go.RowKit Go.Proofs.YtgcbmhihiacgnaaW.PrintWords Go.Proofs.YtgcbmhihiacgnaaW.PrintLast Go.Proofs.YtgcbmhihiacgnaaW.PrintMore
attribute [local go_sem] max2_int min2_int max_two min_two max_three min_three max_four min_four   -- for this text's walks alone
set_option linter.unusedVariables false
set_option linter.unusedSimpArgs false

/-! ### barrowlaw24_InterestSets: function 3 -/
noncomputable def barrowlaw24_InterestSets.l0 : Nat → (List (S50)) → (List (S36)) → Int → Int → Int → Bool → (List Int) → Bool → Int → (List Int) → Option (Bool)
  | 0, _, _, _, _, _, _, _, _, _, _ => none
  | k + 1, l0, l1, a2, a3, a4, t428, t429, t431, x14_0, y3000050_0 => if x14_0 < (t429.length : Int) then (if 0 ≤ x14_0 then ((some (y3000050_0.set (x14_0).toNat (-7) : List Int)).bind fun y440 => (barrowlaw24_InterestSets.l0 k l0 l1 a2 a3 a4 t428 t429 t431 (wrap64 (x14_0 + 1)) y440)) else (none)) else (if t428 = true then (if t431 = true then ((interest_Set.f k l0 l1 a2 a4).bind fun t441 => ((barrowref24_Set.f k l0 l1 a2 a4).bind fun t442 => ((barrowref02_Same.f k t441 t442).bind fun t443 => (if t443 = true then ((interest_Mutual.f k l0 a2 a3 a4).bind fun t444 => ((barrowref24_Mutual.f k l0 a2 a3 a4).bind fun t445 => (if (t444 == t445) = true then (some true) else (none)))) else (none))))) else (none)) else (none))
noncomputable def barrowlaw24_InterestSets.f (k : Nat) (l0 : List (S50)) (l1 : List (S36)) (a2 : Int) (a3 : Int) (a4 : Int) : Option (Bool) := (barrowlaw24_small.f k).bind fun t428 => (if (l0.length : Int) > 80 then (some t428) else (if (l1.length : Int) > 80 then (some t428) else ((interest_Set.f k l0 l1 a2 a4).bind fun t429 => ((barrowref24_Set.f k l0 l1 a2 a4).bind fun t430 => ((barrowref02_Same.f k t429 t430).bind fun t431 => (barrowlaw24_InterestSets.l0 k l0 l1 a2 a3 a4 t428 t429 t431 0 t429))))))
theorem barrowlaw24_InterestSets.mono_l : ∀ k, (∀ y0 y1 y2 y3 y4 y5 y6 y7 y8 y9, LeO (barrowlaw24_InterestSets.l0 k y0 y1 y2 y3 y4 y5 y6 y7 y8 y9) (barrowlaw24_InterestSets.l0 (k + 1) y0 y1 y2 y3 y4 y5 y6 y7 y8 y9))
  | 0 => fun _ _ _ _ _ _ _ _ _ _ r h => by simp [barrowlaw24_InterestSets.l0] at h
  | k + 1 => by
    have ih0 := barrowlaw24_InterestSets.mono_l k
    · intro y0 y1 y2 y3 y4 y5 y6 y7 y8 y9
      unfold barrowlaw24_InterestSets.l0
      repeat' first
      | (with_reducible exact ih0 _ _ _ _ _ _ _ _ _ _)
      | (with_reducible exact barrowlaw24_small.mono _)
      | (with_reducible exact barrowref02_Same.mono _ _ _)
      | (with_reducible exact barrowref24_Mutual.mono _ _ _ _ _)
      | (with_reducible exact barrowref24_Set.mono _ _ _ _ _)
      | (with_reducible exact interest_Mutual.mono _ _ _ _ _)
      | (with_reducible exact interest_Set.mono _ _ _ _ _)
      | (with_reducible exact LeO.refl _)
      | (with_reducible exact LeO.none _)
      | (with_reducible refine LeO.ite ?_ ?_)
      | (with_reducible refine everyOf_le (fun _ => ?_))
      | (with_reducible refine LeO.bind ?_ (fun _ => ?_))
      | exact ih0 _ _ _ _ _ _ _ _ _ _
      | exact barrowlaw24_small.mono _
      | exact barrowref02_Same.mono _ _ _
      | exact barrowref24_Mutual.mono _ _ _ _ _
      | exact barrowref24_Set.mono _ _ _ _ _
      | exact interest_Mutual.mono _ _ _ _ _
      | exact interest_Set.mono _ _ _ _ _
      | exact LeO.none _
      | refine LeO.ite ?_ ?_
      | refine LeO.bind ?_ (fun _ => ?_)
theorem barrowlaw24_InterestSets.mono : ∀ a0 a1 a2 a3 a4 k, LeO (barrowlaw24_InterestSets.f k a0 a1 a2 a3 a4) (barrowlaw24_InterestSets.f (k + 1) a0 a1 a2 a3 a4) := by
  intro a0 a1 a2 a3 a4 k
  have ih0 := barrowlaw24_InterestSets.mono_l k
  unfold barrowlaw24_InterestSets.f
  repeat' first
      | (with_reducible exact ih0 _ _ _ _ _ _ _ _ _ _)
      | (with_reducible exact barrowlaw24_small.mono _)
      | (with_reducible exact barrowref02_Same.mono _ _ _)
      | (with_reducible exact barrowref24_Mutual.mono _ _ _ _ _)
      | (with_reducible exact barrowref24_Set.mono _ _ _ _ _)
      | (with_reducible exact interest_Mutual.mono _ _ _ _ _)
      | (with_reducible exact interest_Set.mono _ _ _ _ _)
      | (with_reducible exact LeO.refl _)
      | (with_reducible exact LeO.none _)
      | (with_reducible refine LeO.ite ?_ ?_)
      | (with_reducible refine everyOf_le (fun _ => ?_))
      | (with_reducible refine LeO.bind ?_ (fun _ => ?_))
      | exact ih0 _ _ _ _ _ _ _ _ _ _
      | exact barrowlaw24_small.mono _
      | exact barrowref02_Same.mono _ _ _
      | exact barrowref24_Mutual.mono _ _ _ _ _
      | exact barrowref24_Set.mono _ _ _ _ _
      | exact interest_Mutual.mono _ _ _ _ _
      | exact interest_Set.mono _ _ _ _ _
      | exact LeO.none _
      | refine LeO.ite ?_ ?_
      | refine LeO.bind ?_ (fun _ => ?_)
def barrowlaw24_InterestSets.Post (r : Bool) (S : Nat → Prop) (L : List Asr) (w : World) (e : Ending) (w' : World) : Prop := e = .returned (.bool r) ∧ SL (L) w' S ∧ Keep S w w'
set_option maxHeartbeats 8000000 in
set_option maxRecDepth 100000 in
theorem barrowlaw24_InterestSets.slcalls (k : Nat) (A0 : Option Addr) (c0 : Nat) (l0 : List (S50)) (A1 : Option Addr) (c1 : Nat) (l1 : List (S36)) (a2 : Int) (a3 : Int) (a4 : Int) (r : Bool) (S : Nat → Prop) (L : List Asr) (w : World) (hf : Fresh S w) (hs : SL (L) w S) (hr0 : RO S w (fun w_ => Kd.C k50 w_ A0 l0.length l0)) (hc0 : l0.length ≤ c0) (hr1 : RO S w (fun w_ => Kd.C k36 w_ A1 l1.length l1)) (hc1 : l1.length ≤ c1) (h : barrowlaw24_InterestSets.f k l0 l1 a2 a3 a4 = some r) :
    Calls Try.prog 3 #[.slice A0 l0.length c0, .slice A1 l1.length c1, .int .i64 a2, .int .i64 a3, .int .i64 a4] w (barrowlaw24_InterestSets.Post r S L w) := by
  have HR0 := Aside0.mk hr0
  have HC0 := Aside0.mk hc0
  clear hr0 hc0
  have HR1 := Aside0.mk hr1
  have HC1 := Aside0.mk hc1
  clear hr1 hc1
  have HF := Aside0.mk hf
  have HS := Aside0.mk hs
  have HK := Aside0.mk (Keep.refl S w)
  clear hf hs
  have H : ((barrowlaw24_small.f k).bind fun t428 => (if (l0.length : Int) > 80 then (some t428) else (if (l1.length : Int) > 80 then (some t428) else ((interest_Set.f k l0 l1 a2 a4).bind fun t429 => ((barrowref24_Set.f k l0 l1 a2 a4).bind fun t430 => ((barrowref02_Same.f k t429 t430).bind fun t431 => (barrowlaw24_InterestSets.l0 k l0 l1 a2 a3 a4 t428 t429 t431 0 t429))))))) = some r := h
  clear h
  replace H := Option.bind_eq_some_iff.1 H
  obtain ⟨t428, Hc10, H⟩ := H
  try dsimp only at H
  have Hc1 := Aside0.mk Hc10
  clear Hc10
  by_cases c2 : (l0.length : Int) > 80
  · rw [if_pos c2] at H
    have c2b0 : decide (80 < (l0.length : Int)) = true := decide_eq_true c2
    have c2b1 : decide (80 < l0.length) = true := decide_eq_true (by omega)
    clear c2
    obtain rfl := Option.some.inj H
    go_enter Try.func3, Try.ntmps3
    go_wp2_with (first | ((with_reducible refine gate_dst (N := 15) rfl ?_); refine goesL_ (some 15) rfl rfl Try.func7 (by kernel_rfl) rfl #[] rfl (by (try simp only [List.map_toArray, List.map_cons, List.map_nil]); first | done | rfl | (simp; done)) ?_; (with_reducible refine (barrowlaw24_small.calls k _ _  Hc1.out).mono ?_); rintro e_ w3 ⟨rfl, hb_⟩; refine ⟨_, rfl, ?_⟩; replace HS := Aside0.mk (HS.out.below hb_); replace HK := Aside0.mk (HK.out.trans (Keep.below hb_))))
    go_ret
    unfold barrowlaw24_InterestSets.Post
    exact ⟨by first | rfl | (simp; done) | (simp [*]; done) | (simp at c2b0 ⊢; first | exact c2b0 | (simp [c2b0]; done)), HS.out, HK.out⟩
  · rw [if_neg c2] at H
    have c2b0 : decide (80 < (l0.length : Int)) = false := decide_eq_false c2
    have c2b1 : decide (80 < l0.length) = false := decide_eq_false (by omega)
    clear c2
    by_cases c4 : (l1.length : Int) > 80
    · rw [if_pos c4] at H
      have c4b0 : decide (80 < (l1.length : Int)) = true := decide_eq_true c4
      have c4b1 : decide (80 < l1.length) = true := decide_eq_true (by omega)
      clear c4
      obtain rfl := Option.some.inj H
      go_enter Try.func3, Try.ntmps3
      go_wp2_with (first | ((with_reducible refine gate_dst (N := 15) rfl ?_); refine goesL_ (some 15) rfl rfl Try.func7 (by kernel_rfl) rfl #[] rfl (by (try simp only [List.map_toArray, List.map_cons, List.map_nil]); first | done | rfl | (simp; done)) ?_; (with_reducible refine (barrowlaw24_small.calls k _ _  Hc1.out).mono ?_); rintro e_ w5 ⟨rfl, hb_⟩; refine ⟨_, rfl, ?_⟩; replace HS := Aside0.mk (HS.out.below hb_); replace HK := Aside0.mk (HK.out.trans (Keep.below hb_))))
      go_ret
      unfold barrowlaw24_InterestSets.Post
      exact ⟨by first | rfl | (simp; done) | (simp [*]; done) | (simp at c4b0 ⊢; first | exact c4b0 | (simp [c4b0]; done)), HS.out, HK.out⟩
    · rw [if_neg c4] at H
      have c4b0 : decide (80 < (l1.length : Int)) = false := decide_eq_false c4
      have c4b1 : decide (80 < l1.length) = false := decide_eq_false (by omega)
      clear c4
      replace H := Option.bind_eq_some_iff.1 H
      obtain ⟨t429, Hc60, H⟩ := H
      try dsimp only at H
      have Hc6 := Aside0.mk Hc60
      clear Hc60
      replace H := Option.bind_eq_some_iff.1 H
      obtain ⟨t430, Hc70, H⟩ := H
      try dsimp only at H
      have Hc7 := Aside0.mk Hc70
      clear Hc70
      replace H := Option.bind_eq_some_iff.1 H
      obtain ⟨t431, Hc80, H⟩ := H
      try dsimp only at H
      have Hc8 := Aside0.mk Hc80
      clear Hc80
      have H' := Aside0.mk H
      clear H
      go_enter Try.func3, Try.ntmps3
      go_wp2_with (first | ((with_reducible refine gate_dst (N := 15) rfl ?_); refine goesL_ (some 15) rfl rfl Try.func7 (by kernel_rfl) rfl #[] rfl (by (try simp only [List.map_toArray, List.map_cons, List.map_nil]); first | done | rfl | (simp; done)) ?_; (with_reducible refine (barrowlaw24_small.calls k _ _  Hc1.out).mono ?_); rintro e_ w9 ⟨rfl, hb_⟩; refine ⟨_, rfl, ?_⟩; replace HS := Aside0.mk (HS.out.below hb_); replace HK := Aside0.mk (HK.out.trans (Keep.below hb_))) | ((with_reducible refine gate_dst (N := 29) rfl ?_); refine goesL_ (some 29) rfl rfl Try.func8 (by kernel_rfl) rfl #[.slice A0 l0.length c0, .slice A1 l1.length c1, .int .i64 a2, .int .i64 a4] rfl (by (try simp only [List.map_toArray, List.map_cons, List.map_nil]); first | done | rfl | (simp; done)) ?_; have hs0_ := HS.out; (with_reducible refine (interest_Set.slcalls k _ _ _ _ _ _ _ _ _ _ _ _ (HF.out.keep HK.out) hs0_ (HR0.out.keep HK.out) HC0.out (HR1.out.keep HK.out) HC1.out Hc6.out).mono ?_); rintro e_ w10 ⟨Az3000050, cz3000050, rfl, hsr_, hkr_⟩; refine ⟨_, rfl, ?_⟩; replace HS := Aside0.mk (hsr_); replace HK := Aside0.mk (HK.out.trans hkr_)) | ((with_reducible refine gate_dst (N := 35) rfl ?_); refine goesL_ (some 35) rfl rfl Try.func10 (by kernel_rfl) rfl #[.slice A0 l0.length c0, .slice A1 l1.length c1, .int .i64 a2, .int .i64 a4] rfl (by (try simp only [List.map_toArray, List.map_cons, List.map_nil]); first | done | rfl | (simp; done)) ?_; (with_reducible refine (barrowref24_Set.calls k _ _ _ _ _ _ _ _ _ _ (RO.at_ HR0.out HK.out) HC0.out (RO.at_ HR1.out HK.out) HC1.out Hc7.out).mono ?_); rintro e_ w11 ⟨v3000051_, rfl, ho3000051_, hb_⟩; refine ⟨_, rfl, ?_⟩; have hs_ := (SL.new (HF.out.keep HK.out) HS.out hb_ (row_of_R ho3000051_)).1; obtain ⟨Az3000051, cz3000051, e2_, _, _⟩ := SL.row_reads hs_; subst e2_; replace HS := Aside0.mk (hs_); replace HK := Aside0.mk (HK.out.trans (Keep.below hb_))) | ((with_reducible refine gate_dst (N := 36) rfl ?_); refine goesL_ (some 36) rfl rfl Try.func9 (by kernel_rfl) rfl #[.slice Az3000050 t429.length cz3000050, .slice Az3000051 t430.length cz3000051] rfl (by (try simp only [List.map_toArray, List.map_cons, List.map_nil]); first | done | rfl | (simp; done)) ?_; (with_reducible refine (barrowref02_Same.calls k _ _ _ _ _ _ _ _ (SL.row_c (SL.get1 HS.out)).2.2 (SL.row_c (SL.get1 HS.out)).2.1 (SL.row_c HS.out).2.2 (SL.row_c HS.out).2.1 Hc8.out).mono ?_); rintro e_ w12 ⟨rfl, hb_⟩; refine ⟨_, rfl, ?_⟩; replace hb_ := Drawn0.below hb_; replace HS := Aside0.mk (HS.out.below hb_); replace HK := Aside0.mk (HK.out.trans (Keep.below hb_))))
      go_loopg [14] k (fun kq v14 w' => ∃ (y3000050_0 : List Int) (x14_0 : Int), v14 = .int .i64 x14_0 ∧ Aside0 (barrowlaw24_InterestSets.l0 kq l0 l1 a2 a3 a4 t428 t429 t431 x14_0 y3000050_0 = some r) ∧ Aside0 (kq ≤ k) ∧ Aside0 (SL (row (Kd.int .i64) 3 (.slice Az3000051 t430.length cz3000051) t430 :: row (Kd.int .i64) 3 (.slice Az3000050 t429.length cz3000050) y3000050_0 :: L) w' S) ∧ Aside0 (Keep S w w'))
      case atStart => exact ⟨(t429), (0), (by first | rfl | (simp; done) | (simp [*]; done)), H', ⟨Nat.le_refl _⟩, HS, HK⟩
      case round =>
        clear H' HS HK
        obtain ⟨y3000050_0, x14_0, rfl, HA, HQ1, HS, HK⟩ := hrel
        cases gk with
        | zero => exact absurd HA.out (by simp [barrowlaw24_InterestSets.l0])
        | succ k1 =>
          have H := HA.out
          clear HA
          simp only [barrowlaw24_InterestSets.l0] at H
          by_cases c13 : x14_0 < (t429.length : Int)
          · rw [if_pos c13] at H
            have c13b0 : decide (x14_0 < (t429.length : Int)) = true := decide_eq_true c13
            clear c13
            by_cases c14 : 0 ≤ x14_0
            · rw [if_pos c14] at H
              have c14b0 : decide (0 ≤ x14_0) = true := decide_eq_true c14
              clear c14
              replace H := Option.bind_eq_some_iff.1 H
              obtain ⟨y440, hy4400, H⟩ := H
              try dsimp only at H
              have hy440 := Option.some.inj hy4400
              clear hy4400
              have Ny440 := Aside0.mk hy440
              clear hy440
              have H' := Aside0.mk H
              clear H
              have pq439 : 0 ≤ (x14_0 : Int) := of_decide_eq_true (by first | (with_reducible assumption) | assumption)
              have qq439 : x14_0 < ((t429.length : Int) : Int) := of_decide_eq_true (by first | (with_reducible assumption) | assumption)
              obtain ⟨adq439, eq439, hxq439_0⟩ := Kd.at_int (SL.row_c (SL.get1 HS.out)).2.2 x14_0 pq439 qq439
              cases eq439
              replace pq439 := eq_true pq439
              replace qq439 := eq_true qq439
              go_wp2_with (first | ((with_reducible refine gate_store (t := 3) (p := 45) (v := (.const (.int .i64 (-7)))) rfl ?_); refine wpList_plain rfl (fun K_ hK_ => ?_); refine op_set (S := S) (enc := Value.int .i64) (h1 := fun _ => rfl) 3 (.tmp 45) (.const (.int .i64 (-7))) rfl adq439 (x14_0) (-7) (SL.get1 HS.out) (by rfl) rfl (by kernel_rfl) (of_decide_eq_true (by first | (with_reducible assumption) | assumption)) (of_decide_eq_true (by first | (with_reducible assumption) | assumption)) y440 Ny440.out ?_; intro w15 hs_ hk_; refine hK_ _ _ ?_; clear hK_ K_; replace HS := Aside0.mk ((SL.back1 (show SL (row (Kd.int .i64) 3 (.slice (some adq439) t429.length cz3000050) y440 :: _) _ _ from hs_))); replace HK := Aside0.mk (HK.out.trans hk_)))
              go_roundg k1
              case measure => have := HQ1.out; omega
              case rel => exact ⟨(y440), (wrap64 (x14_0 + 1)), (by first | rfl | (simp; done) | (simp [*]; done)), H', ⟨by have := HQ1.out; omega⟩, HS, HK⟩
            · rw [if_neg c14] at H
              exact absurd H (by simp)
          · rw [if_neg c13] at H
            have c13b0 : decide (x14_0 < (t429.length : Int)) = false := decide_eq_false c13
            clear c13
            by_cases c16 : t428 = true
            · subst c16
              rw [if_pos rfl] at H
              by_cases c17 : t431 = true
              · subst c17
                rw [if_pos rfl] at H
                replace H := Option.bind_eq_some_iff.1 H
                obtain ⟨t441, Hc180, H⟩ := H
                try dsimp only at H
                have Hc18 := Aside0.mk Hc180
                clear Hc180
                replace H := Option.bind_eq_some_iff.1 H
                obtain ⟨t442, Hc190, H⟩ := H
                try dsimp only at H
                have Hc19 := Aside0.mk Hc190
                clear Hc190
                replace H := Option.bind_eq_some_iff.1 H
                obtain ⟨t443, Hc200, H⟩ := H
                try dsimp only at H
                have Hc20 := Aside0.mk Hc200
                clear Hc200
                by_cases c21 : t443 = true
                · subst c21
                  rw [if_pos rfl] at H
                  replace H := Option.bind_eq_some_iff.1 H
                  obtain ⟨t444, Hc220, H⟩ := H
                  try dsimp only at H
                  have Hc22 := Aside0.mk Hc220
                  clear Hc220
                  replace H := Option.bind_eq_some_iff.1 H
                  obtain ⟨t445, Hc230, H⟩ := H
                  try dsimp only at H
                  have Hc23 := Aside0.mk Hc230
                  clear Hc230
                  by_cases c24 : (t444 == t445) = true
                  · rw [if_pos c24] at H
                    have c24b0 : (t444 == t445) = true := c24
                    (try (have c24b1 : decide (t444 = t445) = true := by simpa using c24))
                    (try (have c24b2 : (t444 == t445) = true := by simpa using c24))
                    clear c24
                    obtain rfl := Option.some.inj H
                    go_wp2_with (first | ((with_reducible refine gate_dst (N := 55) rfl ?_); (try (refine gate_guard (by rfl) ?_; dsimp only)); refine goesL_ (some 55) rfl rfl Try.func8 (by kernel_rfl) rfl #[.slice A0 l0.length c0, .slice A1 l1.length c1, .int .i64 a2, .int .i64 a4] rfl (by (try simp only [List.map_toArray, List.map_cons, List.map_nil]); first | done | rfl | (simp; done)) ?_; have hs0_ := HS.out; (with_reducible refine (interest_Set.slcalls k1 _ _ _ _ _ _ _ _ _ _ _ _ (HF.out.keep HK.out) hs0_ (HR0.out.keep HK.out) HC0.out (HR1.out.keep HK.out) HC1.out Hc18.out).mono ?_); rintro e_ w25 ⟨Az3000052, cz3000052, rfl, hsr_, hkr_⟩; refine ⟨_, rfl, ?_⟩; replace HS := Aside0.mk (hsr_); replace HK := Aside0.mk (HK.out.trans hkr_)) | ((with_reducible refine gate_dst (N := 60) rfl ?_); (try (refine gate_guard (by rfl) ?_; dsimp only)); refine goesL_ (some 60) rfl rfl Try.func10 (by kernel_rfl) rfl #[.slice A0 l0.length c0, .slice A1 l1.length c1, .int .i64 a2, .int .i64 a4] rfl (by (try simp only [List.map_toArray, List.map_cons, List.map_nil]); first | done | rfl | (simp; done)) ?_; (with_reducible refine (barrowref24_Set.calls k1 _ _ _ _ _ _ _ _ _ _ (RO.at_ HR0.out HK.out) HC0.out (RO.at_ HR1.out HK.out) HC1.out Hc19.out).mono ?_); rintro e_ w26 ⟨v3000053_, rfl, ho3000053_, hb_⟩; refine ⟨_, rfl, ?_⟩; have hs_ := (SL.new (HF.out.keep HK.out) HS.out hb_ (row_of_R ho3000053_)).1; obtain ⟨Az3000053, cz3000053, e2_, _, _⟩ := SL.row_reads hs_; subst e2_; replace HS := Aside0.mk (hs_); replace HK := Aside0.mk (HK.out.trans (Keep.below hb_))) | ((with_reducible refine gate_dst (N := 61) rfl ?_); (try (refine gate_guard (by rfl) ?_; dsimp only)); refine goesL_ (some 61) rfl rfl Try.func9 (by kernel_rfl) rfl #[.slice Az3000052 t441.length cz3000052, .slice Az3000053 t442.length cz3000053] rfl (by (try simp only [List.map_toArray, List.map_cons, List.map_nil]); first | done | rfl | (simp; done)) ?_; (with_reducible refine (barrowref02_Same.calls k1 _ _ _ _ _ _ _ _ (SL.row_c (SL.get1 HS.out)).2.2 (SL.row_c (SL.get1 HS.out)).2.1 (SL.row_c HS.out).2.2 (SL.row_c HS.out).2.1 Hc20.out).mono ?_); rintro e_ w27 ⟨rfl, hb_⟩; refine ⟨_, rfl, ?_⟩; replace hb_ := Drawn0.below hb_; replace HS := Aside0.mk (HS.out.below hb_); replace HK := Aside0.mk (HK.out.trans (Keep.below hb_))) | ((with_reducible refine gate_dst (N := 68) rfl ?_); (try (refine gate_guard (by rfl) ?_; dsimp only)); refine goesL_ (some 68) rfl rfl Try.func11 (by kernel_rfl) rfl #[.slice A0 l0.length c0, .int .i64 a2, .int .i64 a3, .int .i64 a4] rfl (by (try simp only [List.map_toArray, List.map_cons, List.map_nil]); first | done | rfl | (simp; done)) ?_; (with_reducible refine (interest_Mutual.calls k1 _ _ _ _ _ _ _ _ (RO.at_ HR0.out HK.out) HC0.out Hc22.out).mono ?_); rintro e_ w28 ⟨rfl, hb_⟩; refine ⟨_, rfl, ?_⟩; replace HS := Aside0.mk (HS.out.below hb_); replace HK := Aside0.mk (HK.out.trans (Keep.below hb_))) | ((with_reducible refine gate_dst (N := 73) rfl ?_); (try (refine gate_guard (by rfl) ?_; dsimp only)); refine goesL_ (some 73) rfl rfl Try.func12 (by kernel_rfl) rfl #[.slice A0 l0.length c0, .int .i64 a2, .int .i64 a3, .int .i64 a4] rfl (by (try simp only [List.map_toArray, List.map_cons, List.map_nil]); first | done | rfl | (simp; done)) ?_; (with_reducible refine (barrowref24_Mutual.calls k1 _ _ _ _ _ _ _ _ (RO.at_ HR0.out HK.out) HC0.out Hc23.out).mono ?_); rintro e_ w29 ⟨rfl, hb_⟩; refine ⟨_, rfl, ?_⟩; replace HS := Aside0.mk (HS.out.below hb_); replace HK := Aside0.mk (HK.out.trans (Keep.below hb_))))
                    go_ret
                    replace HS := Aside0.mk (SL.tail (SL.tail (SL.tail (SL.tail HS.out))))
                    unfold barrowlaw24_InterestSets.Post
                    exact ⟨by first | rfl | (simp; done) | (simp [*]; done) | (simp at c24b0 ⊢; first | exact c24b0 | (simp [c24b0]; done)), HS.out, HK.out⟩
                  · rw [if_neg c24] at H
                    exact absurd H (by simp)
                · replace c21 := Bool.eq_false_iff.mpr c21
                  subst c21
                  rw [if_neg (show ¬ (false = true) by decide)] at H
                  exact absurd H (by simp)
              · replace c17 := Bool.eq_false_iff.mpr c17
                subst c17
                rw [if_neg (show ¬ (false = true) by decide)] at H
                exact absurd H (by simp)
            · replace c16 := Bool.eq_false_iff.mpr c16
              subst c16
              rw [if_neg (show ¬ (false = true) by decide)] at H
              exact absurd H (by simp)
theorem barrowlaw24_InterestSets.calls (k : Nat) (A0 : Option Addr) (c0 : Nat) (l0 : List (S50)) (A1 : Option Addr) (c1 : Nat) (l1 : List (S36)) (a2 : Int) (a3 : Int) (a4 : Int) (r : Bool) (w : World) (hr0 : Kd.C k50 w A0 l0.length l0) (hc0 : l0.length ≤ c0) (hr1 : Kd.C k36 w A1 l1.length l1) (hc1 : l1.length ≤ c1) (h : barrowlaw24_InterestSets.f k l0 l1 a2 a3 a4 = some r) :
    Calls Try.prog 3 #[.slice A0 l0.length c0, .slice A1 l1.length c1, .int .i64 a2, .int .i64 a3, .int .i64 a4] w fun e w' => e = .returned (.bool r) ∧ Below w.heap.size w w' :=
  (barrowlaw24_InterestSets.slcalls k A0 c0 l0 A1 c1 l1 a2 a3 a4 r (news w) [] w (fresh_news w) trivial (RO.top hr0) hc0 (RO.top hr1) hc1 h).mono fun _ _ h => ⟨h.1, h.2.2.to_below⟩

/-- THE ONE PURE STATEMENT of barrowlaw24_InterestSets. -/
noncomputable def barrowlaw24_InterestSets.Pure : Prop := ∀ (l0 : List (S50)) (l1 : List (S36)) (a2 : Int) (a3 : Int) (a4 : Int), (l0.length ≤ maxLen ∧ l0.length * 24 ≤ 140737488351232 ∧ ∀ x446_ ∈ l0, ((Lit.int .i64 x446_.f0).wf = true) ∧ (((Lit.int .i64 x446_.f1.f0).wf = true) ∧ ((Lit.int .i64 x446_.f1.f1).wf = true))) → (l1.length ≤ maxLen ∧ l1.length * 16 ≤ 140737488351232 ∧ ∀ x447_ ∈ l1, ((Lit.int .i64 x447_.f0).wf = true) ∧ ((Lit.int .i64 x447_.f1).wf = true)) → ((Lit.int .i64 a2).wf = true) → ((Lit.int .i64 a3).wf = true) → ((Lit.int .i64 a4).wf = true) → ∃ k, barrowlaw24_InterestSets.f k l0 l1 a2 a3 a4 = some true

end Go.Proofs.Ytgcbmhihiacgnaa.XIN
