-- Written by xprint.py (a program of this session) for this claim
import Derived.Test.YtgcbmhihiacgnaaSL5
import Derived.Test.YtgcbmhihiacgnaaXINx0
import Derived.Test.YtgcbmhihiacgnaaXINx4
import Derived.Test.YtgcbmhihiacgnaaXINx10
import Derived.Test.YtgcbmhihiacgnaaXINx12
namespace Go.Proofs.Ytgcbmhihiacgnaa.XIN
open Go.Proofs.YtgcbmhihiacgnaaV Go.Proofs.YtgcbmhihiacgnaaS
open Go.RowKit Go.Proofs.YtgcbmhihiacgnaaW.PrintWords Go.Proofs.YtgcbmhihiacgnaaW.PrintLast Go.Proofs.YtgcbmhihiacgnaaW.PrintMore
attribute [local go_sem] max2_int min2_int max_two min_two max_three min_three max_four min_four   -- for this text's walks alone
set_option linter.unusedVariables false
set_option linter.unusedSimpArgs false

/-! ### barrowlaw24_InterestTurns: function 4 -/
noncomputable def barrowlaw24_InterestTurns.f (k : Nat) (l0 : List Int) (l1 : List Int) (a2 : Int) (a3 : Int) : Option (Bool) := (barrowlaw24_small.f k).bind fun t478 => (if (l0.length : Int) > 80 then (some t478) else (if (l1.length : Int) > 80 then (some t478) else ((some (([] : List Int) : List Int)).bind fun y479 => (if y479.length + l0.length < 17592186044416 then ((some (y479 ++ l0 : List Int)).bind fun y480 => ((interest_Change.f k y480 l1).bind fun bt483 => ((barrowref24_Change.f k l0 l1).bind fun bt485 => (if t478 = true then ((barrowref02_Same.f k bt483.1 bt485.1).bind fun t487 => (if t487 = true then ((barrowref02_Same.f k bt483.2 bt485.2).bind fun t488 => (if t488 = true then ((interest_Hears.f k y480 a2 a3).bind fun t489 => ((barrowref24_Hears.f k l0 a2 a3).bind fun t490 => (if (t489 == t490) = true then ((barrowref02_Same.f k y480 l0).bind fun t491 => (some t491)) else (none)))) else (none))) else (none))) else (none))))) else (none)))))
theorem barrowlaw24_InterestTurns.mono : ∀ a0 a1 a2 a3 k, LeO (barrowlaw24_InterestTurns.f k a0 a1 a2 a3) (barrowlaw24_InterestTurns.f (k + 1) a0 a1 a2 a3) := by
  intro a0 a1 a2 a3 k
  unfold barrowlaw24_InterestTurns.f
  repeat' first
      | (with_reducible exact barrowlaw24_small.mono _)
      | (with_reducible exact barrowref02_Same.mono _ _ _)
      | (with_reducible exact barrowref24_Change.mono _ _ _)
      | (with_reducible exact barrowref24_Hears.mono _ _ _ _)
      | (with_reducible exact interest_Change.mono _ _ _)
      | (with_reducible exact interest_Hears.mono _ _ _ _)
      | (with_reducible exact LeO.refl _)
      | (with_reducible exact LeO.none _)
      | (with_reducible refine LeO.ite ?_ ?_)
      | (with_reducible refine everyOf_le (fun _ => ?_))
      | (with_reducible refine LeO.bind ?_ (fun _ => ?_))
      | exact barrowlaw24_small.mono _
      | exact barrowref02_Same.mono _ _ _
      | exact barrowref24_Change.mono _ _ _
      | exact barrowref24_Hears.mono _ _ _ _
      | exact interest_Change.mono _ _ _
      | exact interest_Hears.mono _ _ _ _
      | exact LeO.none _
      | refine LeO.ite ?_ ?_
      | refine LeO.bind ?_ (fun _ => ?_)
def barrowlaw24_InterestTurns.Post (r : Bool) (S : Nat → Prop) (L : List Asr) (w : World) (e : Ending) (w' : World) : Prop := e = .returned (.bool r) ∧ SL (L) w' S ∧ Keep S w w'
set_option maxHeartbeats 8000000 in
set_option maxRecDepth 100000 in
theorem barrowlaw24_InterestTurns.slcalls (k : Nat) (A0 : Option Addr) (c0 : Nat) (l0 : List Int) (A1 : Option Addr) (c1 : Nat) (l1 : List Int) (a2 : Int) (a3 : Int) (r : Bool) (S : Nat → Prop) (L : List Asr) (w : World) (hf : Fresh S w) (hs : SL (L) w S) (hr0 : RO S w (fun w_ => Kd.C (Kd.int .i64) w_ A0 l0.length l0)) (hc0 : l0.length ≤ c0) (hr1 : RO S w (fun w_ => Kd.C (Kd.int .i64) w_ A1 l1.length l1)) (hc1 : l1.length ≤ c1) (h : barrowlaw24_InterestTurns.f k l0 l1 a2 a3 = some r) :
    Calls Try.prog 4 #[.slice A0 l0.length c0, .slice A1 l1.length c1, .int .i64 a2, .int .i64 a3] w (barrowlaw24_InterestTurns.Post r S L w) := by
  have HR0 := Aside0.mk hr0
  have HC0 := Aside0.mk hc0
  clear hr0 hc0
  have HR1 := Aside0.mk hr1
  have HC1 := Aside0.mk hc1
  clear hr1 hc1
  have HF := Aside0.mk hf
  have HS := Aside0.mk hs
  have HK := Aside0.mk (Keep.refl S w)
  clear hf hs
  have H : ((barrowlaw24_small.f k).bind fun t478 => (if (l0.length : Int) > 80 then (some t478) else (if (l1.length : Int) > 80 then (some t478) else ((some (([] : List Int) : List Int)).bind fun y479 => (if y479.length + l0.length < 17592186044416 then ((some (y479 ++ l0 : List Int)).bind fun y480 => ((interest_Change.f k y480 l1).bind fun bt483 => ((barrowref24_Change.f k l0 l1).bind fun bt485 => (if t478 = true then ((barrowref02_Same.f k bt483.1 bt485.1).bind fun t487 => (if t487 = true then ((barrowref02_Same.f k bt483.2 bt485.2).bind fun t488 => (if t488 = true then ((interest_Hears.f k y480 a2 a3).bind fun t489 => ((barrowref24_Hears.f k l0 a2 a3).bind fun t490 => (if (t489 == t490) = true then ((barrowref02_Same.f k y480 l0).bind fun t491 => (some t491)) else (none)))) else (none))) else (none))) else (none))))) else (none)))))) = some r := h
  clear h
  replace H := Option.bind_eq_some_iff.1 H
  obtain ⟨t478, Hc10, H⟩ := H
  try dsimp only at H
  have Hc1 := Aside0.mk Hc10
  clear Hc10
  by_cases c2 : (l0.length : Int) > 80
  · rw [if_pos c2] at H
    have c2b0 : decide (80 < (l0.length : Int)) = true := decide_eq_true c2
    have c2b1 : decide (80 < l0.length) = true := decide_eq_true (by omega)
    clear c2
    obtain rfl := Option.some.inj H
    go_enter Try.func4, Try.ntmps4
    go_wp2_with (first | ((with_reducible refine gate_dst (N := 15) rfl ?_); refine goesL_ (some 15) rfl rfl Try.func7 (by kernel_rfl) rfl #[] rfl (by (try simp only [List.map_toArray, List.map_cons, List.map_nil]); first | done | rfl | (simp; done)) ?_; (with_reducible refine (barrowlaw24_small.calls k _ _  Hc1.out).mono ?_); rintro e_ w3 ⟨rfl, hb_⟩; refine ⟨_, rfl, ?_⟩; replace HS := Aside0.mk (HS.out.below hb_); replace HK := Aside0.mk (HK.out.trans (Keep.below hb_))))
    go_ret
    unfold barrowlaw24_InterestTurns.Post
    exact ⟨by first | rfl | (simp; done) | (simp [*]; done) | (simp at c2b0 ⊢; first | exact c2b0 | (simp [c2b0]; done)), HS.out, HK.out⟩
  · rw [if_neg c2] at H
    have c2b0 : decide (80 < (l0.length : Int)) = false := decide_eq_false c2
    have c2b1 : decide (80 < l0.length) = false := decide_eq_false (by omega)
    clear c2
    by_cases c4 : (l1.length : Int) > 80
    · rw [if_pos c4] at H
      have c4b0 : decide (80 < (l1.length : Int)) = true := decide_eq_true c4
      have c4b1 : decide (80 < l1.length) = true := decide_eq_true (by omega)
      clear c4
      obtain rfl := Option.some.inj H
      go_enter Try.func4, Try.ntmps4
      go_wp2_with (first | ((with_reducible refine gate_dst (N := 15) rfl ?_); refine goesL_ (some 15) rfl rfl Try.func7 (by kernel_rfl) rfl #[] rfl (by (try simp only [List.map_toArray, List.map_cons, List.map_nil]); first | done | rfl | (simp; done)) ?_; (with_reducible refine (barrowlaw24_small.calls k _ _  Hc1.out).mono ?_); rintro e_ w5 ⟨rfl, hb_⟩; refine ⟨_, rfl, ?_⟩; replace HS := Aside0.mk (HS.out.below hb_); replace HK := Aside0.mk (HK.out.trans (Keep.below hb_))))
      go_ret
      unfold barrowlaw24_InterestTurns.Post
      exact ⟨by first | rfl | (simp; done) | (simp [*]; done) | (simp at c4b0 ⊢; first | exact c4b0 | (simp [c4b0]; done)), HS.out, HK.out⟩
    · rw [if_neg c4] at H
      have c4b0 : decide (80 < (l1.length : Int)) = false := decide_eq_false c4
      have c4b1 : decide (80 < l1.length) = false := decide_eq_false (by omega)
      clear c4
      replace H := Option.bind_eq_some_iff.1 H
      obtain ⟨y479, hy4790, H⟩ := H
      try dsimp only at H
      have hy479 := Option.some.inj hy4790
      clear hy4790
      have Ny479 := Aside0.mk hy479
      clear hy479
      by_cases c6 : y479.length + l0.length < 17592186044416
      · rw [if_pos c6] at H
        have LMc6 := Aside0.mk c6
        clear c6
        replace H := Option.bind_eq_some_iff.1 H
        obtain ⟨y480, hy4800, H⟩ := H
        try dsimp only at H
        have hy480 := Option.some.inj hy4800
        clear hy4800
        have Ny480 := Aside0.mk hy480
        clear hy480
        replace H := Option.bind_eq_some_iff.1 H
        obtain ⟨⟨t483, t484⟩, Hc70, H⟩ := H
        try dsimp only at H
        have Hc7 := Aside0.mk Hc70
        clear Hc70
        replace H := Option.bind_eq_some_iff.1 H
        obtain ⟨⟨t485, t486⟩, Hc80, H⟩ := H
        try dsimp only at H
        have Hc8 := Aside0.mk Hc80
        clear Hc80
        by_cases c9 : t478 = true
        · subst c9
          rw [if_pos rfl] at H
          replace H := Option.bind_eq_some_iff.1 H
          obtain ⟨t487, Hc100, H⟩ := H
          try dsimp only at H
          have Hc10 := Aside0.mk Hc100
          clear Hc100
          by_cases c11 : t487 = true
          · subst c11
            rw [if_pos rfl] at H
            replace H := Option.bind_eq_some_iff.1 H
            obtain ⟨t488, Hc120, H⟩ := H
            try dsimp only at H
            have Hc12 := Aside0.mk Hc120
            clear Hc120
            by_cases c13 : t488 = true
            · subst c13
              rw [if_pos rfl] at H
              replace H := Option.bind_eq_some_iff.1 H
              obtain ⟨t489, Hc140, H⟩ := H
              try dsimp only at H
              have Hc14 := Aside0.mk Hc140
              clear Hc140
              replace H := Option.bind_eq_some_iff.1 H
              obtain ⟨t490, Hc150, H⟩ := H
              try dsimp only at H
              have Hc15 := Aside0.mk Hc150
              clear Hc150
              by_cases c16 : (t489 == t490) = true
              · rw [if_pos c16] at H
                have c16b0 : (t489 == t490) = true := c16
                (try (have c16b1 : decide (t489 = t490) = true := by simpa using c16))
                (try (have c16b2 : (t489 == t490) = true := by simpa using c16))
                clear c16
                replace H := Option.bind_eq_some_iff.1 H
                obtain ⟨t491, Hc170, H⟩ := H
                try dsimp only at H
                have Hc17 := Aside0.mk Hc170
                clear Hc170
                obtain rfl := Option.some.inj H
                go_enter Try.func4, Try.ntmps4
                go_wp2_with (first | ((with_reducible refine gate_dst (N := 15) rfl ?_); refine goesL_ (some 15) rfl rfl Try.func7 (by kernel_rfl) rfl #[] rfl (by (try simp only [List.map_toArray, List.map_cons, List.map_nil]); first | done | rfl | (simp; done)) ?_; (with_reducible refine (barrowlaw24_small.calls k _ _  Hc1.out).mono ?_); rintro e_ w18 ⟨rfl, hb_⟩; refine ⟨_, rfl, ?_⟩; replace HS := Aside0.mk (HS.out.below hb_); replace HK := Aside0.mk (HK.out.trans (Keep.below hb_))) | ((with_reducible refine gate_dst (N := 25) rfl ?_); refine wpList_plain rfl (fun K_ hK_ => ?_); refine op_row (S := S) (enc := Value.int .i64) (h1 := fun _ => rfl) 3 y479 #[] 0 (by rw [← Ny479.out]; rfl) (by rw [← Ny479.out]; rfl) (by decide) (HF.out.keep HK.out) HS.out (by first | (go_simp; done) | (go_simp; rfl)) ?_; intro Az3000058 cz3000058 w19 hs_ hk_; refine hK_ _ _ ?_; clear hK_ K_; replace HS := Aside0.mk ((show SL (row (Kd.int .i64) 3 (.slice Az3000058 0 cz3000058) y479 :: _) _ _ from hs_)); replace HK := Aside0.mk (HK.out.trans hk_)) | ((with_reducible refine gate_dst (N := 27) rfl ?_); refine wpList_plain rfl (fun K_ hK_ => ?_); refine op_append (S := S) (enc := Value.int .i64) (h1 := fun _ => rfl) 0 (.tmp 25) (.tmp 26) 25 3 (.int .i64 0) 8 rfl Try.underlying25 info3 rfl (by decide) (.slice Az3000058 0 cz3000058) rfl rfl (HF.out.keep HK.out) HS.out (RO.at_ HR0.out HK.out) (by have := LMc6.out; omega) y480 Ny480.out ?_; intro A481 c482 w20 hs_ hk_; refine hK_ _ _ ?_; clear hK_ K_; replace HS := Aside0.mk ((show SL (row (Kd.int .i64) 3 (.slice A481 y480.length c482) y480 :: _) _ _ from hs_)); replace HK := Aside0.mk (HK.out.trans hk_)) | ((with_reducible refine gate_dst (N := 31) rfl ?_); refine goesL_ (some 31) rfl rfl Try.func13 (by kernel_rfl) rfl #[.slice A481 y480.length c482, .slice A1 l1.length c1] rfl (by (try simp only [List.map_toArray, List.map_cons, List.map_nil]); first | done | rfl | (simp; done)) ?_; have hs0_ := HS.out; obtain ⟨U1_, hfU1_, hsub1_, hs1_, hro1_, hback1_⟩ := SL.lend (HF.out.keep HK.out) hs0_ (p := fun w_ => Kd.C (Kd.int .i64) w_ A481 y480.length y480) (fun w_ T_ h_ => (Qs_c h_).2.2); (with_reducible refine (interest_Change.slcalls k _ _ _ _ _ _ _ _ _ _ _ hfU1_ hs1_ hro1_ (SL.row_c HS.out).2.1 (RO.sub (HR1.out.keep HK.out) (fun k_ h_ => hsub1_ k_ h_)) HC1.out Hc7.out).mono ?_); rintro e_ w21 ⟨Az3000059, cz3000059, Az3000060, cz3000060, rfl, hsr_, hkr_⟩; refine ⟨_, rfl, ?_⟩; replace HS := Aside0.mk ((hback1_ _ _ hkr_ hsr_)); replace HK := Aside0.mk (HK.out.trans (Keep.sub hkr_ (fun k_ h_ => hsub1_ k_ h_)))) | ((with_reducible refine gate_dst (N := 37) rfl ?_); refine goesL_ (some 37) rfl rfl Try.func14 (by kernel_rfl) rfl #[.slice A0 l0.length c0, .slice A1 l1.length c1] rfl (by (try simp only [List.map_toArray, List.map_cons, List.map_nil]); first | done | rfl | (simp; done)) ?_; have hs0_ := HS.out; (with_reducible refine (barrowref24_Change.slcalls k _ _ _ _ _ _ _ _ _ _ _ (HF.out.keep HK.out) hs0_ (HR0.out.keep HK.out) HC0.out (HR1.out.keep HK.out) HC1.out Hc8.out).mono ?_); rintro e_ w22 ⟨Az3000061, cz3000061, Az3000062, cz3000062, rfl, hsr_, hkr_⟩; refine ⟨_, rfl, ?_⟩; replace HS := Aside0.mk (hsr_); replace HK := Aside0.mk (HK.out.trans hkr_)) | ((with_reducible refine gate_dst (N := 44) rfl ?_); (try (refine gate_guard (by rfl) ?_; dsimp only)); refine goesL_ (some 44) rfl rfl Try.func9 (by kernel_rfl) rfl #[.slice Az3000059 t483.length cz3000059, .slice Az3000061 t485.length cz3000061] rfl (by (try simp only [List.map_toArray, List.map_cons, List.map_nil]); first | done | rfl | (simp; done)) ?_; (with_reducible refine (barrowref02_Same.calls k _ _ _ _ _ _ _ _ (SL.row_c (SL.get3 HS.out)).2.2 (SL.row_c (SL.get3 HS.out)).2.1 (SL.row_c HS.out).2.2 (SL.row_c HS.out).2.1 Hc10.out).mono ?_); rintro e_ w23 ⟨rfl, hb_⟩; refine ⟨_, rfl, ?_⟩; replace hb_ := Drawn0.below hb_; replace HS := Aside0.mk (HS.out.below hb_); replace HK := Aside0.mk (HK.out.trans (Keep.below hb_))) | ((with_reducible refine gate_dst (N := 49) rfl ?_); (try (refine gate_guard (by rfl) ?_; dsimp only)); refine goesL_ (some 49) rfl rfl Try.func9 (by kernel_rfl) rfl #[.slice Az3000060 t484.length cz3000060, .slice Az3000062 t486.length cz3000062] rfl (by (try simp only [List.map_toArray, List.map_cons, List.map_nil]); first | done | rfl | (simp; done)) ?_; (with_reducible refine (barrowref02_Same.calls k _ _ _ _ _ _ _ _ (SL.row_c (SL.get4 HS.out)).2.2 (SL.row_c (SL.get4 HS.out)).2.1 (SL.row_c (SL.get1 HS.out)).2.2 (SL.row_c (SL.get1 HS.out)).2.1 Hc12.out).mono ?_); rintro e_ w24 ⟨rfl, hb_⟩; refine ⟨_, rfl, ?_⟩; replace hb_ := Drawn0.below hb_; replace HS := Aside0.mk (HS.out.below hb_); replace HK := Aside0.mk (HK.out.trans (Keep.below hb_))) | ((with_reducible refine gate_dst (N := 55) rfl ?_); (try (refine gate_guard (by rfl) ?_; dsimp only)); refine goesL_ (some 55) rfl rfl Try.func15 (by kernel_rfl) rfl #[.slice A481 y480.length c482, .int .i64 a2, .int .i64 a3] rfl (by (try simp only [List.map_toArray, List.map_cons, List.map_nil]); first | done | rfl | (simp; done)) ?_; (with_reducible refine (interest_Hears.calls k _ _ _ _ _ _ _ (SL.row_c (SL.get2 HS.out)).2.2 (SL.row_c (SL.get2 HS.out)).2.1 Hc14.out).mono ?_); rintro e_ w25 ⟨rfl, hb_⟩; refine ⟨_, rfl, ?_⟩; replace hb_ := Drawn0.below hb_; replace HS := Aside0.mk (HS.out.below hb_); replace HK := Aside0.mk (HK.out.trans (Keep.below hb_))) | ((with_reducible refine gate_dst (N := 59) rfl ?_); (try (refine gate_guard (by rfl) ?_; dsimp only)); refine goesL_ (some 59) rfl rfl Try.func16 (by kernel_rfl) rfl #[.slice A0 l0.length c0, .int .i64 a2, .int .i64 a3] rfl (by (try simp only [List.map_toArray, List.map_cons, List.map_nil]); first | done | rfl | (simp; done)) ?_; (with_reducible refine (barrowref24_Hears.calls k _ _ _ _ _ _ _ (RO.at_ HR0.out HK.out) HC0.out Hc15.out).mono ?_); rintro e_ w26 ⟨rfl, hb_⟩; refine ⟨_, rfl, ?_⟩; replace hb_ := Drawn0.below hb_; replace HS := Aside0.mk (HS.out.below hb_); replace HK := Aside0.mk (HK.out.trans (Keep.below hb_))) | ((with_reducible refine gate_dst (N := 65) rfl ?_); (try (refine gate_guard (by rfl) ?_; dsimp only)); refine goesL_ (some 65) rfl rfl Try.func9 (by kernel_rfl) rfl #[.slice A481 y480.length c482, .slice A0 l0.length c0] rfl (by (try simp only [List.map_toArray, List.map_cons, List.map_nil]); first | done | rfl | (simp; done)) ?_; (with_reducible refine (barrowref02_Same.calls k _ _ _ _ _ _ _ _ (SL.row_c (SL.get2 HS.out)).2.2 (SL.row_c (SL.get2 HS.out)).2.1 (RO.at_ HR0.out HK.out) HC0.out Hc17.out).mono ?_); rintro e_ w27 ⟨rfl, hb_⟩; refine ⟨_, rfl, ?_⟩; replace hb_ := Drawn0.below hb_; replace HS := Aside0.mk (HS.out.below hb_); replace HK := Aside0.mk (HK.out.trans (Keep.below hb_))))
                go_ret
                replace HS := Aside0.mk (SL.tail (SL.tail (SL.tail (SL.tail (SL.tail HS.out)))))
                unfold barrowlaw24_InterestTurns.Post
                exact ⟨by first | rfl | (simp; done) | (simp [*]; done) | (simp at c16b0 ⊢; first | exact c16b0 | (simp [c16b0]; done)), HS.out, HK.out⟩
              · rw [if_neg c16] at H
                exact absurd H (by simp)
            · replace c13 := Bool.eq_false_iff.mpr c13
              subst c13
              rw [if_neg (show ¬ (false = true) by decide)] at H
              exact absurd H (by simp)
          · replace c11 := Bool.eq_false_iff.mpr c11
            subst c11
            rw [if_neg (show ¬ (false = true) by decide)] at H
            exact absurd H (by simp)
        · replace c9 := Bool.eq_false_iff.mpr c9
          subst c9
          rw [if_neg (show ¬ (false = true) by decide)] at H
          exact absurd H (by simp)
      · rw [if_neg c6] at H
        exact absurd H (by simp)
theorem barrowlaw24_InterestTurns.calls (k : Nat) (A0 : Option Addr) (c0 : Nat) (l0 : List Int) (A1 : Option Addr) (c1 : Nat) (l1 : List Int) (a2 : Int) (a3 : Int) (r : Bool) (w : World) (hr0 : Kd.C (Kd.int .i64) w A0 l0.length l0) (hc0 : l0.length ≤ c0) (hr1 : Kd.C (Kd.int .i64) w A1 l1.length l1) (hc1 : l1.length ≤ c1) (h : barrowlaw24_InterestTurns.f k l0 l1 a2 a3 = some r) :
    Calls Try.prog 4 #[.slice A0 l0.length c0, .slice A1 l1.length c1, .int .i64 a2, .int .i64 a3] w fun e w' => e = .returned (.bool r) ∧ Below w.heap.size w w' :=
  (barrowlaw24_InterestTurns.slcalls k A0 c0 l0 A1 c1 l1 a2 a3 r (news w) [] w (fresh_news w) trivial (RO.top hr0) hc0 (RO.top hr1) hc1 h).mono fun _ _ h => ⟨h.1, h.2.2.to_below⟩

/-- THE ONE PURE STATEMENT of barrowlaw24_InterestTurns. -/
noncomputable def barrowlaw24_InterestTurns.Pure : Prop := ∀ (l0 : List Int) (l1 : List Int) (a2 : Int) (a3 : Int), (l0.length ≤ maxLen ∧ l0.length * 8 ≤ 140737488351232 ∧ ∀ x492_ ∈ l0, (Lit.int .i64 x492_).wf = true) → (l1.length ≤ maxLen ∧ l1.length * 8 ≤ 140737488351232 ∧ ∀ x493_ ∈ l1, (Lit.int .i64 x493_).wf = true) → ((Lit.int .i64 a2).wf = true) → ((Lit.int .i64 a3).wf = true) → ∃ k, barrowlaw24_InterestTurns.f k l0 l1 a2 a3 = some true

end Go.Proofs.Ytgcbmhihiacgnaa.XIN
