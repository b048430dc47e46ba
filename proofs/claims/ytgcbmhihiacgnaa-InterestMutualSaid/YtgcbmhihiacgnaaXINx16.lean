-- Written by xprint.py (a program of this session) for this claim
import Derived.Test.YtgcbmhihiacgnaaSL5
import Derived.Test.YtgcbmhihiacgnaaXINx0
import Derived.Test.YtgcbmhihiacgnaaXINx3
import Derived.Test.YtgcbmhihiacgnaaXINx4
import Derived.Test.YtgcbmhihiacgnaaXINx12
import Derived.Test.YtgcbmhihiacgnaaXINx15
namespace Go.Proofs.Ytgcbmhihiacgnaa.XIN
open Go.Proofs.YtgcbmhihiacgnaaV Go.Proofs.YtgcbmhihiacgnaaS
open Go.RowKit Go.Proofs.YtgcbmhihiacgnaaW.PrintWords Go.Proofs.YtgcbmhihiacgnaaW.PrintLast Go.Proofs.YtgcbmhihiacgnaaW.PrintMore
attribute [local go_sem] max2_int min2_int max_two min_two max_three min_three max_four min_four   -- for this text's walks alone
set_option linter.unusedVariables false
set_option linter.unusedSimpArgs false

/-! ### barrowlaw24_InterestMutual: function 5 -/
noncomputable def barrowlaw24_InterestMutual.f (k : Nat) (l0 : List (S50)) (l1 : List (S36)) (a2 : Int) (a3 : Int) (a4 : Int) : Option (Bool) := (barrowlaw24_small.f k).bind fun t496 => (if (l0.length : Int) > 80 then (some t496) else (if (l1.length : Int) > 80 then (some t496) else ((interest_Set.f k l0 l1 a2 a4).bind fun t497 => ((interest_Set.f k l0 l1 a3 a4).bind fun t498 => ((interest_Set.f k l0 ([] : List (S36)) a2 a4).bind fun t499 => ((interest_Mutual.f k l0 a2 a3 a4).bind fun t500 => ((interest_Mutual.f k l0 a3 a2 a4).bind fun t501 => (if (t500 != t501) = true then (none) else (if t500 = true then ((barrowlaw24_has.f k t497 a3).bind fun t502 => (if t502 = true then ((barrowlaw24_has.f k t498 a2).bind fun t503 => (if t503 = true then (if a4 < 0 then (some t496) else (if a4 > 1048576 then (some t496) else ((interest_Set.f k l0 l1 a2 (wrap64 (a4 + 1))).bind fun t504 => ((interest_Change.f k t497 t504).bind fun bt505 => ((interest_Change.f k t499 t497).bind fun bt507 => (if t496 = true then (if (bt505.1.length : Int) = 0 then (if (bt507.1.length : Int) = 0 then ((barrowlaw24_has.f k t497 a2).bind fun t509 => (if (t509 == (decide ((t497.length : Int) > 0))) = true then (some true) else (none))) else (none)) else (none)) else (none))))))) else (none))) else (none))) else ((barrowlaw24_has.f k t499 a3).bind fun t510 => (if t510 = true then (if a2 = a3 then (if a4 < 0 then (some t496) else (if a4 > 1048576 then (some t496) else ((interest_Set.f k l0 l1 a2 (wrap64 (a4 + 1))).bind fun t511 => ((interest_Change.f k t497 t511).bind fun bt512 => ((interest_Change.f k t499 t497).bind fun bt514 => (if t496 = true then (if (bt512.1.length : Int) = 0 then (if (bt514.1.length : Int) = 0 then ((barrowlaw24_has.f k t497 a2).bind fun t516 => (if (t516 == (decide ((t497.length : Int) > 0))) = true then (some true) else (none))) else (none)) else (none)) else (none))))))) else (none)) else (if a4 < 0 then (some t496) else (if a4 > 1048576 then (some t496) else ((interest_Set.f k l0 l1 a2 (wrap64 (a4 + 1))).bind fun t517 => ((interest_Change.f k t497 t517).bind fun bt518 => ((interest_Change.f k t499 t497).bind fun bt520 => (if t496 = true then (if (bt518.1.length : Int) = 0 then (if (bt520.1.length : Int) = 0 then ((barrowlaw24_has.f k t497 a2).bind fun t522 => (if (t522 == (decide ((t497.length : Int) > 0))) = true then (some true) else (none))) else (none)) else (none)) else (none))))))))))))))))))
theorem barrowlaw24_InterestMutual.mono : ∀ a0 a1 a2 a3 a4 k, LeO (barrowlaw24_InterestMutual.f k a0 a1 a2 a3 a4) (barrowlaw24_InterestMutual.f (k + 1) a0 a1 a2 a3 a4) := by
  intro a0 a1 a2 a3 a4 k
  unfold barrowlaw24_InterestMutual.f
  repeat' first
      | (with_reducible exact barrowlaw24_has.mono _ _ _)
      | (with_reducible exact barrowlaw24_small.mono _)
      | (with_reducible exact interest_Change.mono _ _ _)
      | (with_reducible exact interest_Mutual.mono _ _ _ _ _)
      | (with_reducible exact interest_Set.mono _ _ _ _ _)
      | (with_reducible exact LeO.refl _)
      | (with_reducible exact LeO.none _)
      | (with_reducible refine LeO.ite ?_ ?_)
      | (with_reducible refine everyOf_le (fun _ => ?_))
      | (with_reducible refine LeO.bind ?_ (fun _ => ?_))
      | exact barrowlaw24_has.mono _ _ _
      | exact barrowlaw24_small.mono _
      | exact interest_Change.mono _ _ _
      | exact interest_Mutual.mono _ _ _ _ _
      | exact interest_Set.mono _ _ _ _ _
      | exact LeO.none _
      | refine LeO.ite ?_ ?_
      | refine LeO.bind ?_ (fun _ => ?_)
def barrowlaw24_InterestMutual.Post (r : Bool) (S : Nat → Prop) (L : List Asr) (w : World) (e : Ending) (w' : World) : Prop := e = .returned (.bool r) ∧ SL (L) w' S ∧ Keep S w w'
set_option maxHeartbeats 8000000 in
set_option maxRecDepth 100000 in
theorem barrowlaw24_InterestMutual.slcalls (k : Nat) (A0 : Option Addr) (c0 : Nat) (l0 : List (S50)) (A1 : Option Addr) (c1 : Nat) (l1 : List (S36)) (a2 : Int) (a3 : Int) (a4 : Int) (r : Bool) (S : Nat → Prop) (L : List Asr) (w : World) (hf : Fresh S w) (hs : SL (L) w S) (hr0 : RO S w (fun w_ => Kd.C k50 w_ A0 l0.length l0)) (hc0 : l0.length ≤ c0) (hr1 : RO S w (fun w_ => Kd.C k36 w_ A1 l1.length l1)) (hc1 : l1.length ≤ c1) (h : barrowlaw24_InterestMutual.f k l0 l1 a2 a3 a4 = some r) :
    Calls Try.prog 5 #[.slice A0 l0.length c0, .slice A1 l1.length c1, .int .i64 a2, .int .i64 a3, .int .i64 a4] w (barrowlaw24_InterestMutual.Post r S L w) := by
  have HR0 := Aside0.mk hr0
  have HC0 := Aside0.mk hc0
  clear hr0 hc0
  have HR1 := Aside0.mk hr1
  have HC1 := Aside0.mk hc1
  clear hr1 hc1
  have HF := Aside0.mk hf
  have HS := Aside0.mk hs
  have HK := Aside0.mk (Keep.refl S w)
  clear hf hs
  have H : ((barrowlaw24_small.f k).bind fun t496 => (if (l0.length : Int) > 80 then (some t496) else (if (l1.length : Int) > 80 then (some t496) else ((interest_Set.f k l0 l1 a2 a4).bind fun t497 => ((interest_Set.f k l0 l1 a3 a4).bind fun t498 => ((interest_Set.f k l0 ([] : List (S36)) a2 a4).bind fun t499 => ((interest_Mutual.f k l0 a2 a3 a4).bind fun t500 => ((interest_Mutual.f k l0 a3 a2 a4).bind fun t501 => (if (t500 != t501) = true then (none) else (if t500 = true then ((barrowlaw24_has.f k t497 a3).bind fun t502 => (if t502 = true then ((barrowlaw24_has.f k t498 a2).bind fun t503 => (if t503 = true then (if a4 < 0 then (some t496) else (if a4 > 1048576 then (some t496) else ((interest_Set.f k l0 l1 a2 (wrap64 (a4 + 1))).bind fun t504 => ((interest_Change.f k t497 t504).bind fun bt505 => ((interest_Change.f k t499 t497).bind fun bt507 => (if t496 = true then (if (bt505.1.length : Int) = 0 then (if (bt507.1.length : Int) = 0 then ((barrowlaw24_has.f k t497 a2).bind fun t509 => (if (t509 == (decide ((t497.length : Int) > 0))) = true then (some true) else (none))) else (none)) else (none)) else (none))))))) else (none))) else (none))) else ((barrowlaw24_has.f k t499 a3).bind fun t510 => (if t510 = true then (if a2 = a3 then (if a4 < 0 then (some t496) else (if a4 > 1048576 then (some t496) else ((interest_Set.f k l0 l1 a2 (wrap64 (a4 + 1))).bind fun t511 => ((interest_Change.f k t497 t511).bind fun bt512 => ((interest_Change.f k t499 t497).bind fun bt514 => (if t496 = true then (if (bt512.1.length : Int) = 0 then (if (bt514.1.length : Int) = 0 then ((barrowlaw24_has.f k t497 a2).bind fun t516 => (if (t516 == (decide ((t497.length : Int) > 0))) = true then (some true) else (none))) else (none)) else (none)) else (none))))))) else (none)) else (if a4 < 0 then (some t496) else (if a4 > 1048576 then (some t496) else ((interest_Set.f k l0 l1 a2 (wrap64 (a4 + 1))).bind fun t517 => ((interest_Change.f k t497 t517).bind fun bt518 => ((interest_Change.f k t499 t497).bind fun bt520 => (if t496 = true then (if (bt518.1.length : Int) = 0 then (if (bt520.1.length : Int) = 0 then ((barrowlaw24_has.f k t497 a2).bind fun t522 => (if (t522 == (decide ((t497.length : Int) > 0))) = true then (some true) else (none))) else (none)) else (none)) else (none))))))))))))))))))) = some r := h
  clear h
  replace H := Option.bind_eq_some_iff.1 H
  obtain ⟨t496, Hc10, H⟩ := H
  try dsimp only at H
  have Hc1 := Aside0.mk Hc10
  clear Hc10
  by_cases c2 : (l0.length : Int) > 80
  · rw [if_pos c2] at H
    have c2b0 : decide (80 < (l0.length : Int)) = true := decide_eq_true c2
    have c2b1 : decide (80 < l0.length) = true := decide_eq_true (by omega)
    clear c2
    obtain rfl := Option.some.inj H
    go_enter Try.func5, Try.ntmps5
    go_wp2_with (first | ((with_reducible refine gate_dst (N := 21) rfl ?_); refine goesL_ (some 21) rfl rfl Try.func7 (by kernel_rfl) rfl #[] rfl (by (try simp only [List.map_toArray, List.map_cons, List.map_nil]); first | done | rfl | (simp; done)) ?_; (with_reducible refine (barrowlaw24_small.calls k _ _  Hc1.out).mono ?_); rintro e_ w3 ⟨rfl, hb_⟩; refine ⟨_, rfl, ?_⟩; replace HS := Aside0.mk (HS.out.below hb_); replace HK := Aside0.mk (HK.out.trans (Keep.below hb_))))
    go_ret
    unfold barrowlaw24_InterestMutual.Post
    exact ⟨by first | rfl | (simp; done) | (simp [*]; done) | (simp at c2b0 ⊢; first | exact c2b0 | (simp [c2b0]; done)), HS.out, HK.out⟩
  · rw [if_neg c2] at H
    have c2b0 : decide (80 < (l0.length : Int)) = false := decide_eq_false c2
    have c2b1 : decide (80 < l0.length) = false := decide_eq_false (by omega)
    clear c2
    by_cases c4 : (l1.length : Int) > 80
    · rw [if_pos c4] at H
      have c4b0 : decide (80 < (l1.length : Int)) = true := decide_eq_true c4
      have c4b1 : decide (80 < l1.length) = true := decide_eq_true (by omega)
      clear c4
      obtain rfl := Option.some.inj H
      go_enter Try.func5, Try.ntmps5
      go_wp2_with (first | ((with_reducible refine gate_dst (N := 21) rfl ?_); refine goesL_ (some 21) rfl rfl Try.func7 (by kernel_rfl) rfl #[] rfl (by (try simp only [List.map_toArray, List.map_cons, List.map_nil]); first | done | rfl | (simp; done)) ?_; (with_reducible refine (barrowlaw24_small.calls k _ _  Hc1.out).mono ?_); rintro e_ w5 ⟨rfl, hb_⟩; refine ⟨_, rfl, ?_⟩; replace HS := Aside0.mk (HS.out.below hb_); replace HK := Aside0.mk (HK.out.trans (Keep.below hb_))))
      go_ret
      unfold barrowlaw24_InterestMutual.Post
      exact ⟨by first | rfl | (simp; done) | (simp [*]; done) | (simp at c4b0 ⊢; first | exact c4b0 | (simp [c4b0]; done)), HS.out, HK.out⟩
    · rw [if_neg c4] at H
      have c4b0 : decide (80 < (l1.length : Int)) = false := decide_eq_false c4
      have c4b1 : decide (80 < l1.length) = false := decide_eq_false (by omega)
      clear c4
      replace H := Option.bind_eq_some_iff.1 H
      obtain ⟨t497, Hc60, H⟩ := H
      try dsimp only at H
      have Hc6 := Aside0.mk Hc60
      clear Hc60
      replace H := Option.bind_eq_some_iff.1 H
      obtain ⟨t498, Hc70, H⟩ := H
      try dsimp only at H
      have Hc7 := Aside0.mk Hc70
      clear Hc70
      replace H := Option.bind_eq_some_iff.1 H
      obtain ⟨t499, Hc80, H⟩ := H
      try dsimp only at H
      have Hc8 := Aside0.mk Hc80
      clear Hc80
      replace H := Option.bind_eq_some_iff.1 H
      obtain ⟨t500, Hc90, H⟩ := H
      try dsimp only at H
      have Hc9 := Aside0.mk Hc90
      clear Hc90
      replace H := Option.bind_eq_some_iff.1 H
      obtain ⟨t501, Hc100, H⟩ := H
      try dsimp only at H
      have Hc10 := Aside0.mk Hc100
      clear Hc100
      by_cases c11 : (t500 != t501) = true
      · rw [if_pos c11] at H
        exact absurd H (by simp)
      · rw [if_neg c11] at H
        have c11b0 : (t500 != t501) = false := by simpa using c11
        (try (have c11b1 : decide (t500 = t501) = true := by simpa using c11))
        (try (have c11b2 : (t500 == t501) = true := by simpa using c11))
        clear c11
        have H' := Aside0.mk H
        clear H
        go_enter Try.func5, Try.ntmps5
        go_wp2_with (first | ((with_reducible refine gate_dst (N := 21) rfl ?_); refine goesL_ (some 21) rfl rfl Try.func7 (by kernel_rfl) rfl #[] rfl (by (try simp only [List.map_toArray, List.map_cons, List.map_nil]); first | done | rfl | (simp; done)) ?_; (with_reducible refine (barrowlaw24_small.calls k _ _  Hc1.out).mono ?_); rintro e_ w12 ⟨rfl, hb_⟩; refine ⟨_, rfl, ?_⟩; replace HS := Aside0.mk (HS.out.below hb_); replace HK := Aside0.mk (HK.out.trans (Keep.below hb_))) | ((with_reducible refine gate_dst (N := 35) rfl ?_); refine goesL_ (some 35) rfl rfl Try.func8 (by kernel_rfl) rfl #[.slice A0 l0.length c0, .slice A1 l1.length c1, .int .i64 a2, .int .i64 a4] rfl (by (try simp only [List.map_toArray, List.map_cons, List.map_nil]); first | done | rfl | (simp; done)) ?_; have hs0_ := HS.out; (with_reducible refine (interest_Set.slcalls k _ _ _ _ _ _ _ _ _ _ _ _ (HF.out.keep HK.out) hs0_ (HR0.out.keep HK.out) HC0.out (HR1.out.keep HK.out) HC1.out Hc6.out).mono ?_); rintro e_ w13 ⟨Az3000063, cz3000063, rfl, hsr_, hkr_⟩; refine ⟨_, rfl, ?_⟩; replace HS := Aside0.mk (hsr_); replace HK := Aside0.mk (HK.out.trans hkr_)) | ((with_reducible refine gate_dst (N := 40) rfl ?_); refine goesL_ (some 40) rfl rfl Try.func8 (by kernel_rfl) rfl #[.slice A0 l0.length c0, .slice A1 l1.length c1, .int .i64 a3, .int .i64 a4] rfl (by (try simp only [List.map_toArray, List.map_cons, List.map_nil]); first | done | rfl | (simp; done)) ?_; have hs0_ := HS.out; (with_reducible refine (interest_Set.slcalls k _ _ _ _ _ _ _ _ _ _ _ _ (HF.out.keep HK.out) hs0_ (HR0.out.keep HK.out) HC0.out (HR1.out.keep HK.out) HC1.out Hc7.out).mono ?_); rintro e_ w14 ⟨Az3000064, cz3000064, rfl, hsr_, hkr_⟩; refine ⟨_, rfl, ?_⟩; replace HS := Aside0.mk (hsr_); replace HK := Aside0.mk (HK.out.trans hkr_)) | ((with_reducible refine gate_dst (N := 44) rfl ?_); refine goesL_ (some 44) rfl rfl Try.func8 (by kernel_rfl) rfl #[.slice A0 l0.length c0, .slice none 0 0, .int .i64 a2, .int .i64 a4] rfl (by (try simp only [List.map_toArray, List.map_cons, List.map_nil]); first | done | rfl | (simp; done)) ?_; have hs0_ := HS.out; (refine (interest_Set.slcalls k _ _ _ _ _ _ _ _ _ _ _ _ (HF.out.keep HK.out) hs0_ (HR0.out.keep HK.out) HC0.out (fun w_ _ => Kd.C_nil _ _) (Nat.le_refl _) Hc8.out).mono ?_); rintro e_ w15 ⟨Az3000065, cz3000065, rfl, hsr_, hkr_⟩; refine ⟨_, rfl, ?_⟩; replace HS := Aside0.mk (hsr_); replace HK := Aside0.mk (HK.out.trans hkr_)) | ((with_reducible refine gate_dst (N := 49) rfl ?_); refine goesL_ (some 49) rfl rfl Try.func11 (by kernel_rfl) rfl #[.slice A0 l0.length c0, .int .i64 a2, .int .i64 a3, .int .i64 a4] rfl (by (try simp only [List.map_toArray, List.map_cons, List.map_nil]); first | done | rfl | (simp; done)) ?_; (with_reducible refine (interest_Mutual.calls k _ _ _ _ _ _ _ _ (RO.at_ HR0.out HK.out) HC0.out Hc9.out).mono ?_); rintro e_ w16 ⟨rfl, hb_⟩; refine ⟨_, rfl, ?_⟩; replace HS := Aside0.mk (HS.out.below hb_); replace HK := Aside0.mk (HK.out.trans (Keep.below hb_))) | ((with_reducible refine gate_dst (N := 55) rfl ?_); refine goesL_ (some 55) rfl rfl Try.func11 (by kernel_rfl) rfl #[.slice A0 l0.length c0, .int .i64 a3, .int .i64 a2, .int .i64 a4] rfl (by (try simp only [List.map_toArray, List.map_cons, List.map_nil]); first | done | rfl | (simp; done)) ?_; (with_reducible refine (interest_Mutual.calls k _ _ _ _ _ _ _ _ (RO.at_ HR0.out HK.out) HC0.out Hc10.out).mono ?_); rintro e_ w17 ⟨rfl, hb_⟩; refine ⟨_, rfl, ?_⟩; replace HS := Aside0.mk (HS.out.below hb_); replace HK := Aside0.mk (HK.out.trans (Keep.below hb_)); refine stop_ ?_; intro G_ hG_))
        have H := H'.out
        clear H'
        by_cases c18 : t500 = true
        · subst c18
          rw [if_pos rfl] at H
          replace H := Option.bind_eq_some_iff.1 H
          obtain ⟨t502, Hc190, H⟩ := H
          try dsimp only at H
          have Hc19 := Aside0.mk Hc190
          clear Hc190
          by_cases c20 : t502 = true
          · subst c20
            rw [if_pos rfl] at H
            replace H := Option.bind_eq_some_iff.1 H
            obtain ⟨t503, Hc210, H⟩ := H
            try dsimp only at H
            have Hc21 := Aside0.mk Hc210
            clear Hc210
            by_cases c22 : t503 = true
            · subst c22
              rw [if_pos rfl] at H
              by_cases c23 : a4 < 0
              · rw [if_pos c23] at H
                have c23b0 : decide (a4 < 0) = true := decide_eq_true c23
                clear c23
                obtain rfl := Option.some.inj H
                refine hG_.out ?_
                try simp only [c23b0]
                go_wp2_with (first | ((with_reducible refine gate_dst (N := 62) rfl ?_); (try (refine gate_guard (by rfl) ?_; dsimp only)); refine goesL_ (some 62) rfl rfl Try.func17 (by kernel_rfl) rfl #[.slice Az3000063 t497.length cz3000063, .int .i64 a3] rfl (by (try simp only [List.map_toArray, List.map_cons, List.map_nil]); first | done | rfl | (simp; done)) ?_; (with_reducible refine (barrowlaw24_has.calls k _ _ _ _ _ _ (SL.row_c (SL.get2 HS.out)).2.2 (SL.row_c (SL.get2 HS.out)).2.1 Hc19.out).mono ?_); rintro e_ w24 ⟨rfl, hb_⟩; refine ⟨_, rfl, ?_⟩; replace hb_ := Drawn0.below hb_; replace HS := Aside0.mk (HS.out.below hb_); replace HK := Aside0.mk (HK.out.trans (Keep.below hb_))) | ((with_reducible refine gate_dst (N := 67) rfl ?_); (try (refine gate_guard (by rfl) ?_; dsimp only)); refine goesL_ (some 67) rfl rfl Try.func17 (by kernel_rfl) rfl #[.slice Az3000064 t498.length cz3000064, .int .i64 a2] rfl (by (try simp only [List.map_toArray, List.map_cons, List.map_nil]); first | done | rfl | (simp; done)) ?_; (with_reducible refine (barrowlaw24_has.calls k _ _ _ _ _ _ (SL.row_c (SL.get1 HS.out)).2.2 (SL.row_c (SL.get1 HS.out)).2.1 Hc21.out).mono ?_); rintro e_ w25 ⟨rfl, hb_⟩; refine ⟨_, rfl, ?_⟩; replace hb_ := Drawn0.below hb_; replace HS := Aside0.mk (HS.out.below hb_); replace HK := Aside0.mk (HK.out.trans (Keep.below hb_))))
                go_ret
                replace HS := Aside0.mk (SL.tail (SL.tail (SL.tail HS.out)))
                unfold barrowlaw24_InterestMutual.Post
                exact ⟨by first | rfl | (simp; done) | (simp [*]; done) | (simp at c23b0 ⊢; first | exact c23b0 | (simp [c23b0]; done)), HS.out, HK.out⟩
              · rw [if_neg c23] at H
                have c23b0 : decide (a4 < 0) = false := decide_eq_false c23
                clear c23
                by_cases c26 : a4 > 1048576
                · rw [if_pos c26] at H
                  have c26b0 : decide (1048576 < a4) = true := decide_eq_true c26
                  clear c26
                  obtain rfl := Option.some.inj H
                  refine hG_.out ?_
                  try simp only [c23b0, c26b0]
                  go_wp2_with (first | ((with_reducible refine gate_dst (N := 62) rfl ?_); (try (refine gate_guard (by rfl) ?_; dsimp only)); refine goesL_ (some 62) rfl rfl Try.func17 (by kernel_rfl) rfl #[.slice Az3000063 t497.length cz3000063, .int .i64 a3] rfl (by (try simp only [List.map_toArray, List.map_cons, List.map_nil]); first | done | rfl | (simp; done)) ?_; (with_reducible refine (barrowlaw24_has.calls k _ _ _ _ _ _ (SL.row_c (SL.get2 HS.out)).2.2 (SL.row_c (SL.get2 HS.out)).2.1 Hc19.out).mono ?_); rintro e_ w27 ⟨rfl, hb_⟩; refine ⟨_, rfl, ?_⟩; replace hb_ := Drawn0.below hb_; replace HS := Aside0.mk (HS.out.below hb_); replace HK := Aside0.mk (HK.out.trans (Keep.below hb_))) | ((with_reducible refine gate_dst (N := 67) rfl ?_); (try (refine gate_guard (by rfl) ?_; dsimp only)); refine goesL_ (some 67) rfl rfl Try.func17 (by kernel_rfl) rfl #[.slice Az3000064 t498.length cz3000064, .int .i64 a2] rfl (by (try simp only [List.map_toArray, List.map_cons, List.map_nil]); first | done | rfl | (simp; done)) ?_; (with_reducible refine (barrowlaw24_has.calls k _ _ _ _ _ _ (SL.row_c (SL.get1 HS.out)).2.2 (SL.row_c (SL.get1 HS.out)).2.1 Hc21.out).mono ?_); rintro e_ w28 ⟨rfl, hb_⟩; refine ⟨_, rfl, ?_⟩; replace hb_ := Drawn0.below hb_; replace HS := Aside0.mk (HS.out.below hb_); replace HK := Aside0.mk (HK.out.trans (Keep.below hb_))))
                  go_ret
                  replace HS := Aside0.mk (SL.tail (SL.tail (SL.tail HS.out)))
                  unfold barrowlaw24_InterestMutual.Post
                  exact ⟨by first | rfl | (simp; done) | (simp [*]; done) | (simp at c26b0 ⊢; first | exact c26b0 | (simp [c26b0]; done)), HS.out, HK.out⟩
                · rw [if_neg c26] at H
                  have c26b0 : decide (1048576 < a4) = false := decide_eq_false c26
                  clear c26
                  replace H := Option.bind_eq_some_iff.1 H
                  obtain ⟨t504, Hc290, H⟩ := H
                  try dsimp only at H
                  have Hc29 := Aside0.mk Hc290
                  clear Hc290
                  replace H := Option.bind_eq_some_iff.1 H
                  obtain ⟨⟨t505, t506⟩, Hc300, H⟩ := H
                  try dsimp only at H
                  have Hc30 := Aside0.mk Hc300
                  clear Hc300
                  replace H := Option.bind_eq_some_iff.1 H
                  obtain ⟨⟨t507, t508⟩, Hc310, H⟩ := H
                  try dsimp only at H
                  have Hc31 := Aside0.mk Hc310
                  clear Hc310
                  by_cases c32 : t496 = true
                  · subst c32
                    rw [if_pos rfl] at H
                    by_cases c33 : (t505.length : Int) = 0
                    · rw [if_pos c33] at H
                      have c33b0 : ((t505.length : Int) == 0) = true := beq_iff_eq.mpr c33
                      have c33b1 : ((t505.length : Int) != 0) = false := bne_eq_false_iff_eq.mpr c33
                      clear c33
                      by_cases c34 : (t507.length : Int) = 0
                      · rw [if_pos c34] at H
                        have c34b0 : ((t507.length : Int) == 0) = true := beq_iff_eq.mpr c34
                        have c34b1 : ((t507.length : Int) != 0) = false := bne_eq_false_iff_eq.mpr c34
                        clear c34
                        replace H := Option.bind_eq_some_iff.1 H
                        obtain ⟨t509, Hc350, H⟩ := H
                        try dsimp only at H
                        have Hc35 := Aside0.mk Hc350
                        clear Hc350
                        by_cases c36 : (t509 == (decide ((t497.length : Int) > 0))) = true
                        · rw [if_pos c36] at H
                          have c36b0 : (t509 == (decide ((t497.length : Int) > 0))) = true := c36
                          (try (have c36b1 : decide (t509 = (decide ((t497.length : Int) > 0))) = true := by simpa using c36))
                          (try (have c36b2 : (t509 == (decide ((t497.length : Int) > 0))) = true := by simpa using c36))
                          clear c36
                          obtain rfl := Option.some.inj H
                          refine hG_.out ?_
                          try simp only [c23b0, c26b0, c33b0, c33b1, c34b0, c34b1, c36b0]
                          go_wp2_with (first | ((with_reducible refine gate_dst (N := 62) rfl ?_); (try (refine gate_guard (by rfl) ?_; dsimp only)); refine goesL_ (some 62) rfl rfl Try.func17 (by kernel_rfl) rfl #[.slice Az3000063 t497.length cz3000063, .int .i64 a3] rfl (by (try simp only [List.map_toArray, List.map_cons, List.map_nil]); first | done | rfl | (simp; done)) ?_; (with_reducible refine (barrowlaw24_has.calls k _ _ _ _ _ _ (SL.row_c (SL.get2 HS.out)).2.2 (SL.row_c (SL.get2 HS.out)).2.1 Hc19.out).mono ?_); rintro e_ w37 ⟨rfl, hb_⟩; refine ⟨_, rfl, ?_⟩; replace hb_ := Drawn0.below hb_; replace HS := Aside0.mk (HS.out.below hb_); replace HK := Aside0.mk (HK.out.trans (Keep.below hb_))) | ((with_reducible refine gate_dst (N := 67) rfl ?_); (try (refine gate_guard (by rfl) ?_; dsimp only)); refine goesL_ (some 67) rfl rfl Try.func17 (by kernel_rfl) rfl #[.slice Az3000064 t498.length cz3000064, .int .i64 a2] rfl (by (try simp only [List.map_toArray, List.map_cons, List.map_nil]); first | done | rfl | (simp; done)) ?_; (with_reducible refine (barrowlaw24_has.calls k _ _ _ _ _ _ (SL.row_c (SL.get1 HS.out)).2.2 (SL.row_c (SL.get1 HS.out)).2.1 Hc21.out).mono ?_); rintro e_ w38 ⟨rfl, hb_⟩; refine ⟨_, rfl, ?_⟩; replace hb_ := Drawn0.below hb_; replace HS := Aside0.mk (HS.out.below hb_); replace HK := Aside0.mk (HK.out.trans (Keep.below hb_))) | ((with_reducible refine gate_dst (N := 98) rfl ?_); refine goesL_ (some 98) rfl rfl Try.func8 (by kernel_rfl) rfl #[.slice A0 l0.length c0, .slice A1 l1.length c1, .int .i64 a2, .int .i64 (wrap64 (a4 + 1))] rfl (by (try simp only [List.map_toArray, List.map_cons, List.map_nil]); first | done | rfl | (simp; done)) ?_; have hs0_ := HS.out; (with_reducible refine (interest_Set.slcalls k _ _ _ _ _ _ _ _ _ _ _ _ (HF.out.keep HK.out) hs0_ (HR0.out.keep HK.out) HC0.out (HR1.out.keep HK.out) HC1.out Hc29.out).mono ?_); rintro e_ w39 ⟨Az3000066, cz3000066, rfl, hsr_, hkr_⟩; refine ⟨_, rfl, ?_⟩; replace HS := Aside0.mk (hsr_); replace HK := Aside0.mk (HK.out.trans hkr_)) | ((with_reducible refine gate_dst (N := 102) rfl ?_); refine goesL_ (some 102) rfl rfl Try.func13 (by kernel_rfl) rfl #[.slice Az3000063 t497.length cz3000063, .slice Az3000066 t504.length cz3000066] rfl (by (try simp only [List.map_toArray, List.map_cons, List.map_nil]); first | done | rfl | (simp; done)) ?_; have hs0_ := (SL.get3 HS.out); obtain ⟨U1_, hfU1_, hsub1_, hs1_, hro1_, hback1_⟩ := SL.lend (HF.out.keep HK.out) hs0_ (p := fun w_ => Kd.C (Kd.int .i64) w_ Az3000063 t497.length t497) (fun w_ T_ h_ => (Qs_c h_).2.2); obtain ⟨U2_, hfU2_, hsub2_, hs2_, hro2_, hback2_⟩ := SL.lend hfU1_ hs1_ (p := fun w_ => Kd.C (Kd.int .i64) w_ Az3000066 t504.length t504) (fun w_ T_ h_ => (Qs_c h_).2.2); (with_reducible refine (interest_Change.slcalls k _ _ _ _ _ _ _ _ _ _ _ hfU2_ hs2_ (RO.sub hro1_ (fun k_ h_ => hsub2_ k_ (h_))) (SL.row_c (SL.get3 HS.out)).2.1 hro2_ (SL.row_c HS.out).2.1 Hc30.out).mono ?_); rintro e_ w40 ⟨Az3000067, cz3000067, Az3000068, cz3000068, rfl, hsr_, hkr_⟩; refine ⟨_, rfl, ?_⟩; replace HS := Aside0.mk ((hback1_ _ _ (Keep.sub hkr_ (fun k_ h_ => hsub2_ k_ (h_))) (hback2_ _ _ hkr_ hsr_))); replace HK := Aside0.mk (HK.out.trans (Keep.sub hkr_ (fun k_ h_ => hsub1_ k_ (hsub2_ k_ h_))))) | ((with_reducible refine gate_dst (N := 108) rfl ?_); refine goesL_ (some 108) rfl rfl Try.func13 (by kernel_rfl) rfl #[.slice Az3000065 t499.length cz3000065, .slice Az3000063 t497.length cz3000063] rfl (by (try simp only [List.map_toArray, List.map_cons, List.map_nil]); first | done | rfl | (simp; done)) ?_; have hs0_ := (SL.get4 HS.out); obtain ⟨U1_, hfU1_, hsub1_, hs1_, hro1_, hback1_⟩ := SL.lend (HF.out.keep HK.out) hs0_ (p := fun w_ => Kd.C (Kd.int .i64) w_ Az3000065 t499.length t499) (fun w_ T_ h_ => (Qs_c h_).2.2); obtain ⟨U2_, hfU2_, hsub2_, hs2_, hro2_, hback2_⟩ := SL.lend hfU1_ hs1_ (p := fun w_ => Kd.C (Kd.int .i64) w_ Az3000063 t497.length t497) (fun w_ T_ h_ => (Qs_c h_).2.2); (with_reducible refine (interest_Change.slcalls k _ _ _ _ _ _ _ _ _ _ _ hfU2_ hs2_ (RO.sub hro1_ (fun k_ h_ => hsub2_ k_ (h_))) (SL.row_c (SL.get4 HS.out)).2.1 hro2_ (SL.row_c HS.out).2.1 Hc31.out).mono ?_); rintro e_ w41 ⟨Az3000069, cz3000069, Az3000070, cz3000070, rfl, hsr_, hkr_⟩; refine ⟨_, rfl, ?_⟩; replace HS := Aside0.mk ((hback1_ _ _ (Keep.sub hkr_ (fun k_ h_ => hsub2_ k_ (h_))) (hback2_ _ _ hkr_ hsr_))); replace HK := Aside0.mk (HK.out.trans (Keep.sub hkr_ (fun k_ h_ => hsub1_ k_ (hsub2_ k_ h_))))) | ((with_reducible refine gate_dst (N := 125) rfl ?_); (try (refine gate_guard (by rfl) ?_; dsimp only)); refine goesL_ (some 125) rfl rfl Try.func17 (by kernel_rfl) rfl #[.slice Az3000063 t497.length cz3000063, .int .i64 a2] rfl (by (try simp only [List.map_toArray, List.map_cons, List.map_nil]); first | done | rfl | (simp; done)) ?_; (with_reducible refine (barrowlaw24_has.calls k _ _ _ _ _ _ (SL.row_c (SL.get1 HS.out)).2.2 (SL.row_c (SL.get1 HS.out)).2.1 Hc35.out).mono ?_); rintro e_ w42 ⟨rfl, hb_⟩; refine ⟨_, rfl, ?_⟩; replace hb_ := Drawn0.below hb_; replace HS := Aside0.mk (HS.out.below hb_); replace HK := Aside0.mk (HK.out.trans (Keep.below hb_))))
                          go_ret
                          replace HS := Aside0.mk (SL.tail (SL.tail (SL.tail (SL.tail (SL.tail (SL.tail (SL.tail (SL.tail HS.out))))))))
                          unfold barrowlaw24_InterestMutual.Post
                          exact ⟨by first | rfl | (simp; done) | (simp [*]; done) | (simp at c36b0 ⊢; first | exact c36b0 | (simp [c36b0]; done)), HS.out, HK.out⟩
                        · rw [if_neg c36] at H
                          exact absurd H (by simp)
                      · rw [if_neg c34] at H
                        exact absurd H (by simp)
                    · rw [if_neg c33] at H
                      exact absurd H (by simp)
                  · replace c32 := Bool.eq_false_iff.mpr c32
                    subst c32
                    rw [if_neg (show ¬ (false = true) by decide)] at H
                    exact absurd H (by simp)
            · replace c22 := Bool.eq_false_iff.mpr c22
              subst c22
              rw [if_neg (show ¬ (false = true) by decide)] at H
              exact absurd H (by simp)
          · replace c20 := Bool.eq_false_iff.mpr c20
            subst c20
            rw [if_neg (show ¬ (false = true) by decide)] at H
            exact absurd H (by simp)
        · replace c18 := Bool.eq_false_iff.mpr c18
          subst c18
          rw [if_neg (show ¬ (false = true) by decide)] at H
          replace H := Option.bind_eq_some_iff.1 H
          obtain ⟨t510, Hc430, H⟩ := H
          try dsimp only at H
          have Hc43 := Aside0.mk Hc430
          clear Hc430
          by_cases c44 : t510 = true
          · subst c44
            rw [if_pos rfl] at H
            by_cases c45 : a2 = a3
            · rw [if_pos c45] at H
              have c45b0 : (a2 == a3) = true := beq_iff_eq.mpr c45
              have c45b1 : (a2 != a3) = false := bne_eq_false_iff_eq.mpr c45
              clear c45
              by_cases c46 : a4 < 0
              · rw [if_pos c46] at H
                have c46b0 : decide (a4 < 0) = true := decide_eq_true c46
                clear c46
                obtain rfl := Option.some.inj H
                refine hG_.out ?_
                try simp only [c45b0, c45b1, c46b0]
                go_wp2_with (first | ((with_reducible refine gate_dst (N := 78) rfl ?_); (try (refine gate_guard (by rfl) ?_; dsimp only)); refine goesL_ (some 78) rfl rfl Try.func17 (by kernel_rfl) rfl #[.slice Az3000065 t499.length cz3000065, .int .i64 a3] rfl (by (try simp only [List.map_toArray, List.map_cons, List.map_nil]); first | done | rfl | (simp; done)) ?_; (with_reducible refine (barrowlaw24_has.calls k _ _ _ _ _ _ (SL.row_c HS.out).2.2 (SL.row_c HS.out).2.1 Hc43.out).mono ?_); rintro e_ w47 ⟨rfl, hb_⟩; refine ⟨_, rfl, ?_⟩; replace hb_ := Drawn0.below hb_; replace HS := Aside0.mk (HS.out.below hb_); replace HK := Aside0.mk (HK.out.trans (Keep.below hb_))))
                go_ret
                replace HS := Aside0.mk (SL.tail (SL.tail (SL.tail HS.out)))
                unfold barrowlaw24_InterestMutual.Post
                exact ⟨by first | rfl | (simp; done) | (simp [*]; done) | (simp at c46b0 ⊢; first | exact c46b0 | (simp [c46b0]; done)), HS.out, HK.out⟩
              · rw [if_neg c46] at H
                have c46b0 : decide (a4 < 0) = false := decide_eq_false c46
                clear c46
                by_cases c48 : a4 > 1048576
                · rw [if_pos c48] at H
                  have c48b0 : decide (1048576 < a4) = true := decide_eq_true c48
                  clear c48
                  obtain rfl := Option.some.inj H
                  refine hG_.out ?_
                  try simp only [c45b0, c45b1, c46b0, c48b0]
                  go_wp2_with (first | ((with_reducible refine gate_dst (N := 78) rfl ?_); (try (refine gate_guard (by rfl) ?_; dsimp only)); refine goesL_ (some 78) rfl rfl Try.func17 (by kernel_rfl) rfl #[.slice Az3000065 t499.length cz3000065, .int .i64 a3] rfl (by (try simp only [List.map_toArray, List.map_cons, List.map_nil]); first | done | rfl | (simp; done)) ?_; (with_reducible refine (barrowlaw24_has.calls k _ _ _ _ _ _ (SL.row_c HS.out).2.2 (SL.row_c HS.out).2.1 Hc43.out).mono ?_); rintro e_ w49 ⟨rfl, hb_⟩; refine ⟨_, rfl, ?_⟩; replace hb_ := Drawn0.below hb_; replace HS := Aside0.mk (HS.out.below hb_); replace HK := Aside0.mk (HK.out.trans (Keep.below hb_))))
                  go_ret
                  replace HS := Aside0.mk (SL.tail (SL.tail (SL.tail HS.out)))
                  unfold barrowlaw24_InterestMutual.Post
                  exact ⟨by first | rfl | (simp; done) | (simp [*]; done) | (simp at c48b0 ⊢; first | exact c48b0 | (simp [c48b0]; done)), HS.out, HK.out⟩
                · rw [if_neg c48] at H
                  have c48b0 : decide (1048576 < a4) = false := decide_eq_false c48
                  clear c48
                  replace H := Option.bind_eq_some_iff.1 H
                  obtain ⟨t511, Hc500, H⟩ := H
                  try dsimp only at H
                  have Hc50 := Aside0.mk Hc500
                  clear Hc500
                  replace H := Option.bind_eq_some_iff.1 H
                  obtain ⟨⟨t512, t513⟩, Hc510, H⟩ := H
                  try dsimp only at H
                  have Hc51 := Aside0.mk Hc510
                  clear Hc510
                  replace H := Option.bind_eq_some_iff.1 H
                  obtain ⟨⟨t514, t515⟩, Hc520, H⟩ := H
                  try dsimp only at H
                  have Hc52 := Aside0.mk Hc520
                  clear Hc520
                  by_cases c53 : t496 = true
                  · subst c53
                    rw [if_pos rfl] at H
                    by_cases c54 : (t512.length : Int) = 0
                    · rw [if_pos c54] at H
                      have c54b0 : ((t512.length : Int) == 0) = true := beq_iff_eq.mpr c54
                      have c54b1 : ((t512.length : Int) != 0) = false := bne_eq_false_iff_eq.mpr c54
                      clear c54
                      by_cases c55 : (t514.length : Int) = 0
                      · rw [if_pos c55] at H
                        have c55b0 : ((t514.length : Int) == 0) = true := beq_iff_eq.mpr c55
                        have c55b1 : ((t514.length : Int) != 0) = false := bne_eq_false_iff_eq.mpr c55
                        clear c55
                        replace H := Option.bind_eq_some_iff.1 H
                        obtain ⟨t516, Hc560, H⟩ := H
                        try dsimp only at H
                        have Hc56 := Aside0.mk Hc560
                        clear Hc560
                        by_cases c57 : (t516 == (decide ((t497.length : Int) > 0))) = true
                        · rw [if_pos c57] at H
                          have c57b0 : (t516 == (decide ((t497.length : Int) > 0))) = true := c57
                          (try (have c57b1 : decide (t516 = (decide ((t497.length : Int) > 0))) = true := by simpa using c57))
                          (try (have c57b2 : (t516 == (decide ((t497.length : Int) > 0))) = true := by simpa using c57))
                          clear c57
                          obtain rfl := Option.some.inj H
                          refine hG_.out ?_
                          try simp only [c45b0, c45b1, c46b0, c48b0, c54b0, c54b1, c55b0, c55b1, c57b0]
                          go_wp2_with (first | ((with_reducible refine gate_dst (N := 78) rfl ?_); (try (refine gate_guard (by rfl) ?_; dsimp only)); refine goesL_ (some 78) rfl rfl Try.func17 (by kernel_rfl) rfl #[.slice Az3000065 t499.length cz3000065, .int .i64 a3] rfl (by (try simp only [List.map_toArray, List.map_cons, List.map_nil]); first | done | rfl | (simp; done)) ?_; (with_reducible refine (barrowlaw24_has.calls k _ _ _ _ _ _ (SL.row_c HS.out).2.2 (SL.row_c HS.out).2.1 Hc43.out).mono ?_); rintro e_ w58 ⟨rfl, hb_⟩; refine ⟨_, rfl, ?_⟩; replace hb_ := Drawn0.below hb_; replace HS := Aside0.mk (HS.out.below hb_); replace HK := Aside0.mk (HK.out.trans (Keep.below hb_))) | ((with_reducible refine gate_dst (N := 98) rfl ?_); refine goesL_ (some 98) rfl rfl Try.func8 (by kernel_rfl) rfl #[.slice A0 l0.length c0, .slice A1 l1.length c1, .int .i64 a2, .int .i64 (wrap64 (a4 + 1))] rfl (by (try simp only [List.map_toArray, List.map_cons, List.map_nil]); first | done | rfl | (simp; done)) ?_; have hs0_ := HS.out; (with_reducible refine (interest_Set.slcalls k _ _ _ _ _ _ _ _ _ _ _ _ (HF.out.keep HK.out) hs0_ (HR0.out.keep HK.out) HC0.out (HR1.out.keep HK.out) HC1.out Hc50.out).mono ?_); rintro e_ w59 ⟨Az3000066, cz3000066, rfl, hsr_, hkr_⟩; refine ⟨_, rfl, ?_⟩; replace HS := Aside0.mk (hsr_); replace HK := Aside0.mk (HK.out.trans hkr_)) | ((with_reducible refine gate_dst (N := 102) rfl ?_); refine goesL_ (some 102) rfl rfl Try.func13 (by kernel_rfl) rfl #[.slice Az3000063 t497.length cz3000063, .slice Az3000066 t511.length cz3000066] rfl (by (try simp only [List.map_toArray, List.map_cons, List.map_nil]); first | done | rfl | (simp; done)) ?_; have hs0_ := (SL.get3 HS.out); obtain ⟨U1_, hfU1_, hsub1_, hs1_, hro1_, hback1_⟩ := SL.lend (HF.out.keep HK.out) hs0_ (p := fun w_ => Kd.C (Kd.int .i64) w_ Az3000063 t497.length t497) (fun w_ T_ h_ => (Qs_c h_).2.2); obtain ⟨U2_, hfU2_, hsub2_, hs2_, hro2_, hback2_⟩ := SL.lend hfU1_ hs1_ (p := fun w_ => Kd.C (Kd.int .i64) w_ Az3000066 t511.length t511) (fun w_ T_ h_ => (Qs_c h_).2.2); (with_reducible refine (interest_Change.slcalls k _ _ _ _ _ _ _ _ _ _ _ hfU2_ hs2_ (RO.sub hro1_ (fun k_ h_ => hsub2_ k_ (h_))) (SL.row_c (SL.get3 HS.out)).2.1 hro2_ (SL.row_c HS.out).2.1 Hc51.out).mono ?_); rintro e_ w60 ⟨Az3000067, cz3000067, Az3000068, cz3000068, rfl, hsr_, hkr_⟩; refine ⟨_, rfl, ?_⟩; replace HS := Aside0.mk ((hback1_ _ _ (Keep.sub hkr_ (fun k_ h_ => hsub2_ k_ (h_))) (hback2_ _ _ hkr_ hsr_))); replace HK := Aside0.mk (HK.out.trans (Keep.sub hkr_ (fun k_ h_ => hsub1_ k_ (hsub2_ k_ h_))))) | ((with_reducible refine gate_dst (N := 108) rfl ?_); refine goesL_ (some 108) rfl rfl Try.func13 (by kernel_rfl) rfl #[.slice Az3000065 t499.length cz3000065, .slice Az3000063 t497.length cz3000063] rfl (by (try simp only [List.map_toArray, List.map_cons, List.map_nil]); first | done | rfl | (simp; done)) ?_; have hs0_ := (SL.get4 HS.out); obtain ⟨U1_, hfU1_, hsub1_, hs1_, hro1_, hback1_⟩ := SL.lend (HF.out.keep HK.out) hs0_ (p := fun w_ => Kd.C (Kd.int .i64) w_ Az3000065 t499.length t499) (fun w_ T_ h_ => (Qs_c h_).2.2); obtain ⟨U2_, hfU2_, hsub2_, hs2_, hro2_, hback2_⟩ := SL.lend hfU1_ hs1_ (p := fun w_ => Kd.C (Kd.int .i64) w_ Az3000063 t497.length t497) (fun w_ T_ h_ => (Qs_c h_).2.2); (with_reducible refine (interest_Change.slcalls k _ _ _ _ _ _ _ _ _ _ _ hfU2_ hs2_ (RO.sub hro1_ (fun k_ h_ => hsub2_ k_ (h_))) (SL.row_c (SL.get4 HS.out)).2.1 hro2_ (SL.row_c HS.out).2.1 Hc52.out).mono ?_); rintro e_ w61 ⟨Az3000069, cz3000069, Az3000070, cz3000070, rfl, hsr_, hkr_⟩; refine ⟨_, rfl, ?_⟩; replace HS := Aside0.mk ((hback1_ _ _ (Keep.sub hkr_ (fun k_ h_ => hsub2_ k_ (h_))) (hback2_ _ _ hkr_ hsr_))); replace HK := Aside0.mk (HK.out.trans (Keep.sub hkr_ (fun k_ h_ => hsub1_ k_ (hsub2_ k_ h_))))) | ((with_reducible refine gate_dst (N := 125) rfl ?_); (try (refine gate_guard (by rfl) ?_; dsimp only)); refine goesL_ (some 125) rfl rfl Try.func17 (by kernel_rfl) rfl #[.slice Az3000063 t497.length cz3000063, .int .i64 a2] rfl (by (try simp only [List.map_toArray, List.map_cons, List.map_nil]); first | done | rfl | (simp; done)) ?_; (with_reducible refine (barrowlaw24_has.calls k _ _ _ _ _ _ (SL.row_c (SL.get1 HS.out)).2.2 (SL.row_c (SL.get1 HS.out)).2.1 Hc56.out).mono ?_); rintro e_ w62 ⟨rfl, hb_⟩; refine ⟨_, rfl, ?_⟩; replace hb_ := Drawn0.below hb_; replace HS := Aside0.mk (HS.out.below hb_); replace HK := Aside0.mk (HK.out.trans (Keep.below hb_))))
                          go_ret
                          replace HS := Aside0.mk (SL.tail (SL.tail (SL.tail (SL.tail (SL.tail (SL.tail (SL.tail (SL.tail HS.out))))))))
                          unfold barrowlaw24_InterestMutual.Post
                          exact ⟨by first | rfl | (simp; done) | (simp [*]; done) | (simp at c57b0 ⊢; first | exact c57b0 | (simp [c57b0]; done)), HS.out, HK.out⟩
                        · rw [if_neg c57] at H
                          exact absurd H (by simp)
                      · rw [if_neg c55] at H
                        exact absurd H (by simp)
                    · rw [if_neg c54] at H
                      exact absurd H (by simp)
                  · replace c53 := Bool.eq_false_iff.mpr c53
                    subst c53
                    rw [if_neg (show ¬ (false = true) by decide)] at H
                    exact absurd H (by simp)
            · rw [if_neg c45] at H
              exact absurd H (by simp)
          · replace c44 := Bool.eq_false_iff.mpr c44
            subst c44
            rw [if_neg (show ¬ (false = true) by decide)] at H
            by_cases c63 : a4 < 0
            · rw [if_pos c63] at H
              have c63b0 : decide (a4 < 0) = true := decide_eq_true c63
              clear c63
              obtain rfl := Option.some.inj H
              refine hG_.out ?_
              try simp only [c63b0]
              go_wp2_with (first | ((with_reducible refine gate_dst (N := 78) rfl ?_); (try (refine gate_guard (by rfl) ?_; dsimp only)); refine goesL_ (some 78) rfl rfl Try.func17 (by kernel_rfl) rfl #[.slice Az3000065 t499.length cz3000065, .int .i64 a3] rfl (by (try simp only [List.map_toArray, List.map_cons, List.map_nil]); first | done | rfl | (simp; done)) ?_; (with_reducible refine (barrowlaw24_has.calls k _ _ _ _ _ _ (SL.row_c HS.out).2.2 (SL.row_c HS.out).2.1 Hc43.out).mono ?_); rintro e_ w64 ⟨rfl, hb_⟩; refine ⟨_, rfl, ?_⟩; replace hb_ := Drawn0.below hb_; replace HS := Aside0.mk (HS.out.below hb_); replace HK := Aside0.mk (HK.out.trans (Keep.below hb_))))
              go_ret
              replace HS := Aside0.mk (SL.tail (SL.tail (SL.tail HS.out)))
              unfold barrowlaw24_InterestMutual.Post
              exact ⟨by first | rfl | (simp; done) | (simp [*]; done) | (simp at c63b0 ⊢; first | exact c63b0 | (simp [c63b0]; done)), HS.out, HK.out⟩
            · rw [if_neg c63] at H
              have c63b0 : decide (a4 < 0) = false := decide_eq_false c63
              clear c63
              by_cases c65 : a4 > 1048576
              · rw [if_pos c65] at H
                have c65b0 : decide (1048576 < a4) = true := decide_eq_true c65
                clear c65
                obtain rfl := Option.some.inj H
                refine hG_.out ?_
                try simp only [c63b0, c65b0]
                go_wp2_with (first | ((with_reducible refine gate_dst (N := 78) rfl ?_); (try (refine gate_guard (by rfl) ?_; dsimp only)); refine goesL_ (some 78) rfl rfl Try.func17 (by kernel_rfl) rfl #[.slice Az3000065 t499.length cz3000065, .int .i64 a3] rfl (by (try simp only [List.map_toArray, List.map_cons, List.map_nil]); first | done | rfl | (simp; done)) ?_; (with_reducible refine (barrowlaw24_has.calls k _ _ _ _ _ _ (SL.row_c HS.out).2.2 (SL.row_c HS.out).2.1 Hc43.out).mono ?_); rintro e_ w66 ⟨rfl, hb_⟩; refine ⟨_, rfl, ?_⟩; replace hb_ := Drawn0.below hb_; replace HS := Aside0.mk (HS.out.below hb_); replace HK := Aside0.mk (HK.out.trans (Keep.below hb_))))
                go_ret
                replace HS := Aside0.mk (SL.tail (SL.tail (SL.tail HS.out)))
                unfold barrowlaw24_InterestMutual.Post
                exact ⟨by first | rfl | (simp; done) | (simp [*]; done) | (simp at c65b0 ⊢; first | exact c65b0 | (simp [c65b0]; done)), HS.out, HK.out⟩
              · rw [if_neg c65] at H
                have c65b0 : decide (1048576 < a4) = false := decide_eq_false c65
                clear c65
                replace H := Option.bind_eq_some_iff.1 H
                obtain ⟨t517, Hc670, H⟩ := H
                try dsimp only at H
                have Hc67 := Aside0.mk Hc670
                clear Hc670
                replace H := Option.bind_eq_some_iff.1 H
                obtain ⟨⟨t518, t519⟩, Hc680, H⟩ := H
                try dsimp only at H
                have Hc68 := Aside0.mk Hc680
                clear Hc680
                replace H := Option.bind_eq_some_iff.1 H
                obtain ⟨⟨t520, t521⟩, Hc690, H⟩ := H
                try dsimp only at H
                have Hc69 := Aside0.mk Hc690
                clear Hc690
                by_cases c70 : t496 = true
                · subst c70
                  rw [if_pos rfl] at H
                  by_cases c71 : (t518.length : Int) = 0
                  · rw [if_pos c71] at H
                    have c71b0 : ((t518.length : Int) == 0) = true := beq_iff_eq.mpr c71
                    have c71b1 : ((t518.length : Int) != 0) = false := bne_eq_false_iff_eq.mpr c71
                    clear c71
                    by_cases c72 : (t520.length : Int) = 0
                    · rw [if_pos c72] at H
                      have c72b0 : ((t520.length : Int) == 0) = true := beq_iff_eq.mpr c72
                      have c72b1 : ((t520.length : Int) != 0) = false := bne_eq_false_iff_eq.mpr c72
                      clear c72
                      replace H := Option.bind_eq_some_iff.1 H
                      obtain ⟨t522, Hc730, H⟩ := H
                      try dsimp only at H
                      have Hc73 := Aside0.mk Hc730
                      clear Hc730
                      by_cases c74 : (t522 == (decide ((t497.length : Int) > 0))) = true
                      · rw [if_pos c74] at H
                        have c74b0 : (t522 == (decide ((t497.length : Int) > 0))) = true := c74
                        (try (have c74b1 : decide (t522 = (decide ((t497.length : Int) > 0))) = true := by simpa using c74))
                        (try (have c74b2 : (t522 == (decide ((t497.length : Int) > 0))) = true := by simpa using c74))
                        clear c74
                        obtain rfl := Option.some.inj H
                        refine hG_.out ?_
                        try simp only [c63b0, c65b0, c71b0, c71b1, c72b0, c72b1, c74b0]
                        go_wp2_with (first | ((with_reducible refine gate_dst (N := 78) rfl ?_); (try (refine gate_guard (by rfl) ?_; dsimp only)); refine goesL_ (some 78) rfl rfl Try.func17 (by kernel_rfl) rfl #[.slice Az3000065 t499.length cz3000065, .int .i64 a3] rfl (by (try simp only [List.map_toArray, List.map_cons, List.map_nil]); first | done | rfl | (simp; done)) ?_; (with_reducible refine (barrowlaw24_has.calls k _ _ _ _ _ _ (SL.row_c HS.out).2.2 (SL.row_c HS.out).2.1 Hc43.out).mono ?_); rintro e_ w75 ⟨rfl, hb_⟩; refine ⟨_, rfl, ?_⟩; replace hb_ := Drawn0.below hb_; replace HS := Aside0.mk (HS.out.below hb_); replace HK := Aside0.mk (HK.out.trans (Keep.below hb_))) | ((with_reducible refine gate_dst (N := 98) rfl ?_); refine goesL_ (some 98) rfl rfl Try.func8 (by kernel_rfl) rfl #[.slice A0 l0.length c0, .slice A1 l1.length c1, .int .i64 a2, .int .i64 (wrap64 (a4 + 1))] rfl (by (try simp only [List.map_toArray, List.map_cons, List.map_nil]); first | done | rfl | (simp; done)) ?_; have hs0_ := HS.out; (with_reducible refine (interest_Set.slcalls k _ _ _ _ _ _ _ _ _ _ _ _ (HF.out.keep HK.out) hs0_ (HR0.out.keep HK.out) HC0.out (HR1.out.keep HK.out) HC1.out Hc67.out).mono ?_); rintro e_ w76 ⟨Az3000066, cz3000066, rfl, hsr_, hkr_⟩; refine ⟨_, rfl, ?_⟩; replace HS := Aside0.mk (hsr_); replace HK := Aside0.mk (HK.out.trans hkr_)) | ((with_reducible refine gate_dst (N := 102) rfl ?_); refine goesL_ (some 102) rfl rfl Try.func13 (by kernel_rfl) rfl #[.slice Az3000063 t497.length cz3000063, .slice Az3000066 t517.length cz3000066] rfl (by (try simp only [List.map_toArray, List.map_cons, List.map_nil]); first | done | rfl | (simp; done)) ?_; have hs0_ := (SL.get3 HS.out); obtain ⟨U1_, hfU1_, hsub1_, hs1_, hro1_, hback1_⟩ := SL.lend (HF.out.keep HK.out) hs0_ (p := fun w_ => Kd.C (Kd.int .i64) w_ Az3000063 t497.length t497) (fun w_ T_ h_ => (Qs_c h_).2.2); obtain ⟨U2_, hfU2_, hsub2_, hs2_, hro2_, hback2_⟩ := SL.lend hfU1_ hs1_ (p := fun w_ => Kd.C (Kd.int .i64) w_ Az3000066 t517.length t517) (fun w_ T_ h_ => (Qs_c h_).2.2); (with_reducible refine (interest_Change.slcalls k _ _ _ _ _ _ _ _ _ _ _ hfU2_ hs2_ (RO.sub hro1_ (fun k_ h_ => hsub2_ k_ (h_))) (SL.row_c (SL.get3 HS.out)).2.1 hro2_ (SL.row_c HS.out).2.1 Hc68.out).mono ?_); rintro e_ w77 ⟨Az3000067, cz3000067, Az3000068, cz3000068, rfl, hsr_, hkr_⟩; refine ⟨_, rfl, ?_⟩; replace HS := Aside0.mk ((hback1_ _ _ (Keep.sub hkr_ (fun k_ h_ => hsub2_ k_ (h_))) (hback2_ _ _ hkr_ hsr_))); replace HK := Aside0.mk (HK.out.trans (Keep.sub hkr_ (fun k_ h_ => hsub1_ k_ (hsub2_ k_ h_))))) | ((with_reducible refine gate_dst (N := 108) rfl ?_); refine goesL_ (some 108) rfl rfl Try.func13 (by kernel_rfl) rfl #[.slice Az3000065 t499.length cz3000065, .slice Az3000063 t497.length cz3000063] rfl (by (try simp only [List.map_toArray, List.map_cons, List.map_nil]); first | done | rfl | (simp; done)) ?_; have hs0_ := (SL.get4 HS.out); obtain ⟨U1_, hfU1_, hsub1_, hs1_, hro1_, hback1_⟩ := SL.lend (HF.out.keep HK.out) hs0_ (p := fun w_ => Kd.C (Kd.int .i64) w_ Az3000065 t499.length t499) (fun w_ T_ h_ => (Qs_c h_).2.2); obtain ⟨U2_, hfU2_, hsub2_, hs2_, hro2_, hback2_⟩ := SL.lend hfU1_ hs1_ (p := fun w_ => Kd.C (Kd.int .i64) w_ Az3000063 t497.length t497) (fun w_ T_ h_ => (Qs_c h_).2.2); (with_reducible refine (interest_Change.slcalls k _ _ _ _ _ _ _ _ _ _ _ hfU2_ hs2_ (RO.sub hro1_ (fun k_ h_ => hsub2_ k_ (h_))) (SL.row_c (SL.get4 HS.out)).2.1 hro2_ (SL.row_c HS.out).2.1 Hc69.out).mono ?_); rintro e_ w78 ⟨Az3000069, cz3000069, Az3000070, cz3000070, rfl, hsr_, hkr_⟩; refine ⟨_, rfl, ?_⟩; replace HS := Aside0.mk ((hback1_ _ _ (Keep.sub hkr_ (fun k_ h_ => hsub2_ k_ (h_))) (hback2_ _ _ hkr_ hsr_))); replace HK := Aside0.mk (HK.out.trans (Keep.sub hkr_ (fun k_ h_ => hsub1_ k_ (hsub2_ k_ h_))))) | ((with_reducible refine gate_dst (N := 125) rfl ?_); (try (refine gate_guard (by rfl) ?_; dsimp only)); refine goesL_ (some 125) rfl rfl Try.func17 (by kernel_rfl) rfl #[.slice Az3000063 t497.length cz3000063, .int .i64 a2] rfl (by (try simp only [List.map_toArray, List.map_cons, List.map_nil]); first | done | rfl | (simp; done)) ?_; (with_reducible refine (barrowlaw24_has.calls k _ _ _ _ _ _ (SL.row_c (SL.get1 HS.out)).2.2 (SL.row_c (SL.get1 HS.out)).2.1 Hc73.out).mono ?_); rintro e_ w79 ⟨rfl, hb_⟩; refine ⟨_, rfl, ?_⟩; replace hb_ := Drawn0.below hb_; replace HS := Aside0.mk (HS.out.below hb_); replace HK := Aside0.mk (HK.out.trans (Keep.below hb_))))
                        go_ret
                        replace HS := Aside0.mk (SL.tail (SL.tail (SL.tail (SL.tail (SL.tail (SL.tail (SL.tail (SL.tail HS.out))))))))
                        unfold barrowlaw24_InterestMutual.Post
                        exact ⟨by first | rfl | (simp; done) | (simp [*]; done) | (simp at c74b0 ⊢; first | exact c74b0 | (simp [c74b0]; done)), HS.out, HK.out⟩
                      · rw [if_neg c74] at H
                        exact absurd H (by simp)
                    · rw [if_neg c72] at H
                      exact absurd H (by simp)
                  · rw [if_neg c71] at H
                    exact absurd H (by simp)
                · replace c70 := Bool.eq_false_iff.mpr c70
                  subst c70
                  rw [if_neg (show ¬ (false = true) by decide)] at H
                  exact absurd H (by simp)
theorem barrowlaw24_InterestMutual.calls (k : Nat) (A0 : Option Addr) (c0 : Nat) (l0 : List (S50)) (A1 : Option Addr) (c1 : Nat) (l1 : List (S36)) (a2 : Int) (a3 : Int) (a4 : Int) (r : Bool) (w : World) (hr0 : Kd.C k50 w A0 l0.length l0) (hc0 : l0.length ≤ c0) (hr1 : Kd.C k36 w A1 l1.length l1) (hc1 : l1.length ≤ c1) (h : barrowlaw24_InterestMutual.f k l0 l1 a2 a3 a4 = some r) :
    Calls Try.prog 5 #[.slice A0 l0.length c0, .slice A1 l1.length c1, .int .i64 a2, .int .i64 a3, .int .i64 a4] w fun e w' => e = .returned (.bool r) ∧ Below w.heap.size w w' :=
  (barrowlaw24_InterestMutual.slcalls k A0 c0 l0 A1 c1 l1 a2 a3 a4 r (news w) [] w (fresh_news w) trivial (RO.top hr0) hc0 (RO.top hr1) hc1 h).mono fun _ _ h => ⟨h.1, h.2.2.to_below⟩

/-- THE ONE PURE STATEMENT of barrowlaw24_InterestMutual. -/
noncomputable def barrowlaw24_InterestMutual.Pure : Prop := ∀ (l0 : List (S50)) (l1 : List (S36)) (a2 : Int) (a3 : Int) (a4 : Int), (l0.length ≤ maxLen ∧ l0.length * 24 ≤ 140737488351232 ∧ ∀ x523_ ∈ l0, ((Lit.int .i64 x523_.f0).wf = true) ∧ (((Lit.int .i64 x523_.f1.f0).wf = true) ∧ ((Lit.int .i64 x523_.f1.f1).wf = true))) → (l1.length ≤ maxLen ∧ l1.length * 16 ≤ 140737488351232 ∧ ∀ x524_ ∈ l1, ((Lit.int .i64 x524_.f0).wf = true) ∧ ((Lit.int .i64 x524_.f1).wf = true)) → ((Lit.int .i64 a2).wf = true) → ((Lit.int .i64 a3).wf = true) → ((Lit.int .i64 a4).wf = true) → ∃ k, barrowlaw24_InterestMutual.f k l0 l1 a2 a3 a4 = some true

end Go.Proofs.Ytgcbmhihiacgnaa.XIN
