-- Written by xprint.py (a program of this session) for this claim
import Derived.Test.YtgcbmhihiacgnaaSL5
import Derived.Test.YtgcbmhihiacgnaaXINx0
import Derived.Test.YtgcbmhihiacgnaaXINx3
import Derived.Test.YtgcbmhihiacgnaaXINx4
import Derived.Test.YtgcbmhihiacgnaaXINx11
namespace Go.Proofs.Ytgcbmhihiacgnaa.XIN
open Go.Proofs.YtgcbmhihiacgnaaV Go.Proofs.YtgcbmhihiacgnaaS
open Go.RowKit Go.Proofs.YtgcbmhihiacgnaaW.PrintWords Go.Proofs.YtgcbmhihiacgnaaW.PrintLast Go.Proofs.YtgcbmhihiacgnaaW.PrintMore
attribute [local go_sem] max2_int min2_int max_two min_two max_three min_three max_four min_four   -- for this text's walks alone
set_option linter.unusedVariables false
set_option linter.unusedSimpArgs false

/-! ### barrowlaw24_small: function 7 -/
noncomputable def barrowlaw24_small.f (k : Nat)  : Option (Bool) := (some (([(⟨1, 1⟩ : S36), (⟨2, 1⟩ : S36)] : List (S36)) : List (S36))).bind fun y248 => ((barrowlaw24_at.f).bind fun t249 => ((interest_Set.f k t249 y248 1 3).bind fun t250 => ((barrowlaw24_at.f).bind fun t251 => ((interest_Set.f k t251 y248 3 3).bind fun t252 => ((interest_Change.f k t250 t252).bind fun bt253 => ((some (([1, 2, 3] : List Int) : List Int)).bind fun y255 => ((barrowref02_Same.f k t250 y255).bind fun t256 => (if t256 = true then ((some (([1, 3] : List Int) : List Int)).bind fun y257 => ((barrowref02_Same.f k t252 y257).bind fun t258 => (if t258 = true then ((some (([2] : List Int) : List Int)).bind fun y259 => ((barrowref02_Same.f k bt253.1 y259).bind fun t260 => (if t260 = true then (if (bt253.2.length : Int) = 0 then ((interest_Hears.f k t252 0 3).bind fun t261 => (if t261 = true then ((interest_Hears.f k t252 2 0).bind fun t262 => (if t262 = true then (none) else ((barrowlaw24_at.f).bind fun t263 => ((interest_Mutual.f k t263 1 3 2).bind fun t264 => (some t264))))) else (none))) else (none)) else (none)))) else (none)))) else (none)))))))))
theorem barrowlaw24_small.mono : ∀ k, LeO (barrowlaw24_small.f k ) (barrowlaw24_small.f (k + 1) ) := by
  intro  k
  unfold barrowlaw24_small.f
  repeat' first
      | (with_reducible exact barrowref02_Same.mono _ _ _)
      | (with_reducible exact interest_Change.mono _ _ _)
      | (with_reducible exact interest_Hears.mono _ _ _ _)
      | (with_reducible exact interest_Mutual.mono _ _ _ _ _)
      | (with_reducible exact interest_Set.mono _ _ _ _ _)
      | (with_reducible exact LeO.refl _)
      | (with_reducible exact LeO.none _)
      | (with_reducible refine LeO.ite ?_ ?_)
      | (with_reducible refine everyOf_le (fun _ => ?_))
      | (with_reducible refine LeO.bind ?_ (fun _ => ?_))
      | exact barrowref02_Same.mono _ _ _
      | exact interest_Change.mono _ _ _
      | exact interest_Hears.mono _ _ _ _
      | exact interest_Mutual.mono _ _ _ _ _
      | exact interest_Set.mono _ _ _ _ _
      | exact LeO.none _
      | refine LeO.ite ?_ ?_
      | refine LeO.bind ?_ (fun _ => ?_)
def barrowlaw24_small.Post (r : Bool) (S : Nat → Prop) (L : List Asr) (w : World) (e : Ending) (w' : World) : Prop := e = .returned (.bool r) ∧ SL (L) w' S ∧ Keep S w w'
set_option maxHeartbeats 8000000 in
set_option maxRecDepth 100000 in
theorem barrowlaw24_small.slcalls (k : Nat)  (r : Bool) (S : Nat → Prop) (L : List Asr) (w : World) (hf : Fresh S w) (hs : SL (L) w S) (h : barrowlaw24_small.f k  = some r) :
    Calls Try.prog 7 #[] w (barrowlaw24_small.Post r S L w) := by
  have HF := Aside0.mk hf
  have HS := Aside0.mk hs
  have HK := Aside0.mk (Keep.refl S w)
  clear hf hs
  have hu36 := Try.underlying36
  have H : ((some (([(⟨1, 1⟩ : S36), (⟨2, 1⟩ : S36)] : List (S36)) : List (S36))).bind fun y248 => ((barrowlaw24_at.f).bind fun t249 => ((interest_Set.f k t249 y248 1 3).bind fun t250 => ((barrowlaw24_at.f).bind fun t251 => ((interest_Set.f k t251 y248 3 3).bind fun t252 => ((interest_Change.f k t250 t252).bind fun bt253 => ((some (([1, 2, 3] : List Int) : List Int)).bind fun y255 => ((barrowref02_Same.f k t250 y255).bind fun t256 => (if t256 = true then ((some (([1, 3] : List Int) : List Int)).bind fun y257 => ((barrowref02_Same.f k t252 y257).bind fun t258 => (if t258 = true then ((some (([2] : List Int) : List Int)).bind fun y259 => ((barrowref02_Same.f k bt253.1 y259).bind fun t260 => (if t260 = true then (if (bt253.2.length : Int) = 0 then ((interest_Hears.f k t252 0 3).bind fun t261 => (if t261 = true then ((interest_Hears.f k t252 2 0).bind fun t262 => (if t262 = true then (none) else ((barrowlaw24_at.f).bind fun t263 => ((interest_Mutual.f k t263 1 3 2).bind fun t264 => (some t264))))) else (none))) else (none)) else (none)))) else (none)))) else (none)))))))))) = some r := h
  clear h
  replace H := Option.bind_eq_some_iff.1 H
  obtain ⟨y248, hy2480, H⟩ := H
  try dsimp only at H
  have hy248 := Option.some.inj hy2480
  clear hy2480
  have Ny248 := Aside0.mk hy248
  clear hy248
  replace H := Option.bind_eq_some_iff.1 H
  obtain ⟨t249, Hc10, H⟩ := H
  try dsimp only at H
  have Hc1 := Aside0.mk Hc10
  clear Hc10
  replace H := Option.bind_eq_some_iff.1 H
  obtain ⟨t250, Hc20, H⟩ := H
  try dsimp only at H
  have Hc2 := Aside0.mk Hc20
  clear Hc20
  replace H := Option.bind_eq_some_iff.1 H
  obtain ⟨t251, Hc30, H⟩ := H
  try dsimp only at H
  have Hc3 := Aside0.mk Hc30
  clear Hc30
  replace H := Option.bind_eq_some_iff.1 H
  obtain ⟨t252, Hc40, H⟩ := H
  try dsimp only at H
  have Hc4 := Aside0.mk Hc40
  clear Hc40
  replace H := Option.bind_eq_some_iff.1 H
  obtain ⟨⟨t253, t254⟩, Hc50, H⟩ := H
  try dsimp only at H
  have Hc5 := Aside0.mk Hc50
  clear Hc50
  replace H := Option.bind_eq_some_iff.1 H
  obtain ⟨y255, hy2550, H⟩ := H
  try dsimp only at H
  have hy255 := Option.some.inj hy2550
  clear hy2550
  have Ny255 := Aside0.mk hy255
  clear hy255
  replace H := Option.bind_eq_some_iff.1 H
  obtain ⟨t256, Hc60, H⟩ := H
  try dsimp only at H
  have Hc6 := Aside0.mk Hc60
  clear Hc60
  by_cases c7 : t256 = true
  · subst c7
    rw [if_pos rfl] at H
    replace H := Option.bind_eq_some_iff.1 H
    obtain ⟨y257, hy2570, H⟩ := H
    try dsimp only at H
    have hy257 := Option.some.inj hy2570
    clear hy2570
    have Ny257 := Aside0.mk hy257
    clear hy257
    replace H := Option.bind_eq_some_iff.1 H
    obtain ⟨t258, Hc80, H⟩ := H
    try dsimp only at H
    have Hc8 := Aside0.mk Hc80
    clear Hc80
    by_cases c9 : t258 = true
    · subst c9
      rw [if_pos rfl] at H
      replace H := Option.bind_eq_some_iff.1 H
      obtain ⟨y259, hy2590, H⟩ := H
      try dsimp only at H
      have hy259 := Option.some.inj hy2590
      clear hy2590
      have Ny259 := Aside0.mk hy259
      clear hy259
      replace H := Option.bind_eq_some_iff.1 H
      obtain ⟨t260, Hc100, H⟩ := H
      try dsimp only at H
      have Hc10 := Aside0.mk Hc100
      clear Hc100
      by_cases c11 : t260 = true
      · subst c11
        rw [if_pos rfl] at H
        by_cases c12 : (t254.length : Int) = 0
        · rw [if_pos c12] at H
          have c12b0 : ((t254.length : Int) == 0) = true := beq_iff_eq.mpr c12
          have c12b1 : ((t254.length : Int) != 0) = false := bne_eq_false_iff_eq.mpr c12
          clear c12
          replace H := Option.bind_eq_some_iff.1 H
          obtain ⟨t261, Hc130, H⟩ := H
          try dsimp only at H
          have Hc13 := Aside0.mk Hc130
          clear Hc130
          by_cases c14 : t261 = true
          · subst c14
            rw [if_pos rfl] at H
            replace H := Option.bind_eq_some_iff.1 H
            obtain ⟨t262, Hc150, H⟩ := H
            try dsimp only at H
            have Hc15 := Aside0.mk Hc150
            clear Hc150
            by_cases c16 : t262 = true
            · subst c16
              rw [if_pos rfl] at H
              exact absurd H (by simp)
            · replace c16 := Bool.eq_false_iff.mpr c16
              subst c16
              rw [if_neg (show ¬ (false = true) by decide)] at H
              replace H := Option.bind_eq_some_iff.1 H
              obtain ⟨t263, Hc170, H⟩ := H
              try dsimp only at H
              have Hc17 := Aside0.mk Hc170
              clear Hc170
              replace H := Option.bind_eq_some_iff.1 H
              obtain ⟨t264, Hc180, H⟩ := H
              try dsimp only at H
              have Hc18 := Aside0.mk Hc180
              clear Hc180
              obtain rfl := Option.some.inj H
              go_enter Try.func7, Try.ntmps7
              go_wp2_with (first | ((with_reducible refine gate_dst (N := 8) rfl ?_); refine wpList_plain rfl (fun K_ hK_ => ?_); refine op_rowF (S := S) (d := k36) ⟨fun h_ => h_⟩ 36 y248 #[.int .i64 1, .int .i64 1, .int .i64 2, .int .i64 1] 2 (by rw [← Ny248.out]; exact reps_cons (k36_mkM _ 0 _ (⟨1, 1⟩ : S36)) rfl (reps_cons (k36_mkM _ 0 _ (⟨2, 1⟩ : S36)) rfl (Reps.none _ _))) (by rw [← Ny248.out]; rfl) (by decide) (HF.out.keep HK.out) HS.out (by first | (go_simp; done) | (go_simp; rfl)) ?_; intro Az3000027 cz3000027 w19 hs_ hk_; refine hK_ _ _ ?_; clear hK_ K_; replace HS := Aside0.mk ((show SL (row k36 36 (.slice Az3000027 2 cz3000027) y248 :: _) _ _ from hs_)); replace HK := Aside0.mk (HK.out.trans hk_)) | ((with_reducible refine gate_dst (N := 9) rfl ?_); refine goesL_ (some 9) rfl rfl Try.func18 (by kernel_rfl) rfl #[] rfl (by (try simp only [List.map_toArray, List.map_cons, List.map_nil]); first | done | rfl | (simp; done)) ?_; (with_reducible refine (barrowlaw24_at.calls _ _  Hc1.out).mono ?_); rintro e_ w20 ⟨v3000028_, rfl, ho3000028_, hb_⟩; refine ⟨_, rfl, ?_⟩; have hs_ := (SL.new (HF.out.keep HK.out) HS.out hb_ (row_of_R ho3000028_)).1; obtain ⟨Az3000028, cz3000028, e2_, _, _⟩ := SL.row_reads hs_; subst e2_; replace HS := Aside0.mk (hs_); replace HK := Aside0.mk (HK.out.trans (Keep.below hb_))) | ((with_reducible refine gate_dst (N := 11) rfl ?_); refine goesL_ (some 11) rfl rfl Try.func8 (by kernel_rfl) rfl #[.slice Az3000028 t249.length cz3000028, .slice Az3000027 2 cz3000027, .int .i64 1, .int .i64 3] rfl (by (try simp only [List.map_toArray, List.map_cons, List.map_nil]); first | done | rfl | (simp; done)) ?_; have el3000027_ := Aside0.mk (SL.row_c (SL.get1 HS.out)).1; refine calls_of_args (args' := #[.slice Az3000028 t249.length cz3000028, .slice Az3000027 y248.length cz3000027, .int .i64 1, .int .i64 3]) (by rw [← el3000027_.out]) ?_; have hs0_ := (SL.get1 (SL.get1 HS.out)); obtain ⟨U1_, hfU1_, hsub1_, hs1_, hro1_, hback1_⟩ := SL.lend (HF.out.keep HK.out) hs0_ (p := fun w_ => Kd.C k50 w_ Az3000028 t249.length t249) (fun w_ T_ h_ => (Qs_c h_).2.2); obtain ⟨U2_, hfU2_, hsub2_, hs2_, hro2_, hback2_⟩ := SL.lend hfU1_ hs1_ (p := fun w_ => Kd.C k36 w_ Az3000027 2 y248) (fun w_ T_ h_ => (Qs_c h_).2.2); (with_reducible refine (interest_Set.slcalls k _ _ _ _ _ _ _ _ _ _ _ _ hfU2_ hs2_ (RO.sub hro1_ (fun k_ h_ => hsub2_ k_ (h_))) (SL.row_c HS.out).2.1 (by rw [← el3000027_.out]; exact hro2_) (by rw [← el3000027_.out]; exact (SL.row_c (SL.get1 HS.out)).2.1) Hc2.out).mono ?_); rintro e_ w21 ⟨Az3000029, cz3000029, rfl, hsr_, hkr_⟩; refine ⟨_, rfl, ?_⟩; replace HS := Aside0.mk ((hback1_ _ _ (Keep.sub hkr_ (fun k_ h_ => hsub2_ k_ (h_))) (hback2_ _ _ hkr_ hsr_))); replace HK := Aside0.mk (HK.out.trans (Keep.sub hkr_ (fun k_ h_ => hsub1_ k_ (hsub2_ k_ h_))))) | ((with_reducible refine gate_dst (N := 12) rfl ?_); refine goesL_ (some 12) rfl rfl Try.func18 (by kernel_rfl) rfl #[] rfl (by (try simp only [List.map_toArray, List.map_cons, List.map_nil]); first | done | rfl | (simp; done)) ?_; (with_reducible refine (barrowlaw24_at.calls _ _  Hc3.out).mono ?_); rintro e_ w22 ⟨v3000030_, rfl, ho3000030_, hb_⟩; refine ⟨_, rfl, ?_⟩; have hs_ := (SL.new (HF.out.keep HK.out) HS.out hb_ (row_of_R ho3000030_)).1; obtain ⟨Az3000030, cz3000030, e2_, _, _⟩ := SL.row_reads hs_; subst e2_; replace HS := Aside0.mk (hs_); replace HK := Aside0.mk (HK.out.trans (Keep.below hb_))) | ((with_reducible refine gate_dst (N := 14) rfl ?_); refine goesL_ (some 14) rfl rfl Try.func8 (by kernel_rfl) rfl #[.slice Az3000030 t251.length cz3000030, .slice Az3000027 2 cz3000027, .int .i64 3, .int .i64 3] rfl (by (try simp only [List.map_toArray, List.map_cons, List.map_nil]); first | done | rfl | (simp; done)) ?_; have el3000027_ := Aside0.mk (SL.row_c (SL.get2 HS.out)).1; refine calls_of_args (args' := #[.slice Az3000030 t251.length cz3000030, .slice Az3000027 y248.length cz3000027, .int .i64 3, .int .i64 3]) (by rw [← el3000027_.out]) ?_; have hs0_ := (SL.get1 (SL.get2 HS.out)); obtain ⟨U1_, hfU1_, hsub1_, hs1_, hro1_, hback1_⟩ := SL.lend (HF.out.keep HK.out) hs0_ (p := fun w_ => Kd.C k50 w_ Az3000030 t251.length t251) (fun w_ T_ h_ => (Qs_c h_).2.2); obtain ⟨U2_, hfU2_, hsub2_, hs2_, hro2_, hback2_⟩ := SL.lend hfU1_ hs1_ (p := fun w_ => Kd.C k36 w_ Az3000027 2 y248) (fun w_ T_ h_ => (Qs_c h_).2.2); (with_reducible refine (interest_Set.slcalls k _ _ _ _ _ _ _ _ _ _ _ _ hfU2_ hs2_ (RO.sub hro1_ (fun k_ h_ => hsub2_ k_ (h_))) (SL.row_c HS.out).2.1 (by rw [← el3000027_.out]; exact hro2_) (by rw [← el3000027_.out]; exact (SL.row_c (SL.get2 HS.out)).2.1) Hc4.out).mono ?_); rintro e_ w23 ⟨Az3000031, cz3000031, rfl, hsr_, hkr_⟩; refine ⟨_, rfl, ?_⟩; replace HS := Aside0.mk ((hback1_ _ _ (Keep.sub hkr_ (fun k_ h_ => hsub2_ k_ (h_))) (hback2_ _ _ hkr_ hsr_))); replace HK := Aside0.mk (HK.out.trans (Keep.sub hkr_ (fun k_ h_ => hsub1_ k_ (hsub2_ k_ h_))))) | ((with_reducible refine gate_dst (N := 18) rfl ?_); refine goesL_ (some 18) rfl rfl Try.func13 (by kernel_rfl) rfl #[.slice Az3000029 t250.length cz3000029, .slice Az3000031 t252.length cz3000031] rfl (by (try simp only [List.map_toArray, List.map_cons, List.map_nil]); first | done | rfl | (simp; done)) ?_; have hs0_ := (SL.get4 (SL.get2 HS.out)); obtain ⟨U1_, hfU1_, hsub1_, hs1_, hro1_, hback1_⟩ := SL.lend (HF.out.keep HK.out) hs0_ (p := fun w_ => Kd.C (Kd.int .i64) w_ Az3000029 t250.length t250) (fun w_ T_ h_ => (Qs_c h_).2.2); obtain ⟨U2_, hfU2_, hsub2_, hs2_, hro2_, hback2_⟩ := SL.lend hfU1_ hs1_ (p := fun w_ => Kd.C (Kd.int .i64) w_ Az3000031 t252.length t252) (fun w_ T_ h_ => (Qs_c h_).2.2); (with_reducible refine (interest_Change.slcalls k _ _ _ _ _ _ _ _ _ _ _ hfU2_ hs2_ (RO.sub hro1_ (fun k_ h_ => hsub2_ k_ (h_))) (SL.row_c (SL.get4 HS.out)).2.1 hro2_ (SL.row_c (SL.get2 HS.out)).2.1 Hc5.out).mono ?_); rintro e_ w24 ⟨Az3000032, cz3000032, Az3000033, cz3000033, rfl, hsr_, hkr_⟩; refine ⟨_, rfl, ?_⟩; replace HS := Aside0.mk ((hback1_ _ _ (Keep.sub hkr_ (fun k_ h_ => hsub2_ k_ (h_))) (hback2_ _ _ hkr_ hsr_))); replace HK := Aside0.mk (HK.out.trans (Keep.sub hkr_ (fun k_ h_ => hsub1_ k_ (hsub2_ k_ h_))))) | ((with_reducible refine gate_dst (N := 22) rfl ?_); refine wpList_plain rfl (fun K_ hK_ => ?_); refine op_row (S := S) (enc := Value.int .i64) (h1 := fun _ => rfl) 3 y255 #[.int .i64 1, .int .i64 2, .int .i64 3] 3 (by rw [← Ny255.out]; rfl) (by rw [← Ny255.out]; rfl) (by decide) (HF.out.keep HK.out) HS.out (by first | (go_simp; done) | (go_simp; rfl)) ?_; intro Az3000034 cz3000034 w25 hs_ hk_; refine hK_ _ _ ?_; clear hK_ K_; replace HS := Aside0.mk ((show SL (row (Kd.int .i64) 3 (.slice Az3000034 3 cz3000034) y255 :: _) _ _ from hs_)); replace HK := Aside0.mk (HK.out.trans hk_)) | ((with_reducible refine gate_dst (N := 23) rfl ?_); refine goesL_ (some 23) rfl rfl Try.func9 (by kernel_rfl) rfl #[.slice Az3000029 t250.length cz3000029, .slice Az3000034 3 cz3000034] rfl (by (try simp only [List.map_toArray, List.map_cons, List.map_nil]); first | done | rfl | (simp; done)) ?_; have el3000034_ := Aside0.mk (SL.row_c HS.out).1; refine calls_of_args (args' := #[.slice Az3000029 t250.length cz3000029, .slice Az3000034 y255.length cz3000034]) (by rw [← el3000034_.out]) ?_; (with_reducible refine (barrowref02_Same.calls k _ _ _ _ _ _ _ _ (SL.row_c (SL.get1 HS.out)).2.2 (SL.row_c (SL.get1 HS.out)).2.1 (by have e_ := (SL.row_c HS.out).1; have h_ := (SL.row_c HS.out).2.2; rw [e_] at h_; exact h_) (by have e_ := (SL.row_c HS.out).1; have h_ := (SL.row_c HS.out).2.1; omega) Hc6.out).mono ?_); rintro e_ w26 ⟨rfl, hb_⟩; refine ⟨_, rfl, ?_⟩; replace hb_ := Drawn0.below hb_; replace HS := Aside0.mk (HS.out.below hb_); replace HK := Aside0.mk (HK.out.trans (Keep.below hb_))) | ((with_reducible refine gate_dst (N := 26) rfl ?_); (try (refine gate_guard (by rfl) ?_; dsimp only)); refine wpList_plain rfl (fun K_ hK_ => ?_); refine op_row (S := S) (enc := Value.int .i64) (h1 := fun _ => rfl) 3 y257 #[.int .i64 1, .int .i64 3] 2 (by rw [← Ny257.out]; rfl) (by rw [← Ny257.out]; rfl) (by decide) (HF.out.keep HK.out) HS.out (by first | (go_simp; done) | (go_simp; rfl)) ?_; intro Az3000035 cz3000035 w27 hs_ hk_; refine hK_ _ _ ?_; clear hK_ K_; replace HS := Aside0.mk ((show SL (row (Kd.int .i64) 3 (.slice Az3000035 2 cz3000035) y257 :: _) _ _ from hs_)); replace HK := Aside0.mk (HK.out.trans hk_)) | ((with_reducible refine gate_dst (N := 27) rfl ?_); (try (refine gate_guard (by rfl) ?_; dsimp only)); refine goesL_ (some 27) rfl rfl Try.func9 (by kernel_rfl) rfl #[.slice Az3000031 t252.length cz3000031, .slice Az3000035 2 cz3000035] rfl (by (try simp only [List.map_toArray, List.map_cons, List.map_nil]); first | done | rfl | (simp; done)) ?_; have el3000035_ := Aside0.mk (SL.row_c HS.out).1; refine calls_of_args (args' := #[.slice Az3000031 t252.length cz3000031, .slice Az3000035 y257.length cz3000035]) (by rw [← el3000035_.out]) ?_; (with_reducible refine (barrowref02_Same.calls k _ _ _ _ _ _ _ _ (SL.row_c (SL.get3 HS.out)).2.2 (SL.row_c (SL.get3 HS.out)).2.1 (by have e_ := (SL.row_c HS.out).1; have h_ := (SL.row_c HS.out).2.2; rw [e_] at h_; exact h_) (by have e_ := (SL.row_c HS.out).1; have h_ := (SL.row_c HS.out).2.1; omega) Hc8.out).mono ?_); rintro e_ w28 ⟨rfl, hb_⟩; refine ⟨_, rfl, ?_⟩; replace hb_ := Drawn0.below hb_; replace HS := Aside0.mk (HS.out.below hb_); replace HK := Aside0.mk (HK.out.trans (Keep.below hb_))) | ((with_reducible refine gate_dst (N := 31) rfl ?_); (try (refine gate_guard (by rfl) ?_; dsimp only)); refine wpList_plain rfl (fun K_ hK_ => ?_); refine op_row (S := S) (enc := Value.int .i64) (h1 := fun _ => rfl) 3 y259 #[.int .i64 2] 1 (by rw [← Ny259.out]; rfl) (by rw [← Ny259.out]; rfl) (by decide) (HF.out.keep HK.out) HS.out (by first | (go_simp; done) | (go_simp; rfl)) ?_; intro Az3000036 cz3000036 w29 hs_ hk_; refine hK_ _ _ ?_; clear hK_ K_; replace HS := Aside0.mk ((show SL (row (Kd.int .i64) 3 (.slice Az3000036 1 cz3000036) y259 :: _) _ _ from hs_)); replace HK := Aside0.mk (HK.out.trans hk_)) | ((with_reducible refine gate_dst (N := 32) rfl ?_); (try (refine gate_guard (by rfl) ?_; dsimp only)); refine goesL_ (some 32) rfl rfl Try.func9 (by kernel_rfl) rfl #[.slice Az3000032 t253.length cz3000032, .slice Az3000036 1 cz3000036] rfl (by (try simp only [List.map_toArray, List.map_cons, List.map_nil]); first | done | rfl | (simp; done)) ?_; have el3000036_ := Aside0.mk (SL.row_c HS.out).1; refine calls_of_args (args' := #[.slice Az3000032 t253.length cz3000032, .slice Az3000036 y259.length cz3000036]) (by rw [← el3000036_.out]) ?_; (with_reducible refine (barrowref02_Same.calls k _ _ _ _ _ _ _ _ (SL.row_c (SL.get5 HS.out)).2.2 (SL.row_c (SL.get5 HS.out)).2.1 (by have e_ := (SL.row_c HS.out).1; have h_ := (SL.row_c HS.out).2.2; rw [e_] at h_; exact h_) (by have e_ := (SL.row_c HS.out).1; have h_ := (SL.row_c HS.out).2.1; omega) Hc10.out).mono ?_); rintro e_ w30 ⟨rfl, hb_⟩; refine ⟨_, rfl, ?_⟩; replace hb_ := Drawn0.below hb_; replace HS := Aside0.mk (HS.out.below hb_); replace HK := Aside0.mk (HK.out.trans (Keep.below hb_))) | ((with_reducible refine gate_dst (N := 41) rfl ?_); (try (refine gate_guard (by rfl) ?_; dsimp only)); refine goesL_ (some 41) rfl rfl Try.func15 (by kernel_rfl) rfl #[.slice Az3000031 t252.length cz3000031, .int .i64 0, .int .i64 3] rfl (by (try simp only [List.map_toArray, List.map_cons, List.map_nil]); first | done | rfl | (simp; done)) ?_; (with_reducible refine (interest_Hears.calls k _ _ _ _ _ _ _ (SL.row_c (SL.get4 HS.out)).2.2 (SL.row_c (SL.get4 HS.out)).2.1 Hc13.out).mono ?_); rintro e_ w31 ⟨rfl, hb_⟩; refine ⟨_, rfl, ?_⟩; replace hb_ := Drawn0.below hb_; replace HS := Aside0.mk (HS.out.below hb_); replace HK := Aside0.mk (HK.out.trans (Keep.below hb_))) | ((with_reducible refine gate_dst (N := 45) rfl ?_); (try (refine gate_guard (by rfl) ?_; dsimp only)); refine goesL_ (some 45) rfl rfl Try.func15 (by kernel_rfl) rfl #[.slice Az3000031 t252.length cz3000031, .int .i64 2, .int .i64 0] rfl (by (try simp only [List.map_toArray, List.map_cons, List.map_nil]); first | done | rfl | (simp; done)) ?_; (with_reducible refine (interest_Hears.calls k _ _ _ _ _ _ _ (SL.row_c (SL.get4 HS.out)).2.2 (SL.row_c (SL.get4 HS.out)).2.1 Hc15.out).mono ?_); rintro e_ w32 ⟨rfl, hb_⟩; refine ⟨_, rfl, ?_⟩; replace hb_ := Drawn0.below hb_; replace HS := Aside0.mk (HS.out.below hb_); replace HK := Aside0.mk (HK.out.trans (Keep.below hb_))) | ((with_reducible refine gate_dst (N := 49) rfl ?_); (try (refine gate_guard (by rfl) ?_; dsimp only)); refine goesL_ (some 49) rfl rfl Try.func18 (by kernel_rfl) rfl #[] rfl (by (try simp only [List.map_toArray, List.map_cons, List.map_nil]); first | done | rfl | (simp; done)) ?_; (with_reducible refine (barrowlaw24_at.calls _ _  Hc17.out).mono ?_); rintro e_ w33 ⟨v3000037_, rfl, ho3000037_, hb_⟩; refine ⟨_, rfl, ?_⟩; have hs_ := (SL.new (HF.out.keep HK.out) HS.out hb_ (row_of_R ho3000037_)).1; obtain ⟨Az3000037, cz3000037, e2_, _, _⟩ := SL.row_reads hs_; subst e2_; replace HS := Aside0.mk (hs_); replace HK := Aside0.mk (HK.out.trans (Keep.below hb_))) | ((with_reducible refine gate_dst (N := 50) rfl ?_); (try (refine gate_guard (by rfl) ?_; dsimp only)); refine goesL_ (some 50) rfl rfl Try.func11 (by kernel_rfl) rfl #[.slice Az3000037 t263.length cz3000037, .int .i64 1, .int .i64 3, .int .i64 2] rfl (by (try simp only [List.map_toArray, List.map_cons, List.map_nil]); first | done | rfl | (simp; done)) ?_; (with_reducible refine (interest_Mutual.calls k _ _ _ _ _ _ _ _ (SL.row_c HS.out).2.2 (SL.row_c HS.out).2.1 Hc18.out).mono ?_); rintro e_ w34 ⟨rfl, hb_⟩; refine ⟨_, rfl, ?_⟩; replace HS := Aside0.mk (HS.out.below hb_); replace HK := Aside0.mk (HK.out.trans (Keep.below hb_))))
              go_ret
              replace HS := Aside0.mk (SL.tail (SL.tail (SL.tail (SL.tail (SL.tail (SL.tail (SL.tail (SL.tail (SL.tail (SL.tail (SL.tail HS.out)))))))))))
              unfold barrowlaw24_small.Post
              exact ⟨by first | rfl | (simp; done) | (simp [*]; done) | (simp at c12b0 ⊢; first | exact c12b0 | (simp [c12b0]; done)), HS.out, HK.out⟩
          · replace c14 := Bool.eq_false_iff.mpr c14
            subst c14
            rw [if_neg (show ¬ (false = true) by decide)] at H
            exact absurd H (by simp)
        · rw [if_neg c12] at H
          exact absurd H (by simp)
      · replace c11 := Bool.eq_false_iff.mpr c11
        subst c11
        rw [if_neg (show ¬ (false = true) by decide)] at H
        exact absurd H (by simp)
    · replace c9 := Bool.eq_false_iff.mpr c9
      subst c9
      rw [if_neg (show ¬ (false = true) by decide)] at H
      exact absurd H (by simp)
  · replace c7 := Bool.eq_false_iff.mpr c7
    subst c7
    rw [if_neg (show ¬ (false = true) by decide)] at H
    exact absurd H (by simp)
theorem barrowlaw24_small.calls (k : Nat)  (r : Bool) (w : World) (h : barrowlaw24_small.f k  = some r) :
    Calls Try.prog 7 #[] w fun e w' => e = .returned (.bool r) ∧ Below w.heap.size w w' :=
  (barrowlaw24_small.slcalls k  r (news w) [] w (fresh_news w) trivial h).mono fun _ _ h => ⟨h.1, h.2.2.to_below⟩

end Go.Proofs.Ytgcbmhihiacgnaa.XIN
