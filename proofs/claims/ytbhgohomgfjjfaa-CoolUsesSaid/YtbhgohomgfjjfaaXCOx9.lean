-- Written by xprint.py (a program of this session) for this claim
import Derived.Test.YtbhgohomgfjjfaaSL5
import Derived.Test.YtbhgohomgfjjfaaXCOx0
import Derived.Test.YtbhgohomgfjjfaaXCOx1
import Derived.Test.YtbhgohomgfjjfaaXCOx2
import Derived.Test.YtbhgohomgfjjfaaXCOx3
import Derived.Test.YtbhgohomgfjjfaaXCOx4
import Derived.Test.YtbhgohomgfjjfaaXCOx6
import Derived.Test.YtbhgohomgfjjfaaXCOx7
import Derived.Test.YtbhgohomgfjjfaaXCOx8
namespace Go.Proofs.Ytbhgohomgfjjfaa.XCO
open Go.Proofs.YtbhgohomgfjjfaaV Go.Proofs.YtbhgohomgfjjfaaS
open Go.RowKit Go.Proofs.YtbhgohomgfjjfaaW.PrintWords Go.Proofs.YtbhgohomgfjjfaaW.PrintLast Go.Proofs.YtbhgohomgfjjfaaW.PrintMore
attribute [local go_sem] max2_int min2_int max_two min_two max_three min_three max_four min_four   -- for this text's walks alone
set_option linter.unusedVariables false
set_option linter.unusedSimpArgs false

/-! ### barrowlaw16_small: function 7 -/
def barrowlaw16_small.f (k : Nat)  : Option (Bool) := (cool_Use.f k ([] : List (S35)) 1 0 10 2 0 0 false ([] : List (S76)) 0).bind fun bt334 => ((cool_Use.f k bt334.1 1 0 10 2 0 0 false ([] : List (S76)) 3).bind fun bt336 => ((cool_Use.f k bt336.1 1 0 10 2 0 0 false ([] : List (S76)) 5).bind fun bt338 => (if bt334.2 = true then (if bt336.2 = true then (if bt338.2 = true then (none) else ((some (([10, 20] : List Int) : List Int)).bind fun y340 => ((some (([(⟨1, y340⟩ : S35)] : List (S35)) : List (S35))).bind fun y341 => ((barrowref16_Same.f k bt336.1 y341).bind fun t342 => (if t342 = true then ((cool_Ready.f k bt336.1 1 0 10 2 0 0 false ([] : List (S76)) 5).bind fun t343 => (if t343 = 0 then ((cool_Ready.f k bt336.1 1 0 10 2 0 0 false ([] : List (S76)) 10).bind fun t344 => (if t344 = 1 then ((cool_Next.f k bt336.1 1 0 10 2 0 0 false ([] : List (S76)) 5).bind fun t345 => (if t345 = 10 then ((cool_Right.f k bt336.1).bind fun t346 => (if t346 = true then ((cool_Clean.f k bt336.1 20).bind fun t347 => (if (t347.length : Int) = 0 then ((cool_Reset.f k bt336.1 1).bind fun t348 => (if (t348.length : Int) = 0 then (some true) else (none))) else (none))) else (none))) else (none))) else (none))) else (none))) else (none)))))) else (none)) else (none))))
theorem barrowlaw16_small.mono : ∀ k, LeO (barrowlaw16_small.f k ) (barrowlaw16_small.f (k + 1) ) := by
  intro  k
  unfold barrowlaw16_small.f
  repeat' first
      | (with_reducible exact barrowref16_Same.mono _ _ _)
      | (with_reducible exact cool_Clean.mono _ _ _)
      | (with_reducible exact cool_Next.mono _ _ _ _ _ _ _ _ _ _ _)
      | (with_reducible exact cool_Ready.mono _ _ _ _ _ _ _ _ _ _ _)
      | (with_reducible exact cool_Reset.mono _ _ _)
      | (with_reducible exact cool_Right.mono _ _)
      | (with_reducible exact cool_Use.mono _ _ _ _ _ _ _ _ _ _ _)
      | (with_reducible exact LeO.refl _)
      | (with_reducible exact LeO.none _)
      | (with_reducible refine LeO.ite ?_ ?_)
      | (with_reducible refine everyOf_le (fun _ => ?_))
      | (with_reducible refine LeO.bind ?_ (fun _ => ?_))
      | exact barrowref16_Same.mono _ _ _
      | exact cool_Clean.mono _ _ _
      | exact cool_Next.mono _ _ _ _ _ _ _ _ _ _ _
      | exact cool_Ready.mono _ _ _ _ _ _ _ _ _ _ _
      | exact cool_Reset.mono _ _ _
      | exact cool_Right.mono _ _
      | exact cool_Use.mono _ _ _ _ _ _ _ _ _ _ _
      | exact LeO.none _
      | refine LeO.ite ?_ ?_
      | refine LeO.bind ?_ (fun _ => ?_)
def barrowlaw16_small.Post (r : Bool) (S : Nat → Prop) (L : List Asr) (w : World) (e : Ending) (w' : World) : Prop := e = .returned (.bool r) ∧ SL (L) w' S ∧ Keep S w w'
set_option maxHeartbeats 8000000 in
set_option maxRecDepth 100000 in
theorem barrowlaw16_small.slcalls (k : Nat)  (r : Bool) (S : Nat → Prop) (L : List Asr) (w : World) (hf : Fresh S w) (hs : SL (L) w S) (h : barrowlaw16_small.f k  = some r) :
    Calls Try.prog 7 #[] w (barrowlaw16_small.Post r S L w) := by
  have HF := Aside0.mk hf
  have HS := Aside0.mk hs
  have HK := Aside0.mk (Keep.refl S w)
  clear hf hs
  have hu25 := Try.underlying25
  have hu35 := Try.underlying35
  have H : ((cool_Use.f k ([] : List (S35)) 1 0 10 2 0 0 false ([] : List (S76)) 0).bind fun bt334 => ((cool_Use.f k bt334.1 1 0 10 2 0 0 false ([] : List (S76)) 3).bind fun bt336 => ((cool_Use.f k bt336.1 1 0 10 2 0 0 false ([] : List (S76)) 5).bind fun bt338 => (if bt334.2 = true then (if bt336.2 = true then (if bt338.2 = true then (none) else ((some (([10, 20] : List Int) : List Int)).bind fun y340 => ((some (([(⟨1, y340⟩ : S35)] : List (S35)) : List (S35))).bind fun y341 => ((barrowref16_Same.f k bt336.1 y341).bind fun t342 => (if t342 = true then ((cool_Ready.f k bt336.1 1 0 10 2 0 0 false ([] : List (S76)) 5).bind fun t343 => (if t343 = 0 then ((cool_Ready.f k bt336.1 1 0 10 2 0 0 false ([] : List (S76)) 10).bind fun t344 => (if t344 = 1 then ((cool_Next.f k bt336.1 1 0 10 2 0 0 false ([] : List (S76)) 5).bind fun t345 => (if t345 = 10 then ((cool_Right.f k bt336.1).bind fun t346 => (if t346 = true then ((cool_Clean.f k bt336.1 20).bind fun t347 => (if (t347.length : Int) = 0 then ((cool_Reset.f k bt336.1 1).bind fun t348 => (if (t348.length : Int) = 0 then (some true) else (none))) else (none))) else (none))) else (none))) else (none))) else (none))) else (none)))))) else (none)) else (none))))) = some r := h
  clear h
  replace H := Option.bind_eq_some_iff.1 H
  obtain ⟨⟨t334, t335⟩, Hc10, H⟩ := H
  try dsimp only at H
  have Hc1 := Aside0.mk Hc10
  clear Hc10
  replace H := Option.bind_eq_some_iff.1 H
  obtain ⟨⟨t336, t337⟩, Hc20, H⟩ := H
  try dsimp only at H
  have Hc2 := Aside0.mk Hc20
  clear Hc20
  replace H := Option.bind_eq_some_iff.1 H
  obtain ⟨⟨t338, t339⟩, Hc30, H⟩ := H
  try dsimp only at H
  have Hc3 := Aside0.mk Hc30
  clear Hc30
  by_cases c4 : t335 = true
  · subst c4
    rw [if_pos rfl] at H
    by_cases c5 : t337 = true
    · subst c5
      rw [if_pos rfl] at H
      by_cases c6 : t339 = true
      · subst c6
        rw [if_pos rfl] at H
        exact absurd H (by simp)
      · replace c6 := Bool.eq_false_iff.mpr c6
        subst c6
        rw [if_neg (show ¬ (false = true) by decide)] at H
        replace H := Option.bind_eq_some_iff.1 H
        obtain ⟨y340, hy3400, H⟩ := H
        try dsimp only at H
        have hy340 := Option.some.inj hy3400
        clear hy3400
        have Ny340 := Aside0.mk hy340
        clear hy340
        replace H := Option.bind_eq_some_iff.1 H
        obtain ⟨y341, hy3410, H⟩ := H
        try dsimp only at H
        have hy341 := Option.some.inj hy3410
        clear hy3410
        have Ny341 := Aside0.mk hy341
        clear hy341
        replace H := Option.bind_eq_some_iff.1 H
        obtain ⟨t342, Hc70, H⟩ := H
        try dsimp only at H
        have Hc7 := Aside0.mk Hc70
        clear Hc70
        by_cases c8 : t342 = true
        · subst c8
          rw [if_pos rfl] at H
          replace H := Option.bind_eq_some_iff.1 H
          obtain ⟨t343, Hc90, H⟩ := H
          try dsimp only at H
          have Hc9 := Aside0.mk Hc90
          clear Hc90
          by_cases c10 : t343 = 0
          · rw [if_pos c10] at H
            have c10b0 : (t343 == 0) = true := beq_iff_eq.mpr c10
            have c10b1 : (t343 != 0) = false := bne_eq_false_iff_eq.mpr c10
            clear c10
            replace H := Option.bind_eq_some_iff.1 H
            obtain ⟨t344, Hc110, H⟩ := H
            try dsimp only at H
            have Hc11 := Aside0.mk Hc110
            clear Hc110
            by_cases c12 : t344 = 1
            · rw [if_pos c12] at H
              have c12b0 : (t344 == 1) = true := beq_iff_eq.mpr c12
              have c12b1 : (t344 != 1) = false := bne_eq_false_iff_eq.mpr c12
              clear c12
              replace H := Option.bind_eq_some_iff.1 H
              obtain ⟨t345, Hc130, H⟩ := H
              try dsimp only at H
              have Hc13 := Aside0.mk Hc130
              clear Hc130
              by_cases c14 : t345 = 10
              · rw [if_pos c14] at H
                have c14b0 : (t345 == 10) = true := beq_iff_eq.mpr c14
                have c14b1 : (t345 != 10) = false := bne_eq_false_iff_eq.mpr c14
                clear c14
                replace H := Option.bind_eq_some_iff.1 H
                obtain ⟨t346, Hc150, H⟩ := H
                try dsimp only at H
                have Hc15 := Aside0.mk Hc150
                clear Hc150
                by_cases c16 : t346 = true
                · subst c16
                  rw [if_pos rfl] at H
                  replace H := Option.bind_eq_some_iff.1 H
                  obtain ⟨t347, Hc170, H⟩ := H
                  try dsimp only at H
                  have Hc17 := Aside0.mk Hc170
                  clear Hc170
                  by_cases c18 : (t347.length : Int) = 0
                  · rw [if_pos c18] at H
                    have c18b0 : ((t347.length : Int) == 0) = true := beq_iff_eq.mpr c18
                    have c18b1 : ((t347.length : Int) != 0) = false := bne_eq_false_iff_eq.mpr c18
                    clear c18
                    replace H := Option.bind_eq_some_iff.1 H
                    obtain ⟨t348, Hc190, H⟩ := H
                    try dsimp only at H
                    have Hc19 := Aside0.mk Hc190
                    clear Hc190
                    by_cases c20 : (t348.length : Int) = 0
                    · rw [if_pos c20] at H
                      have c20b0 : ((t348.length : Int) == 0) = true := beq_iff_eq.mpr c20
                      have c20b1 : ((t348.length : Int) != 0) = false := bne_eq_false_iff_eq.mpr c20
                      clear c20
                      obtain rfl := Option.some.inj H
                      go_enter Try.func7, Try.ntmps7
                      go_wp2_with (first | ((with_reducible refine gate_dst (N := 1) rfl ?_); refine wpList_plain rfl (fun K_ hK_ => ?_); refine op_box (S := S) (cs := #[.int .i64 0, .int .i64 0, .int .i64 0, .int .i64 0, .int .i64 0, .int .i64 0, .bool false, .slice none 0 0]) (t := 25) (HF.out.keep HK.out) HS.out (by first | (go_simp; done) | (go_simp; rfl)) ?_; intro g3000024 w21 hs_ hk_; refine hK_ _ _ ?_; clear hK_ K_; replace HS := Aside0.mk (hs_); replace HK := Aside0.mk (HK.out.trans hk_)) | ((with_reducible refine gate_store (t := 25) (p := 1) (v := (.tmp 8)) rfl ?_); refine wpList_plain rfl (fun K_ hK_ => ?_); refine op_store (S := S) 25 (.tmp 1) (.tmp 8) rfl g3000024 0 (.agg #[.int .i64 1, .int .i64 0, .int .i64 10, .int .i64 2, .int .i64 0, .int .i64 0, .bool false, .slice none 0 0]) [.int .i64 1, .int .i64 0, .int .i64 10, .int .i64 2, .int .i64 0, .int .i64 0, .bool false, .slice none 0 0] rfl rfl rfl (by kernel_rfl) (by simp [Value.oneCell']) HS.out (by simp) ?_; intro w22 hs_ hk_; refine hK_ _ _ ?_; clear hK_ K_; replace HS := Aside0.mk ((show SL (cells g3000024 25 [.int .i64 1, .int .i64 0, .int .i64 10, .int .i64 2, .int .i64 0, .int .i64 0, .bool false, .slice none 0 0].toArray :: _) _ _ from hs_)); replace HK := Aside0.mk (HK.out.trans hk_); have hb_ := SL.at_ HS.out; have hz3000024_0_2 := ((blk_cell hb_ 0).trans rfl : _ = some (.int .i64 1)); have hz3000024_1_2 := ((blk_cell hb_ 1).trans rfl : _ = some (.int .i64 0)); have hz3000024_2_2 := ((blk_cell hb_ 2).trans rfl : _ = some (.int .i64 10)); have hz3000024_3_2 := ((blk_cell hb_ 3).trans rfl : _ = some (.int .i64 2)); have hz3000024_4_2 := ((blk_cell hb_ 4).trans rfl : _ = some (.int .i64 0)); have hz3000024_5_2 := ((blk_cell hb_ 5).trans rfl : _ = some (.int .i64 0)); have hz3000024_6_2 := ((blk_cell hb_ 6).trans rfl : _ = some (.bool false)); have hz3000024_7_2 := ((blk_cell hb_ 7).trans rfl : _ = some (.slice none 0 0)); clear hb_) | ((with_reducible refine gate_dst (N := 11) rfl ?_); refine goesL_ (some 11) rfl rfl Try.func10 (by kernel_rfl) rfl #[.slice none 0 0, .agg #[.int .i64 1, .int .i64 0, .int .i64 10, .int .i64 2, .int .i64 0, .int .i64 0, .bool false, .slice none 0 0], .int .i64 0] rfl (by (try simp only [List.map_toArray, List.map_cons, List.map_nil]); first | done | rfl | (simp; done)) ?_; have hs0_ := HS.out; (refine (cool_Use.slcalls k _ _ _ _ _ _ _ _ _ _ _ _ _ _ _ _ _ _ _ (HF.out.keep HK.out) hs0_ (fun w_ _ => Kd.C_nil _ _) (Nat.le_refl _) (fun w_ _ => Kd.C_nil _ _) (Nat.le_refl _) Hc1.out).mono ?_); rintro e_ w23 ⟨Az3000025, cz3000025, rfl, hsr_, hkr_⟩; refine ⟨_, rfl, ?_⟩; replace HS := Aside0.mk (hsr_); replace HK := Aside0.mk (HK.out.trans hkr_); (try clear hz3000024_0_2 hz3000024_1_2 hz3000024_2_2 hz3000024_3_2 hz3000024_4_2 hz3000024_5_2 hz3000024_6_2 hz3000024_7_2); have hb_ := SL.at_ (SL.get1 HS.out); have hz3000024_0_3 := ((blk_cell hb_ 0).trans rfl : _ = some (.int .i64 1)); have hz3000024_1_3 := ((blk_cell hb_ 1).trans rfl : _ = some (.int .i64 0)); have hz3000024_2_3 := ((blk_cell hb_ 2).trans rfl : _ = some (.int .i64 10)); have hz3000024_3_3 := ((blk_cell hb_ 3).trans rfl : _ = some (.int .i64 2)); have hz3000024_4_3 := ((blk_cell hb_ 4).trans rfl : _ = some (.int .i64 0)); have hz3000024_5_3 := ((blk_cell hb_ 5).trans rfl : _ = some (.int .i64 0)); have hz3000024_6_3 := ((blk_cell hb_ 6).trans rfl : _ = some (.bool false)); have hz3000024_7_3 := ((blk_cell hb_ 7).trans rfl : _ = some (.slice none 0 0)); clear hb_) | ((with_reducible refine gate_dst (N := 17) rfl ?_); refine goesL_ (some 17) rfl rfl Try.func10 (by kernel_rfl) rfl #[.slice Az3000025 t334.length cz3000025, .agg #[.int .i64 1, .int .i64 0, .int .i64 10, .int .i64 2, .int .i64 0, .int .i64 0, .bool false, .slice none 0 0], .int .i64 3] rfl (by (try simp only [List.map_toArray, List.map_cons, List.map_nil]); first | done | rfl | (simp; done)) ?_; have hs0_ := HS.out; obtain ⟨U1_, hfU1_, hsub1_, hs1_, hro1_, hback1_⟩ := SL.lend (HF.out.keep HK.out) hs0_ (p := fun w_ => Kd.C k35 w_ Az3000025 t334.length t334) (fun w_ T_ h_ => rows_h (d := k35) reads_inn35 sz35 h_); (refine (cool_Use.slcalls k _ _ _ _ _ _ _ _ _ _ _ _ _ _ _ _ _ _ _ hfU1_ hs1_ hro1_ (rows_c (d := k35) reads_inn35 sz35 HS.out).2.1 (fun w_ _ => Kd.C_nil _ _) (Nat.le_refl _) Hc2.out).mono ?_); rintro e_ w24 ⟨Az3000026, cz3000026, rfl, hsr_, hkr_⟩; refine ⟨_, rfl, ?_⟩; replace HS := Aside0.mk ((hback1_ _ _ hkr_ hsr_)); replace HK := Aside0.mk (HK.out.trans (Keep.sub hkr_ (fun k_ h_ => hsub1_ k_ h_))); (try clear hz3000024_0_3 hz3000024_1_3 hz3000024_2_3 hz3000024_3_3 hz3000024_4_3 hz3000024_5_3 hz3000024_6_3 hz3000024_7_3); have hb_ := SL.at_ (SL.get2 HS.out); have hz3000024_0_4 := ((blk_cell hb_ 0).trans rfl : _ = some (.int .i64 1)); have hz3000024_1_4 := ((blk_cell hb_ 1).trans rfl : _ = some (.int .i64 0)); have hz3000024_2_4 := ((blk_cell hb_ 2).trans rfl : _ = some (.int .i64 10)); have hz3000024_3_4 := ((blk_cell hb_ 3).trans rfl : _ = some (.int .i64 2)); have hz3000024_4_4 := ((blk_cell hb_ 4).trans rfl : _ = some (.int .i64 0)); have hz3000024_5_4 := ((blk_cell hb_ 5).trans rfl : _ = some (.int .i64 0)); have hz3000024_6_4 := ((blk_cell hb_ 6).trans rfl : _ = some (.bool false)); have hz3000024_7_4 := ((blk_cell hb_ 7).trans rfl : _ = some (.slice none 0 0)); clear hb_) | ((with_reducible refine gate_dst (N := 23) rfl ?_); refine goesL_ (some 23) rfl rfl Try.func10 (by kernel_rfl) rfl #[.slice Az3000026 t336.length cz3000026, .agg #[.int .i64 1, .int .i64 0, .int .i64 10, .int .i64 2, .int .i64 0, .int .i64 0, .bool false, .slice none 0 0], .int .i64 5] rfl (by (try simp only [List.map_toArray, List.map_cons, List.map_nil]); first | done | rfl | (simp; done)) ?_; have hs0_ := (SL.get1 HS.out); obtain ⟨U1_, hfU1_, hsub1_, hs1_, hro1_, hback1_⟩ := SL.lend (HF.out.keep HK.out) hs0_ (p := fun w_ => Kd.C k35 w_ Az3000026 t336.length t336) (fun w_ T_ h_ => rows_h (d := k35) reads_inn35 sz35 h_); (refine (cool_Use.slcalls k _ _ _ _ _ _ _ _ _ _ _ _ _ _ _ _ _ _ _ hfU1_ hs1_ hro1_ (rows_c (d := k35) reads_inn35 sz35 (SL.get1 HS.out)).2.1 (fun w_ _ => Kd.C_nil _ _) (Nat.le_refl _) Hc3.out).mono ?_); rintro e_ w25 ⟨Az3000027, cz3000027, rfl, hsr_, hkr_⟩; refine ⟨_, rfl, ?_⟩; replace HS := Aside0.mk ((hback1_ _ _ hkr_ hsr_)); replace HK := Aside0.mk (HK.out.trans (Keep.sub hkr_ (fun k_ h_ => hsub1_ k_ h_))); (try clear hz3000024_0_4 hz3000024_1_4 hz3000024_2_4 hz3000024_3_4 hz3000024_4_4 hz3000024_5_4 hz3000024_6_4 hz3000024_7_4)) | ((with_reducible refine gate_dst (N := 36) rfl ?_); (try (refine gate_guard (by rfl) ?_; dsimp only)); refine wpList_plain rfl (fun K_ hK_ => ?_); refine op_row (S := S) (enc := Value.int .i64) (h1 := fun _ => rfl) 3 y340 #[.int .i64 10, .int .i64 20] 2 (by rw [← Ny340.out]; rfl) (by rw [← Ny340.out]; rfl) (by decide) (HF.out.keep HK.out) HS.out (by first | (go_simp; done) | (go_simp; rfl)) ?_; intro Az3000028 cz3000028 w26 hs_ hk_; refine hK_ _ _ ?_; clear hK_ K_; replace HS := Aside0.mk ((show SL (row (Kd.int .i64) 3 (.slice Az3000028 2 cz3000028) y340 :: _) _ _ from hs_)); replace HK := Aside0.mk (HK.out.trans hk_)) | ((with_reducible refine gate_dst (N := 38) rfl ?_); (try (refine gate_guard (by rfl) ?_; dsimp only)); refine wpList_plain rfl (fun K_ hK_ => ?_); refine op_rowR (K := inn35) (n := 2) (S := S) 35 (⟨1, y340⟩ : S35) [.int .i64 1, .slice Az3000028 2 cz3000028] (HF.out.keep HK.out) HS.out (fun _ _ h_ => ⟨_, rfl, h_⟩) (fun _ _ => ⟨rfl, by simp [Value.oneCell']⟩) y341 Ny341.out (by first | (go_simp; done) | (go_simp; rfl)) ?_; intro Az3000029 cz3000029 w27 hs_ hk_; refine hK_ _ _ ?_; clear hK_ K_; replace HS := Aside0.mk ((show SL (rows inn35 2 35 (.slice Az3000029 1 cz3000029) y341 :: _) _ _ from hs_)); replace HK := Aside0.mk (HK.out.trans hk_)) | ((with_reducible refine gate_dst (N := 39) rfl ?_); (try (refine gate_guard (by rfl) ?_; dsimp only)); refine goesL_ (some 39) rfl rfl Try.func14 (by kernel_rfl) rfl #[.slice Az3000026 t336.length cz3000026, .slice Az3000029 1 cz3000029] rfl (by (try simp only [List.map_toArray, List.map_cons, List.map_nil]); first | done | rfl | (simp; done)) ?_; have el3000029_ := Aside0.mk (rows_c (d := k35) reads_inn35 sz35 HS.out).1; refine calls_of_args (args' := #[.slice Az3000026 t336.length cz3000026, .slice Az3000029 y341.length cz3000029]) (by rw [← el3000029_.out]) ?_; (with_reducible refine (barrowref16_Same.calls k _ _ _ _ _ _ _ _ (rows_c (d := k35) reads_inn35 sz35 (SL.get1 HS.out)).2.2 (rows_c (d := k35) reads_inn35 sz35 (SL.get1 HS.out)).2.1 (by have e_ := (rows_c (d := k35) reads_inn35 sz35 HS.out).1; have h_ := (rows_c (d := k35) reads_inn35 sz35 HS.out).2.2; rw [e_] at h_; exact h_) (by have e_ := (rows_c (d := k35) reads_inn35 sz35 HS.out).1; have h_ := (rows_c (d := k35) reads_inn35 sz35 HS.out).2.1; (try dsimp only at e_ h_); (try dsimp only); omega) Hc7.out).mono ?_); rintro e_ w28 ⟨rfl, hb_⟩; refine ⟨_, rfl, ?_⟩; replace hb_ := Drawn0.below hb_; replace HS := Aside0.mk (HS.out.below hb_); replace HK := Aside0.mk (HK.out.trans (Keep.below hb_)); have hb_ := SL.at_ (SL.get4 HS.out); have hz3000024_0_8 := ((blk_cell hb_ 0).trans rfl : _ = some (.int .i64 1)); have hz3000024_1_8 := ((blk_cell hb_ 1).trans rfl : _ = some (.int .i64 0)); have hz3000024_2_8 := ((blk_cell hb_ 2).trans rfl : _ = some (.int .i64 10)); have hz3000024_3_8 := ((blk_cell hb_ 3).trans rfl : _ = some (.int .i64 2)); have hz3000024_4_8 := ((blk_cell hb_ 4).trans rfl : _ = some (.int .i64 0)); have hz3000024_5_8 := ((blk_cell hb_ 5).trans rfl : _ = some (.int .i64 0)); have hz3000024_6_8 := ((blk_cell hb_ 6).trans rfl : _ = some (.bool false)); have hz3000024_7_8 := ((blk_cell hb_ 7).trans rfl : _ = some (.slice none 0 0)); clear hb_) | ((with_reducible refine gate_dst (N := 44) rfl ?_); (try (refine gate_guard (by rfl) ?_; dsimp only)); refine goesL_ (some 44) rfl rfl Try.func19 (by kernel_rfl) rfl #[.slice Az3000026 t336.length cz3000026, .agg #[.int .i64 1, .int .i64 0, .int .i64 10, .int .i64 2, .int .i64 0, .int .i64 0, .bool false, .slice none 0 0], .int .i64 5] rfl (by (try simp only [List.map_toArray, List.map_cons, List.map_nil]); first | done | rfl | (simp; done)) ?_; (refine (cool_Ready.calls k _ _ _ _ _ _ _ _ _ _ _ _ _ _ _ _ (rows_c (d := k35) reads_inn35 sz35 (SL.get1 HS.out)).2.2 (rows_c (d := k35) reads_inn35 sz35 (SL.get1 HS.out)).2.1 (Kd.C_nil _ _) (Nat.le_refl _) Hc9.out).mono ?_); rintro e_ w29 ⟨rfl, hb_⟩; refine ⟨_, rfl, ?_⟩; replace HS := Aside0.mk (HS.out.below hb_); replace HK := Aside0.mk (HK.out.trans (Keep.below hb_)); (try clear hz3000024_0_8 hz3000024_1_8 hz3000024_2_8 hz3000024_3_8 hz3000024_4_8 hz3000024_5_8 hz3000024_6_8 hz3000024_7_8); have hb_ := SL.at_ (SL.get4 HS.out); have hz3000024_0_9 := ((blk_cell hb_ 0).trans rfl : _ = some (.int .i64 1)); have hz3000024_1_9 := ((blk_cell hb_ 1).trans rfl : _ = some (.int .i64 0)); have hz3000024_2_9 := ((blk_cell hb_ 2).trans rfl : _ = some (.int .i64 10)); have hz3000024_3_9 := ((blk_cell hb_ 3).trans rfl : _ = some (.int .i64 2)); have hz3000024_4_9 := ((blk_cell hb_ 4).trans rfl : _ = some (.int .i64 0)); have hz3000024_5_9 := ((blk_cell hb_ 5).trans rfl : _ = some (.int .i64 0)); have hz3000024_6_9 := ((blk_cell hb_ 6).trans rfl : _ = some (.bool false)); have hz3000024_7_9 := ((blk_cell hb_ 7).trans rfl : _ = some (.slice none 0 0)); clear hb_) | ((with_reducible refine gate_dst (N := 50) rfl ?_); (try (refine gate_guard (by rfl) ?_; dsimp only)); refine goesL_ (some 50) rfl rfl Try.func19 (by kernel_rfl) rfl #[.slice Az3000026 t336.length cz3000026, .agg #[.int .i64 1, .int .i64 0, .int .i64 10, .int .i64 2, .int .i64 0, .int .i64 0, .bool false, .slice none 0 0], .int .i64 10] rfl (by (try simp only [List.map_toArray, List.map_cons, List.map_nil]); first | done | rfl | (simp; done)) ?_; (refine (cool_Ready.calls k _ _ _ _ _ _ _ _ _ _ _ _ _ _ _ _ (rows_c (d := k35) reads_inn35 sz35 (SL.get1 HS.out)).2.2 (rows_c (d := k35) reads_inn35 sz35 (SL.get1 HS.out)).2.1 (Kd.C_nil _ _) (Nat.le_refl _) Hc11.out).mono ?_); rintro e_ w30 ⟨rfl, hb_⟩; refine ⟨_, rfl, ?_⟩; replace HS := Aside0.mk (HS.out.below hb_); replace HK := Aside0.mk (HK.out.trans (Keep.below hb_)); (try clear hz3000024_0_9 hz3000024_1_9 hz3000024_2_9 hz3000024_3_9 hz3000024_4_9 hz3000024_5_9 hz3000024_6_9 hz3000024_7_9); have hb_ := SL.at_ (SL.get4 HS.out); have hz3000024_0_10 := ((blk_cell hb_ 0).trans rfl : _ = some (.int .i64 1)); have hz3000024_1_10 := ((blk_cell hb_ 1).trans rfl : _ = some (.int .i64 0)); have hz3000024_2_10 := ((blk_cell hb_ 2).trans rfl : _ = some (.int .i64 10)); have hz3000024_3_10 := ((blk_cell hb_ 3).trans rfl : _ = some (.int .i64 2)); have hz3000024_4_10 := ((blk_cell hb_ 4).trans rfl : _ = some (.int .i64 0)); have hz3000024_5_10 := ((blk_cell hb_ 5).trans rfl : _ = some (.int .i64 0)); have hz3000024_6_10 := ((blk_cell hb_ 6).trans rfl : _ = some (.bool false)); have hz3000024_7_10 := ((blk_cell hb_ 7).trans rfl : _ = some (.slice none 0 0)); clear hb_) | ((with_reducible refine gate_dst (N := 56) rfl ?_); (try (refine gate_guard (by rfl) ?_; dsimp only)); refine goesL_ (some 56) rfl rfl Try.func21 (by kernel_rfl) rfl #[.slice Az3000026 t336.length cz3000026, .agg #[.int .i64 1, .int .i64 0, .int .i64 10, .int .i64 2, .int .i64 0, .int .i64 0, .bool false, .slice none 0 0], .int .i64 5] rfl (by (try simp only [List.map_toArray, List.map_cons, List.map_nil]); first | done | rfl | (simp; done)) ?_; (refine (cool_Next.calls k _ _ _ _ _ _ _ _ _ _ _ _ _ _ _ _ (rows_c (d := k35) reads_inn35 sz35 (SL.get1 HS.out)).2.2 (rows_c (d := k35) reads_inn35 sz35 (SL.get1 HS.out)).2.1 (Kd.C_nil _ _) (Nat.le_refl _) Hc13.out).mono ?_); rintro e_ w31 ⟨rfl, hb_⟩; refine ⟨_, rfl, ?_⟩; replace HS := Aside0.mk (HS.out.below hb_); replace HK := Aside0.mk (HK.out.trans (Keep.below hb_)); (try clear hz3000024_0_10 hz3000024_1_10 hz3000024_2_10 hz3000024_3_10 hz3000024_4_10 hz3000024_5_10 hz3000024_6_10 hz3000024_7_10)) | ((with_reducible refine gate_dst (N := 61) rfl ?_); (try (refine gate_guard (by rfl) ?_; dsimp only)); refine goesL_ (some 61) rfl rfl Try.func17 (by kernel_rfl) rfl #[.slice Az3000026 t336.length cz3000026] rfl (by (try simp only [List.map_toArray, List.map_cons, List.map_nil]); first | done | rfl | (simp; done)) ?_; (with_reducible refine (cool_Right.calls k _ _ _ _ _ (rows_c (d := k35) reads_inn35 sz35 (SL.get1 HS.out)).2.2 (rows_c (d := k35) reads_inn35 sz35 (SL.get1 HS.out)).2.1 Hc15.out).mono ?_); rintro e_ w32 ⟨rfl, hb_⟩; refine ⟨_, rfl, ?_⟩; replace HS := Aside0.mk (HS.out.below hb_); replace HK := Aside0.mk (HK.out.trans (Keep.below hb_))) | ((with_reducible refine gate_dst (N := 65) rfl ?_); (try (refine gate_guard (by rfl) ?_; dsimp only)); refine goesL_ (some 65) rfl rfl Try.func12 (by kernel_rfl) rfl #[.slice Az3000026 t336.length cz3000026, .int .i64 20] rfl (by (try simp only [List.map_toArray, List.map_cons, List.map_nil]); first | done | rfl | (simp; done)) ?_; (with_reducible refine (cool_Clean.calls k _ _ _ _ _ _ (rows_c (d := k35) reads_inn35 sz35 (SL.get1 HS.out)).2.2 (rows_c (d := k35) reads_inn35 sz35 (SL.get1 HS.out)).2.1 Hc17.out).mono ?_); rintro e_ w33 ⟨v3000030_, rfl, ho3000030_, hb_⟩; refine ⟨_, rfl, ?_⟩; have hs_ := (SL.new (HF.out.keep HK.out) HS.out hb_ (row_of_R (Kd.S_R ho3000030_))).1; obtain ⟨Az3000030, cz3000030, e2_, _, _⟩ := SL.row_reads hs_; subst e2_; replace HS := Aside0.mk (hs_); replace HK := Aside0.mk (HK.out.trans (Keep.below hb_))) | ((with_reducible refine gate_dst (N := 71) rfl ?_); (try (refine gate_guard (by rfl) ?_; dsimp only)); refine goesL_ (some 71) rfl rfl Try.func13 (by kernel_rfl) rfl #[.slice Az3000026 t336.length cz3000026, .int .i64 1] rfl (by (try simp only [List.map_toArray, List.map_cons, List.map_nil]); first | done | rfl | (simp; done)) ?_; have hs0_ := (SL.get2 HS.out); obtain ⟨U1_, hfU1_, hsub1_, hs1_, hro1_, hback1_⟩ := SL.lend (HF.out.keep HK.out) hs0_ (p := fun w_ => Kd.C k35 w_ Az3000026 t336.length t336) (fun w_ T_ h_ => rows_h (d := k35) reads_inn35 sz35 h_); (with_reducible refine (cool_Reset.slcalls k _ _ _ _ _ _ _ _ hfU1_ hs1_ hro1_ (rows_c (d := k35) reads_inn35 sz35 (SL.get2 HS.out)).2.1 Hc19.out).mono ?_); rintro e_ w34 ⟨Az3000031, cz3000031, rfl, hsr_, hkr_⟩; refine ⟨_, rfl, ?_⟩; replace HS := Aside0.mk ((hback1_ _ _ hkr_ hsr_)); replace HK := Aside0.mk (HK.out.trans (Keep.sub hkr_ (fun k_ h_ => hsub1_ k_ h_)))))
                      go_ret
                      replace HS := Aside0.mk (SL.tail (SL.tail (SL.tail (SL.tail (SL.tail (SL.tail (SL.tail HS.out)))))))
                      unfold barrowlaw16_small.Post
                      exact ⟨by first | rfl | (simp; done) | (simp [*]; done) | (simp at c20b0 ⊢; first | exact c20b0 | (simp [c20b0]; done)), HS.out, HK.out⟩
                    · rw [if_neg c20] at H
                      exact absurd H (by simp)
                  · rw [if_neg c18] at H
                    exact absurd H (by simp)
                · replace c16 := Bool.eq_false_iff.mpr c16
                  subst c16
                  rw [if_neg (show ¬ (false = true) by decide)] at H
                  exact absurd H (by simp)
              · rw [if_neg c14] at H
                exact absurd H (by simp)
            · rw [if_neg c12] at H
              exact absurd H (by simp)
          · rw [if_neg c10] at H
            exact absurd H (by simp)
        · replace c8 := Bool.eq_false_iff.mpr c8
          subst c8
          rw [if_neg (show ¬ (false = true) by decide)] at H
          exact absurd H (by simp)
    · replace c5 := Bool.eq_false_iff.mpr c5
      subst c5
      rw [if_neg (show ¬ (false = true) by decide)] at H
      exact absurd H (by simp)
  · replace c4 := Bool.eq_false_iff.mpr c4
    subst c4
    rw [if_neg (show ¬ (false = true) by decide)] at H
    exact absurd H (by simp)
theorem barrowlaw16_small.calls (k : Nat)  (r : Bool) (w : World) (h : barrowlaw16_small.f k  = some r) :
    Calls Try.prog 7 #[] w fun e w' => e = .returned (.bool r) ∧ Below w.heap.size w w' :=
  (barrowlaw16_small.slcalls k  r (news w) [] w (fresh_news w) trivial h).mono fun _ _ h => ⟨h.1, h.2.2.to_below⟩

end Go.Proofs.Ytbhgohomgfjjfaa.XCO
