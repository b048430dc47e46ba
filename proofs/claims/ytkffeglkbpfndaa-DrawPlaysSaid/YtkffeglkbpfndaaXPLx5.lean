-- Written by xprint.py (a program of this session) for this claim
import Derived.Test.YtkffeglkbpfndaaSL5
import Derived.Test.YtkffeglkbpfndaaXPLx0
import Derived.Test.YtkffeglkbpfndaaXPLx1
namespace Go.Proofs.Ytkffeglkbpfndaa.XPL
open Go.Proofs.YtkffeglkbpfndaaV Go.Proofs.YtkffeglkbpfndaaS
open Go.RowKit Go.Proofs.YtkffeglkbpfndaaW.PrintWords Go.Proofs.YtkffeglkbpfndaaW.PrintLast Go.Proofs.YtkffeglkbpfndaaW.PrintMore
attribute [local go_sem] max2_int min2_int max_two min_two max_three min_three max_four min_four   -- for this text's walks alone
set_option linter.unusedVariables false
set_option linter.unusedSimpArgs false

/-! ### barrowlaw02_small: function 8 -/
def barrowlaw02_small.f (k : Nat)  : Option (Bool) := (draw_New.f).bind fun t124 => ((some (([7, 8, 5] : List Int) : List Int)).bind fun y125 => ((draw_Stream_Feed.f k y125 t124).bind fun bt126 => ((draw_Stream_Below.f k 5 bt126.2).bind fun bt130 => ((draw_Stream_Left.f bt130.2.2).bind fun bt135 => ((some (([4294967295, 1] : List Int) : List Int)).bind fun y139 => ((draw_Fair.f k y139 3).bind fun bt140 => ((draw_Stream_Below.f k 9 bt135.2).bind fun bt143 => ((some (([0, 4, 3] : List Int) : List Int)).bind fun y148 => ((draw_Stream_Pick.f k y148 bt143.2.2).bind fun bt149 => (if bt126.1 = 0 then (if bt130.1 = 2 then (if bt130.2.1 = true then (if bt135.1 = 2 then (if bt140.1 = 1 then (if bt140.2.1 = 2 then (if bt140.2.2 = true then (if bt143.2.1 = true then (if bt149.1 = 2 then (if bt149.2.1 = true then ((some (([(-1)] : List Int) : List Int)).bind fun y154 => ((draw_Stream_Feed.f k y154 bt149.2.2).bind fun bt155 => (if bt155.1 = 1 then (some true) else (none)))) else (none)) else (none)) else (none)) else (none)) else (none)) else (none)) else (none)) else (none)) else (none)) else (none)))))))))))
theorem barrowlaw02_small.mono : ∀ k, LeO (barrowlaw02_small.f k ) (barrowlaw02_small.f (k + 1) ) := by
  intro  k
  unfold barrowlaw02_small.f
  repeat' first
      | (with_reducible exact draw_Fair.mono _ _ _)
      | (with_reducible exact draw_Stream_Below.mono _ _ _)
      | (with_reducible exact draw_Stream_Feed.mono _ _ _)
      | (with_reducible exact draw_Stream_Pick.mono _ _ _)
      | (with_reducible exact LeO.refl _)
      | (with_reducible exact LeO.none _)
      | (with_reducible refine LeO.ite ?_ ?_)
      | (with_reducible refine everyOf_le (fun _ => ?_))
      | (with_reducible refine LeO.bind ?_ (fun _ => ?_))
      | exact draw_Fair.mono _ _ _
      | exact draw_Stream_Below.mono _ _ _
      | exact draw_Stream_Feed.mono _ _ _
      | exact draw_Stream_Pick.mono _ _ _
      | exact LeO.none _
      | refine LeO.ite ?_ ?_
      | refine LeO.bind ?_ (fun _ => ?_)
def barrowlaw02_small.Post (r : Bool) (S : Nat → Prop) (L : List Asr) (w : World) (e : Ending) (w' : World) : Prop := e = .returned (.bool r) ∧ SL (L) w' S ∧ Keep S w w'
set_option maxHeartbeats 8000000 in
set_option maxRecDepth 100000 in
theorem barrowlaw02_small.slcalls (k : Nat)  (r : Bool) (S : Nat → Prop) (L : List Asr) (w : World) (hf : Fresh S w) (hs : SL (L) w S) (h : barrowlaw02_small.f k  = some r) :
    Calls Try.prog 8 #[] w (barrowlaw02_small.Post r S L w) := by
  have HF := Aside0.mk hf
  have HS := Aside0.mk hs
  have HK := Aside0.mk (Keep.refl S w)
  clear hf hs
  have H : ((draw_New.f).bind fun t124 => ((some (([7, 8, 5] : List Int) : List Int)).bind fun y125 => ((draw_Stream_Feed.f k y125 t124).bind fun bt126 => ((draw_Stream_Below.f k 5 bt126.2).bind fun bt130 => ((draw_Stream_Left.f bt130.2.2).bind fun bt135 => ((some (([4294967295, 1] : List Int) : List Int)).bind fun y139 => ((draw_Fair.f k y139 3).bind fun bt140 => ((draw_Stream_Below.f k 9 bt135.2).bind fun bt143 => ((some (([0, 4, 3] : List Int) : List Int)).bind fun y148 => ((draw_Stream_Pick.f k y148 bt143.2.2).bind fun bt149 => (if bt126.1 = 0 then (if bt130.1 = 2 then (if bt130.2.1 = true then (if bt135.1 = 2 then (if bt140.1 = 1 then (if bt140.2.1 = 2 then (if bt140.2.2 = true then (if bt143.2.1 = true then (if bt149.1 = 2 then (if bt149.2.1 = true then ((some (([(-1)] : List Int) : List Int)).bind fun y154 => ((draw_Stream_Feed.f k y154 bt149.2.2).bind fun bt155 => (if bt155.1 = 1 then (some true) else (none)))) else (none)) else (none)) else (none)) else (none)) else (none)) else (none)) else (none)) else (none)) else (none)) else (none)))))))))))) = some r := h
  clear h
  replace H := Option.bind_eq_some_iff.1 H
  obtain ⟨t124, Hc10, H⟩ := H
  try dsimp only at H
  have Hc1 := Aside0.mk Hc10
  clear Hc10
  replace H := Option.bind_eq_some_iff.1 H
  obtain ⟨y125, hy1250, H⟩ := H
  try dsimp only at H
  have hy125 := Option.some.inj hy1250
  clear hy1250
  have Ny125 := Aside0.mk hy125
  clear hy125
  replace H := Option.bind_eq_some_iff.1 H
  obtain ⟨⟨t126, t127⟩, Hc20, H⟩ := H
  try dsimp only at H
  have Hc2 := Aside0.mk Hc20
  clear Hc20
  replace H := Option.bind_eq_some_iff.1 H
  obtain ⟨⟨t130, t131, t132⟩, Hc30, H⟩ := H
  try dsimp only at H
  have Hc3 := Aside0.mk Hc30
  clear Hc30
  replace H := Option.bind_eq_some_iff.1 H
  obtain ⟨⟨t135, t136⟩, Hc40, H⟩ := H
  try dsimp only at H
  have Hc4 := Aside0.mk Hc40
  clear Hc40
  replace H := Option.bind_eq_some_iff.1 H
  obtain ⟨y139, hy1390, H⟩ := H
  try dsimp only at H
  have hy139 := Option.some.inj hy1390
  clear hy1390
  have Ny139 := Aside0.mk hy139
  clear hy139
  replace H := Option.bind_eq_some_iff.1 H
  obtain ⟨⟨t140, t141, t142⟩, Hc50, H⟩ := H
  try dsimp only at H
  have Hc5 := Aside0.mk Hc50
  clear Hc50
  replace H := Option.bind_eq_some_iff.1 H
  obtain ⟨⟨t143, t144, t145⟩, Hc60, H⟩ := H
  try dsimp only at H
  have Hc6 := Aside0.mk Hc60
  clear Hc60
  replace H := Option.bind_eq_some_iff.1 H
  obtain ⟨y148, hy1480, H⟩ := H
  try dsimp only at H
  have hy148 := Option.some.inj hy1480
  clear hy1480
  have Ny148 := Aside0.mk hy148
  clear hy148
  replace H := Option.bind_eq_some_iff.1 H
  obtain ⟨⟨t149, t150, t151⟩, Hc70, H⟩ := H
  try dsimp only at H
  have Hc7 := Aside0.mk Hc70
  clear Hc70
  by_cases c8 : t126 = 0
  · rw [if_pos c8] at H
    have c8b0 : (t126 == 0) = true := beq_iff_eq.mpr c8
    have c8b1 : (t126 != 0) = false := bne_eq_false_iff_eq.mpr c8
    clear c8
    by_cases c9 : t130 = 2
    · rw [if_pos c9] at H
      have c9b0 : (t130 == 2) = true := beq_iff_eq.mpr c9
      have c9b1 : (t130 != 2) = false := bne_eq_false_iff_eq.mpr c9
      clear c9
      by_cases c10 : t131 = true
      · subst c10
        rw [if_pos rfl] at H
        by_cases c11 : t135 = 2
        · rw [if_pos c11] at H
          have c11b0 : (t135 == 2) = true := beq_iff_eq.mpr c11
          have c11b1 : (t135 != 2) = false := bne_eq_false_iff_eq.mpr c11
          clear c11
          by_cases c12 : t140 = 1
          · rw [if_pos c12] at H
            have c12b0 : (t140 == 1) = true := beq_iff_eq.mpr c12
            have c12b1 : (t140 != 1) = false := bne_eq_false_iff_eq.mpr c12
            clear c12
            by_cases c13 : t141 = 2
            · rw [if_pos c13] at H
              have c13b0 : (t141 == 2) = true := beq_iff_eq.mpr c13
              have c13b1 : (t141 != 2) = false := bne_eq_false_iff_eq.mpr c13
              clear c13
              by_cases c14 : t142 = true
              · subst c14
                rw [if_pos rfl] at H
                by_cases c15 : t144 = true
                · subst c15
                  rw [if_pos rfl] at H
                  by_cases c16 : t149 = 2
                  · rw [if_pos c16] at H
                    have c16b0 : (t149 == 2) = true := beq_iff_eq.mpr c16
                    have c16b1 : (t149 != 2) = false := bne_eq_false_iff_eq.mpr c16
                    clear c16
                    by_cases c17 : t150 = true
                    · subst c17
                      rw [if_pos rfl] at H
                      replace H := Option.bind_eq_some_iff.1 H
                      obtain ⟨y154, hy1540, H⟩ := H
                      try dsimp only at H
                      have hy154 := Option.some.inj hy1540
                      clear hy1540
                      have Ny154 := Aside0.mk hy154
                      clear hy154
                      replace H := Option.bind_eq_some_iff.1 H
                      obtain ⟨⟨t155, t156⟩, Hc180, H⟩ := H
                      try dsimp only at H
                      have Hc18 := Aside0.mk Hc180
                      clear Hc180
                      by_cases c19 : t155 = 1
                      · rw [if_pos c19] at H
                        have c19b0 : (t155 == 1) = true := beq_iff_eq.mpr c19
                        have c19b1 : (t155 != 1) = false := bne_eq_false_iff_eq.mpr c19
                        clear c19
                        obtain rfl := Option.some.inj H
                        go_enter Try.func8, Try.ntmps8
                        go_wp2_with (first | ((with_reducible refine gate_dst (N := 13) rfl ?_); refine goesL_ (some 13) rfl rfl Try.func11 (by kernel_rfl) rfl #[] rfl (by (try simp only [List.map_toArray, List.map_cons, List.map_nil]); first | done | rfl | (simp; done)) ?_; have hs0_ := HS.out; (with_reducible refine (draw_New.slcalls _ _ _ _ (HF.out.keep HK.out) hs0_  Hc1.out).mono ?_); rintro e_ w20 ⟨g3000002, Az3000003, cz3000003, rfl, hsr_, hkr_⟩; refine ⟨_, rfl, ?_⟩; replace HS := Aside0.mk (hsr_); replace HK := Aside0.mk (HK.out.trans hkr_)) | ((with_reducible refine gate_dst (N := 17) rfl ?_); refine wpList_plain rfl (fun K_ hK_ => ?_); refine op_row (S := S) (enc := Value.int .i64) (h1 := fun _ => rfl) 3 y125 #[.int .i64 7, .int .i64 8, .int .i64 5] 3 (by rw [← Ny125.out]; rfl) (by rw [← Ny125.out]; rfl) (by decide) (HF.out.keep HK.out) HS.out (by first | (go_simp; done) | (go_simp; rfl)) ?_; intro Az3000004 cz3000004 w21 hs_ hk_; refine hK_ _ _ ?_; clear hK_ K_; replace HS := Aside0.mk ((show SL (row (Kd.int .i64) 3 (.slice Az3000004 3 cz3000004) y125 :: _) _ _ from hs_)); replace HK := Aside0.mk (HK.out.trans hk_)) | ((with_reducible refine gate_dst (N := 18) rfl ?_); refine goesL_ (some 18) rfl rfl Try.func12 (by kernel_rfl) rfl #[.pointer (some ⟨g3000002, 0, none⟩), .slice Az3000004 3 cz3000004] rfl (by (try simp only [List.map_toArray, List.map_cons, List.map_nil]); first | done | rfl | (simp; done)) ?_; have el3000004_ := Aside0.mk (SL.row_c HS.out).1; refine calls_of_args (args' := #[.pointer (some ⟨g3000002, 0, none⟩), .slice Az3000004 y125.length cz3000004]) (by rw [← el3000004_.out]) ?_; have hs0_ := (SL.get2 (SL.get2 (SL.get2 HS.out))); obtain ⟨U1_, hfU1_, hsub1_, hs1_, hro1_, hback1_⟩ := SL.lend (HF.out.keep HK.out) hs0_ (p := fun w_ => Kd.C (Kd.int .i64) w_ Az3000004 3 y125) (fun w_ T_ h_ => (Qs_c h_).2.2); (with_reducible refine (draw_Stream_Feed.slcalls k _ _ _ _ _ _ _ _ _ _ _ _ hfU1_ hs1_ (by rw [← el3000004_.out]; exact hro1_) (by rw [← el3000004_.out]; exact (SL.row_c HS.out).2.1) Hc2.out).mono ?_); rintro e_ w22 ⟨A128, c129, rfl, hsr_, hkr_⟩; refine ⟨_, rfl, ?_⟩; replace HS := Aside0.mk ((hback1_ _ _ hkr_ hsr_)); replace HK := Aside0.mk (HK.out.trans (Keep.sub hkr_ (fun k_ h_ => hsub1_ k_ h_)))) | ((with_reducible refine gate_dst (N := 21) rfl ?_); refine goesL_ (some 21) rfl rfl Try.func14 (by kernel_rfl) rfl #[.pointer (some ⟨g3000002, 0, none⟩), .int .i64 5] rfl (by (try simp only [List.map_toArray, List.map_cons, List.map_nil]); first | done | rfl | (simp; done)) ?_; have hs0_ := (SL.get2 (SL.get2 HS.out)); (with_reducible refine (draw_Stream_Below.slcalls k _ _ _ _ _ _ _ _ _ _ _ (HF.out.keep HK.out) hs0_  Hc3.out).mono ?_); rintro e_ w23 ⟨A133, c134, rfl, hsr_, hkr_⟩; refine ⟨_, rfl, ?_⟩; replace HS := Aside0.mk (hsr_); replace HK := Aside0.mk (HK.out.trans hkr_)) | ((with_reducible refine gate_dst (N := 25) rfl ?_); refine goesL_ (some 25) rfl rfl Try.func13 (by kernel_rfl) rfl #[.pointer (some ⟨g3000002, 0, none⟩)] rfl (by (try simp only [List.map_toArray, List.map_cons, List.map_nil]); first | done | rfl | (simp; done)) ?_; have hs0_ := (SL.get1 (SL.get1 HS.out)); (with_reducible refine (draw_Stream_Left.slcalls _ _ _ _ _ _ _ _ _ (HF.out.keep HK.out) hs0_  Hc4.out).mono ?_); rintro e_ w24 ⟨A137, c138, rfl, hsr_, hkr_⟩; refine ⟨_, rfl, ?_⟩; replace HS := Aside0.mk (hsr_); replace HK := Aside0.mk (HK.out.trans hkr_)) | ((with_reducible refine gate_dst (N := 27) rfl ?_); refine wpList_plain rfl (fun K_ hK_ => ?_); refine op_row (S := S) (enc := Value.int .i64) (h1 := fun _ => rfl) 3 y139 #[.int .i64 4294967295, .int .i64 1] 2 (by rw [← Ny139.out]; rfl) (by rw [← Ny139.out]; rfl) (by decide) (HF.out.keep HK.out) HS.out (by first | (go_simp; done) | (go_simp; rfl)) ?_; intro Az3000005 cz3000005 w25 hs_ hk_; refine hK_ _ _ ?_; clear hK_ K_; replace HS := Aside0.mk ((show SL (row (Kd.int .i64) 3 (.slice Az3000005 2 cz3000005) y139 :: _) _ _ from hs_)); replace HK := Aside0.mk (HK.out.trans hk_)) | ((with_reducible refine gate_dst (N := 28) rfl ?_); refine goesL_ (some 28) rfl rfl Try.func9 (by kernel_rfl) rfl #[.slice Az3000005 2 cz3000005, .int .i64 3] rfl (by (try simp only [List.map_toArray, List.map_cons, List.map_nil]); first | done | rfl | (simp; done)) ?_; have el3000005_ := Aside0.mk (SL.row_c HS.out).1; refine calls_of_args (args' := #[.slice Az3000005 y139.length cz3000005, .int .i64 3]) (by rw [← el3000005_.out]) ?_; (with_reducible refine (draw_Fair.calls k _ _ _ _ _ _ _ _ (by have e_ := (SL.row_c HS.out).1; have h_ := (SL.row_c HS.out).2.2; rw [e_] at h_; exact h_) (by have e_ := (SL.row_c HS.out).1; have h_ := (SL.row_c HS.out).2.1; (try dsimp only at e_ h_); (try dsimp only); omega) Hc5.out).mono ?_); rintro e_ w26 ⟨rfl, hb_⟩; refine ⟨_, rfl, ?_⟩; replace HS := Aside0.mk (HS.out.below hb_); replace HK := Aside0.mk (HK.out.trans (Keep.below hb_))) | ((with_reducible refine gate_dst (N := 34) rfl ?_); refine goesL_ (some 34) rfl rfl Try.func14 (by kernel_rfl) rfl #[.pointer (some ⟨g3000002, 0, none⟩), .int .i64 9] rfl (by (try simp only [List.map_toArray, List.map_cons, List.map_nil]); first | done | rfl | (simp; done)) ?_; have hs0_ := (SL.get2 (SL.get2 HS.out)); (with_reducible refine (draw_Stream_Below.slcalls k _ _ _ _ _ _ _ _ _ _ _ (HF.out.keep HK.out) hs0_  Hc6.out).mono ?_); rintro e_ w27 ⟨A146, c147, rfl, hsr_, hkr_⟩; refine ⟨_, rfl, ?_⟩; replace HS := Aside0.mk (hsr_); replace HK := Aside0.mk (HK.out.trans hkr_)) | ((with_reducible refine gate_dst (N := 39) rfl ?_); refine wpList_plain rfl (fun K_ hK_ => ?_); refine op_row (S := S) (enc := Value.int .i64) (h1 := fun _ => rfl) 3 y148 #[.int .i64 0, .int .i64 4, .int .i64 3] 3 (by rw [← Ny148.out]; rfl) (by rw [← Ny148.out]; rfl) (by decide) (HF.out.keep HK.out) HS.out (by first | (go_simp; done) | (go_simp; rfl)) ?_; intro Az3000006 cz3000006 w28 hs_ hk_; refine hK_ _ _ ?_; clear hK_ K_; replace HS := Aside0.mk ((show SL (row (Kd.int .i64) 3 (.slice Az3000006 3 cz3000006) y148 :: _) _ _ from hs_)); replace HK := Aside0.mk (HK.out.trans hk_)) | ((with_reducible refine gate_dst (N := 40) rfl ?_); refine goesL_ (some 40) rfl rfl Try.func17 (by kernel_rfl) rfl #[.pointer (some ⟨g3000002, 0, none⟩), .slice Az3000006 3 cz3000006] rfl (by (try simp only [List.map_toArray, List.map_cons, List.map_nil]); first | done | rfl | (simp; done)) ?_; have el3000006_ := Aside0.mk (SL.row_c HS.out).1; refine calls_of_args (args' := #[.pointer (some ⟨g3000002, 0, none⟩), .slice Az3000006 y148.length cz3000006]) (by rw [← el3000006_.out]) ?_; have hs0_ := (SL.get2 (SL.get2 (SL.get2 HS.out))); obtain ⟨U1_, hfU1_, hsub1_, hs1_, hro1_, hback1_⟩ := SL.lend (HF.out.keep HK.out) hs0_ (p := fun w_ => Kd.C (Kd.int .i64) w_ Az3000006 3 y148) (fun w_ T_ h_ => (Qs_c h_).2.2); (with_reducible refine (draw_Stream_Pick.slcalls k _ _ _ _ _ _ _ _ _ _ _ _ _ hfU1_ hs1_ (by rw [← el3000006_.out]; exact hro1_) (by rw [← el3000006_.out]; exact (SL.row_c HS.out).2.1) Hc7.out).mono ?_); rintro e_ w29 ⟨A152, c153, rfl, hsr_, hkr_⟩; refine ⟨_, rfl, ?_⟩; replace HS := Aside0.mk ((hback1_ _ _ hkr_ hsr_)); replace HK := Aside0.mk (HK.out.trans (Keep.sub hkr_ (fun k_ h_ => hsub1_ k_ h_)))) | ((with_reducible refine gate_dst (N := 79) rfl ?_); (try (refine gate_guard (by rfl) ?_; dsimp only)); refine wpList_plain rfl (fun K_ hK_ => ?_); refine op_row (S := S) (enc := Value.int .i64) (h1 := fun _ => rfl) 3 y154 #[.int .i64 (-1)] 1 (by rw [← Ny154.out]; rfl) (by rw [← Ny154.out]; rfl) (by decide) (HF.out.keep HK.out) HS.out (by first | (go_simp; done) | (go_simp; rfl)) ?_; intro Az3000007 cz3000007 w30 hs_ hk_; refine hK_ _ _ ?_; clear hK_ K_; replace HS := Aside0.mk ((show SL (row (Kd.int .i64) 3 (.slice Az3000007 1 cz3000007) y154 :: _) _ _ from hs_)); replace HK := Aside0.mk (HK.out.trans hk_)) | ((with_reducible refine gate_dst (N := 80) rfl ?_); (try (refine gate_guard (by rfl) ?_; dsimp only)); refine goesL_ (some 80) rfl rfl Try.func12 (by kernel_rfl) rfl #[.pointer (some ⟨g3000002, 0, none⟩), .slice Az3000007 1 cz3000007] rfl (by (try simp only [List.map_toArray, List.map_cons, List.map_nil]); first | done | rfl | (simp; done)) ?_; have el3000007_ := Aside0.mk (SL.row_c HS.out).1; refine calls_of_args (args' := #[.pointer (some ⟨g3000002, 0, none⟩), .slice Az3000007 y154.length cz3000007]) (by rw [← el3000007_.out]) ?_; have hs0_ := (SL.get2 (SL.get3 (SL.get3 HS.out))); obtain ⟨U1_, hfU1_, hsub1_, hs1_, hro1_, hback1_⟩ := SL.lend (HF.out.keep HK.out) hs0_ (p := fun w_ => Kd.C (Kd.int .i64) w_ Az3000007 1 y154) (fun w_ T_ h_ => (Qs_c h_).2.2); (with_reducible refine (draw_Stream_Feed.slcalls k _ _ _ _ _ _ _ _ _ _ _ _ hfU1_ hs1_ (by rw [← el3000007_.out]; exact hro1_) (by rw [← el3000007_.out]; exact (SL.row_c HS.out).2.1) Hc18.out).mono ?_); rintro e_ w31 ⟨A157, c158, rfl, hsr_, hkr_⟩; refine ⟨_, rfl, ?_⟩; replace HS := Aside0.mk ((hback1_ _ _ hkr_ hsr_)); replace HK := Aside0.mk (HK.out.trans (Keep.sub hkr_ (fun k_ h_ => hsub1_ k_ h_)))))
                        go_ret
                        replace HS := Aside0.mk (SL.tail (SL.tail (SL.tail (SL.tail (SL.tail (SL.tail HS.out))))))
                        unfold barrowlaw02_small.Post
                        exact ⟨by first | rfl | (simp; done) | (simp [*]; done) | (simp at c19b0 ⊢; first | exact c19b0 | (simp [c19b0]; done)), HS.out, HK.out⟩
                      · rw [if_neg c19] at H
                        exact absurd H (by simp)
                    · replace c17 := Bool.eq_false_iff.mpr c17
                      subst c17
                      rw [if_neg (show ¬ (false = true) by decide)] at H
                      exact absurd H (by simp)
                  · rw [if_neg c16] at H
                    exact absurd H (by simp)
                · replace c15 := Bool.eq_false_iff.mpr c15
                  subst c15
                  rw [if_neg (show ¬ (false = true) by decide)] at H
                  exact absurd H (by simp)
              · replace c14 := Bool.eq_false_iff.mpr c14
                subst c14
                rw [if_neg (show ¬ (false = true) by decide)] at H
                exact absurd H (by simp)
            · rw [if_neg c13] at H
              exact absurd H (by simp)
          · rw [if_neg c12] at H
            exact absurd H (by simp)
        · rw [if_neg c11] at H
          exact absurd H (by simp)
      · replace c10 := Bool.eq_false_iff.mpr c10
        subst c10
        rw [if_neg (show ¬ (false = true) by decide)] at H
        exact absurd H (by simp)
    · rw [if_neg c9] at H
      exact absurd H (by simp)
  · rw [if_neg c8] at H
    exact absurd H (by simp)
theorem barrowlaw02_small.calls (k : Nat)  (r : Bool) (w : World) (h : barrowlaw02_small.f k  = some r) :
    Calls Try.prog 8 #[] w fun e w' => e = .returned (.bool r) ∧ Below w.heap.size w w' :=
  (barrowlaw02_small.slcalls k  r (news w) [] w (fresh_news w) trivial h).mono fun _ _ h => ⟨h.1, h.2.2.to_below⟩

end Go.Proofs.Ytkffeglkbpfndaa.XPL
