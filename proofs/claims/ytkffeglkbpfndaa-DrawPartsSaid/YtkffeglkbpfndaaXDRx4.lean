-- Written by xprint.py (a program of this session) for this claim
import Derived.Test.YtkffeglkbpfndaaXDRx0
import Derived.Test.YtkffeglkbpfndaaXDRx1
namespace Go.Proofs.Ytkffeglkbpfndaa.XDR
open Go.Proofs.YtkffeglkbpfndaaV Go.Proofs.YtkffeglkbpfndaaS
open Go.RowKit Go.Proofs.YtkffeglkbpfndaaW.PrintWords Go.Proofs.YtkffeglkbpfndaaW.PrintLast Go.Proofs.YtkffeglkbpfndaaW.PrintMore
attribute [local go_sem] max2_int min2_int max_two min_two max_three min_three max_four min_four   -- for this text's walks alone
set_option linter.unusedVariables false
set_option linter.unusedSimpArgs false

/-! ### barrowlaw02_small: function 8 -/
def barrowlaw02_small.f (k : Nat)  : Option (Bool) := (draw_New.f).bind fun t127 => ((some (([7, 8, 5] : List Int) : List Int)).bind fun y130 => ((draw_Stream_Feed.f k t127 y130).bind fun bt131 => ((draw_Stream_Below.f k bt131.2 5).bind fun bt135 => ((draw_Stream_Left.f bt135.2.2).bind fun bt140 => ((some (([4294967295, 1] : List Int) : List Int)).bind fun y145 => ((draw_Fair.f k y145 3).bind fun bt146 => ((draw_Stream_Below.f k bt140.2 9).bind fun bt149 => ((some (([0, 4, 3] : List Int) : List Int)).bind fun y155 => ((draw_Stream_Pick.f k bt149.2.2 y155).bind fun bt156 => (if bt131.1 = 0 then (if bt135.1 = 2 then (if bt135.2.1 = true then (if bt140.1 = 2 then (if bt146.1 = 1 then (if bt146.2.1 = 2 then (if bt146.2.2 = true then (if bt149.2.1 = true then (if bt156.1 = 2 then (if bt156.2.1 = true then ((some (([(-1)] : List Int) : List Int)).bind fun y162 => ((draw_Stream_Feed.f k bt156.2.2 y162).bind fun bt163 => (some (bt163.1 == 1)))) else (none)) else (none)) else (none)) else (none)) else (none)) else (none)) else (none)) else (none)) else (none)) else (none)))))))))))
theorem barrowlaw02_small.mono : ∀ k, LeO (barrowlaw02_small.f k ) (barrowlaw02_small.f (k + 1) ) := by
  intro  k
  unfold barrowlaw02_small.f
  repeat' first
      | (with_reducible exact draw_Fair.mono _ _ _)
      | (with_reducible exact draw_Stream_Below.mono _ _ _)
      | (with_reducible exact draw_Stream_Feed.mono _ _ _)
      | (with_reducible exact draw_Stream_Pick.mono _ _ _)
      | (with_reducible exact LeO.refl _)
      | (with_reducible exact LeO.none _)
      | (with_reducible refine LeO.ite ?_ ?_)
      | (with_reducible refine LeO.bind ?_ (fun _ => ?_))
      | exact draw_Fair.mono _ _ _
      | exact draw_Stream_Below.mono _ _ _
      | exact draw_Stream_Feed.mono _ _ _
      | exact draw_Stream_Pick.mono _ _ _
      | exact LeO.none _
      | refine LeO.ite ?_ ?_
      | refine LeO.bind ?_ (fun _ => ?_)
def barrowlaw02_small.Post (r : Bool) (S : Nat → Prop) (L : List Asr) (w : World) (e : Ending) (w' : World) : Prop := e = .returned (.bool r) ∧ SL (L) w' S ∧ Keep S w w'
set_option maxHeartbeats 8000000 in
set_option maxRecDepth 100000 in
theorem barrowlaw02_small.slcalls (k : Nat)  (r : Bool) (S : Nat → Prop) (L : List Asr) (w : World) (hf : Fresh S w) (hs : SL (L) w S) (h : barrowlaw02_small.f k  = some r) :
    Calls Try.prog 8 #[] w (barrowlaw02_small.Post r S L w) := by
  have HF := Aside0.mk hf
  have HS := Aside0.mk hs
  have HK := Aside0.mk (Keep.refl S w)
  clear hf hs
  have H : ((draw_New.f).bind fun t127 => ((some (([7, 8, 5] : List Int) : List Int)).bind fun y130 => ((draw_Stream_Feed.f k t127 y130).bind fun bt131 => ((draw_Stream_Below.f k bt131.2 5).bind fun bt135 => ((draw_Stream_Left.f bt135.2.2).bind fun bt140 => ((some (([4294967295, 1] : List Int) : List Int)).bind fun y145 => ((draw_Fair.f k y145 3).bind fun bt146 => ((draw_Stream_Below.f k bt140.2 9).bind fun bt149 => ((some (([0, 4, 3] : List Int) : List Int)).bind fun y155 => ((draw_Stream_Pick.f k bt149.2.2 y155).bind fun bt156 => (if bt131.1 = 0 then (if bt135.1 = 2 then (if bt135.2.1 = true then (if bt140.1 = 2 then (if bt146.1 = 1 then (if bt146.2.1 = 2 then (if bt146.2.2 = true then (if bt149.2.1 = true then (if bt156.1 = 2 then (if bt156.2.1 = true then ((some (([(-1)] : List Int) : List Int)).bind fun y162 => ((draw_Stream_Feed.f k bt156.2.2 y162).bind fun bt163 => (some (bt163.1 == 1)))) else (none)) else (none)) else (none)) else (none)) else (none)) else (none)) else (none)) else (none)) else (none)) else (none)))))))))))) = some r := h
  clear h
  replace H := Option.bind_eq_some_iff.1 H
  obtain ⟨t127, Hc10, H⟩ := H
  try dsimp only at H
  have Hc1 := Aside0.mk Hc10
  clear Hc10
  replace H := Option.bind_eq_some_iff.1 H
  obtain ⟨y130, hy1300, H⟩ := H
  try dsimp only at H
  have hy130 := Option.some.inj hy1300
  clear hy1300
  have Ny130 := Aside0.mk hy130
  clear hy130
  replace H := Option.bind_eq_some_iff.1 H
  obtain ⟨⟨t131, t132⟩, Hc20, H⟩ := H
  try dsimp only at H
  have Hc2 := Aside0.mk Hc20
  clear Hc20
  replace H := Option.bind_eq_some_iff.1 H
  obtain ⟨⟨t135, t136, t137⟩, Hc30, H⟩ := H
  try dsimp only at H
  have Hc3 := Aside0.mk Hc30
  clear Hc30
  replace H := Option.bind_eq_some_iff.1 H
  obtain ⟨⟨t140, t141⟩, Hc40, H⟩ := H
  try dsimp only at H
  have Hc4 := Aside0.mk Hc40
  clear Hc40
  replace H := Option.bind_eq_some_iff.1 H
  obtain ⟨y145, hy1450, H⟩ := H
  try dsimp only at H
  have hy145 := Option.some.inj hy1450
  clear hy1450
  have Ny145 := Aside0.mk hy145
  clear hy145
  replace H := Option.bind_eq_some_iff.1 H
  obtain ⟨⟨t146, t147, t148⟩, Hc50, H⟩ := H
  try dsimp only at H
  have Hc5 := Aside0.mk Hc50
  clear Hc50
  replace H := Option.bind_eq_some_iff.1 H
  obtain ⟨⟨t149, t150, t151⟩, Hc60, H⟩ := H
  try dsimp only at H
  have Hc6 := Aside0.mk Hc60
  clear Hc60
  replace H := Option.bind_eq_some_iff.1 H
  obtain ⟨y155, hy1550, H⟩ := H
  try dsimp only at H
  have hy155 := Option.some.inj hy1550
  clear hy1550
  have Ny155 := Aside0.mk hy155
  clear hy155
  replace H := Option.bind_eq_some_iff.1 H
  obtain ⟨⟨t156, t157, t158⟩, Hc70, H⟩ := H
  try dsimp only at H
  have Hc7 := Aside0.mk Hc70
  clear Hc70
  by_cases c8 : t131 = 0
  · rw [if_pos c8] at H
    have c8b0 : (t131 == 0) = true := beq_iff_eq.mpr c8
    have c8b1 : (t131 != 0) = false := bne_eq_false_iff_eq.mpr c8
    clear c8
    by_cases c9 : t135 = 2
    · rw [if_pos c9] at H
      have c9b0 : (t135 == 2) = true := beq_iff_eq.mpr c9
      have c9b1 : (t135 != 2) = false := bne_eq_false_iff_eq.mpr c9
      clear c9
      by_cases c10 : t136 = true
      · subst c10
        rw [if_pos rfl] at H
        by_cases c11 : t140 = 2
        · rw [if_pos c11] at H
          have c11b0 : (t140 == 2) = true := beq_iff_eq.mpr c11
          have c11b1 : (t140 != 2) = false := bne_eq_false_iff_eq.mpr c11
          clear c11
          by_cases c12 : t146 = 1
          · rw [if_pos c12] at H
            have c12b0 : (t146 == 1) = true := beq_iff_eq.mpr c12
            have c12b1 : (t146 != 1) = false := bne_eq_false_iff_eq.mpr c12
            clear c12
            by_cases c13 : t147 = 2
            · rw [if_pos c13] at H
              have c13b0 : (t147 == 2) = true := beq_iff_eq.mpr c13
              have c13b1 : (t147 != 2) = false := bne_eq_false_iff_eq.mpr c13
              clear c13
              by_cases c14 : t148 = true
              · subst c14
                rw [if_pos rfl] at H
                by_cases c15 : t150 = true
                · subst c15
                  rw [if_pos rfl] at H
                  by_cases c16 : t156 = 2
                  · rw [if_pos c16] at H
                    have c16b0 : (t156 == 2) = true := beq_iff_eq.mpr c16
                    have c16b1 : (t156 != 2) = false := bne_eq_false_iff_eq.mpr c16
                    clear c16
                    by_cases c17 : t157 = true
                    · subst c17
                      rw [if_pos rfl] at H
                      replace H := Option.bind_eq_some_iff.1 H
                      obtain ⟨y162, hy1620, H⟩ := H
                      try dsimp only at H
                      have hy162 := Option.some.inj hy1620
                      clear hy1620
                      have Ny162 := Aside0.mk hy162
                      clear hy162
                      replace H := Option.bind_eq_some_iff.1 H
                      obtain ⟨⟨t163, t164⟩, Hc180, H⟩ := H
                      try dsimp only at H
                      have Hc18 := Aside0.mk Hc180
                      clear Hc180
                      obtain rfl := Option.some.inj H
                      go_enter Try.func8, Try.ntmps8
                      go_wp2_with (first | ((with_reducible refine gate_dst (N := 13) rfl ?_); refine goesL_ (some 13) rfl rfl Try.func11 (by kernel_rfl) rfl #[] rfl (by (try simp only [List.map_toArray, List.map_cons, List.map_nil]); first | done | rfl | (simp; done)) ?_; have hs0_ := HS.out; (with_reducible refine (draw_New.slcalls _ _ _ _ (HF.out.keep HK.out) hs0_  Hc1.out).mono ?_); rintro e_ w19 ⟨Az128, cz128, g126, rfl, hsr_, hkr_⟩; refine ⟨_, rfl, ?_⟩; have n1_ := Aside0.mk (HK.out.trans hkr_); have n2_ := Aside0.mk (hsr_); clear HK HS; have HK := n1_; have HS := n2_; clear n1_ n2_) | ((with_reducible refine gate_dst (N := 17) rfl ?_); refine wpList_plain rfl (fun K_ hK_ => ?_); refine op_row (S := S) (enc := Value.int .i64) (h1 := fun _ => rfl) 3 y130 #[.int .i64 7, .int .i64 8, .int .i64 5] 3 (by rw [← Ny130.out]; rfl) (by rw [← Ny130.out]; rfl) (by decide) (HF.out.keep HK.out) HS.out (by first | (go_simp; done) | (go_simp; rfl)) ?_; intro Az129 cz129 w20 hs_ hk_; refine hK_ _ _ ?_; clear hK_ K_; have n1_ := Aside0.mk (HK.out.trans hk_); have n2_ := Aside0.mk ((show SL (row (Kd.int .i64) 3 (.slice Az129 3 cz129) y130 :: _) _ _ from hs_)); clear HK HS; have HK := n1_; have HS := n2_; clear n1_ n2_) | ((with_reducible refine gate_dst (N := 18) rfl ?_); refine goesL_ (some 18) rfl rfl Try.func12 (by kernel_rfl) rfl #[.pointer (some ⟨g126, 0, none⟩), .slice Az129 3 cz129] rfl (by (try simp only [List.map_toArray, List.map_cons, List.map_nil]); first | done | rfl | (simp; done)) ?_; have el129_ := Aside0.mk (SL.row_c HS.out).1; refine calls_of_args (args' := #[.pointer (some ⟨g126, 0, none⟩), .slice Az129 y130.length cz129]) (by rw [← el129_.out]) ?_; have hs0_ := (SL.get2 (SL.get2 (SL.get2 HS.out))); obtain ⟨U1_, hfU1_, hsub1_, hs1_, hro1_, hback1_⟩ := SL.lend (HF.out.keep HK.out) hs0_ (p := fun w_ => Kd.C (Kd.int .i64) w_ Az129 3 y130) (fun w_ T_ h_ => (Kd.Q_c h_).2.2); (with_reducible refine (draw_Stream_Feed.slcalls k _ _ _ _ _ _ _ _ _ _ _ _ hfU1_ hs1_ (by rw [← el129_.out]; exact hro1_) (by rw [← el129_.out]; exact (SL.row_c HS.out).2.1) Hc2.out).mono ?_); rintro e_ w21 ⟨A133, c134, rfl, hsr_, hkr_⟩; refine ⟨_, rfl, ?_⟩; have n1_ := Aside0.mk (HK.out.trans (Keep.sub hkr_ (fun k_ h_ => hsub1_ k_ h_))); have n2_ := Aside0.mk ((hback1_ _ _ hkr_ hsr_)); clear HK HS; have HK := n1_; have HS := n2_; clear n1_ n2_) | ((with_reducible refine gate_dst (N := 21) rfl ?_); refine goesL_ (some 21) rfl rfl Try.func14 (by kernel_rfl) rfl #[.pointer (some ⟨g126, 0, none⟩), .int .i64 5] rfl (by (try simp only [List.map_toArray, List.map_cons, List.map_nil]); first | done | rfl | (simp; done)) ?_; have hs0_ := (SL.get2 (SL.get2 HS.out)); (with_reducible refine (draw_Stream_Below.slcalls k _ _ _ _ _ _ _ _ _ _ _ (HF.out.keep HK.out) hs0_  Hc3.out).mono ?_); rintro e_ w22 ⟨A138, c139, rfl, hsr_, hkr_⟩; refine ⟨_, rfl, ?_⟩; have n1_ := Aside0.mk (HK.out.trans hkr_); have n2_ := Aside0.mk (hsr_); clear HK HS; have HK := n1_; have HS := n2_; clear n1_ n2_) | ((with_reducible refine gate_dst (N := 25) rfl ?_); refine goesL_ (some 25) rfl rfl Try.func13 (by kernel_rfl) rfl #[.pointer (some ⟨g126, 0, none⟩)] rfl (by (try simp only [List.map_toArray, List.map_cons, List.map_nil]); first | done | rfl | (simp; done)) ?_; have hs0_ := (SL.get1 (SL.get1 HS.out)); (with_reducible refine (draw_Stream_Left.slcalls _ _ _ _ _ _ _ _ _ (HF.out.keep HK.out) hs0_  Hc4.out).mono ?_); rintro e_ w23 ⟨A142, c143, rfl, hsr_, hkr_⟩; refine ⟨_, rfl, ?_⟩; have n1_ := Aside0.mk (HK.out.trans hkr_); have n2_ := Aside0.mk (hsr_); clear HK HS; have HK := n1_; have HS := n2_; clear n1_ n2_) | ((with_reducible refine gate_dst (N := 27) rfl ?_); refine wpList_plain rfl (fun K_ hK_ => ?_); refine op_row (S := S) (enc := Value.int .i64) (h1 := fun _ => rfl) 3 y145 #[.int .i64 4294967295, .int .i64 1] 2 (by rw [← Ny145.out]; rfl) (by rw [← Ny145.out]; rfl) (by decide) (HF.out.keep HK.out) HS.out (by first | (go_simp; done) | (go_simp; rfl)) ?_; intro Az144 cz144 w24 hs_ hk_; refine hK_ _ _ ?_; clear hK_ K_; have n1_ := Aside0.mk (HK.out.trans hk_); have n2_ := Aside0.mk ((show SL (row (Kd.int .i64) 3 (.slice Az144 2 cz144) y145 :: _) _ _ from hs_)); clear HK HS; have HK := n1_; have HS := n2_; clear n1_ n2_) | ((with_reducible refine gate_dst (N := 28) rfl ?_); refine goesL_ (some 28) rfl rfl Try.func9 (by kernel_rfl) rfl #[.slice Az144 2 cz144, .int .i64 3] rfl (by (try simp only [List.map_toArray, List.map_cons, List.map_nil]); first | done | rfl | (simp; done)) ?_; have el144_ := Aside0.mk (SL.row_c HS.out).1; refine calls_of_args (args' := #[.slice Az144 y145.length cz144, .int .i64 3]) (by rw [← el144_.out]) ?_; have hs0_ := HS.out; obtain ⟨U1_, hfU1_, hsub1_, hs1_, hro1_, hback1_⟩ := SL.lend (HF.out.keep HK.out) hs0_ (p := fun w_ => Kd.C (Kd.int .i64) w_ Az144 2 y145) (fun w_ T_ h_ => (Kd.Q_c h_).2.2); (with_reducible refine (draw_Fair.slcalls k _ _ _ _ _ _ _ _ _ _ hfU1_ hs1_ (by rw [← el144_.out]; exact hro1_) (by rw [← el144_.out]; exact (SL.row_c HS.out).2.1) Hc5.out).mono ?_); rintro e_ w25 ⟨rfl, hsr_, hkr_⟩; refine ⟨_, rfl, ?_⟩; have n1_ := Aside0.mk (HK.out.trans (Keep.sub hkr_ (fun k_ h_ => hsub1_ k_ h_))); have n2_ := Aside0.mk ((hback1_ _ _ hkr_ hsr_)); clear HK HS; have HK := n1_; have HS := n2_; clear n1_ n2_) | ((with_reducible refine gate_dst (N := 34) rfl ?_); refine goesL_ (some 34) rfl rfl Try.func14 (by kernel_rfl) rfl #[.pointer (some ⟨g126, 0, none⟩), .int .i64 9] rfl (by (try simp only [List.map_toArray, List.map_cons, List.map_nil]); first | done | rfl | (simp; done)) ?_; have hs0_ := (SL.get2 (SL.get2 HS.out)); (with_reducible refine (draw_Stream_Below.slcalls k _ _ _ _ _ _ _ _ _ _ _ (HF.out.keep HK.out) hs0_  Hc6.out).mono ?_); rintro e_ w26 ⟨A152, c153, rfl, hsr_, hkr_⟩; refine ⟨_, rfl, ?_⟩; have n1_ := Aside0.mk (HK.out.trans hkr_); have n2_ := Aside0.mk (hsr_); clear HK HS; have HK := n1_; have HS := n2_; clear n1_ n2_) | ((with_reducible refine gate_dst (N := 39) rfl ?_); refine wpList_plain rfl (fun K_ hK_ => ?_); refine op_row (S := S) (enc := Value.int .i64) (h1 := fun _ => rfl) 3 y155 #[.int .i64 0, .int .i64 4, .int .i64 3] 3 (by rw [← Ny155.out]; rfl) (by rw [← Ny155.out]; rfl) (by decide) (HF.out.keep HK.out) HS.out (by first | (go_simp; done) | (go_simp; rfl)) ?_; intro Az154 cz154 w27 hs_ hk_; refine hK_ _ _ ?_; clear hK_ K_; have n1_ := Aside0.mk (HK.out.trans hk_); have n2_ := Aside0.mk ((show SL (row (Kd.int .i64) 3 (.slice Az154 3 cz154) y155 :: _) _ _ from hs_)); clear HK HS; have HK := n1_; have HS := n2_; clear n1_ n2_) | ((with_reducible refine gate_dst (N := 40) rfl ?_); refine goesL_ (some 40) rfl rfl Try.func17 (by kernel_rfl) rfl #[.pointer (some ⟨g126, 0, none⟩), .slice Az154 3 cz154] rfl (by (try simp only [List.map_toArray, List.map_cons, List.map_nil]); first | done | rfl | (simp; done)) ?_; have el154_ := Aside0.mk (SL.row_c HS.out).1; refine calls_of_args (args' := #[.pointer (some ⟨g126, 0, none⟩), .slice Az154 y155.length cz154]) (by rw [← el154_.out]) ?_; have hs0_ := (SL.get2 (SL.get2 (SL.get2 HS.out))); obtain ⟨U1_, hfU1_, hsub1_, hs1_, hro1_, hback1_⟩ := SL.lend (HF.out.keep HK.out) hs0_ (p := fun w_ => Kd.C (Kd.int .i64) w_ Az154 3 y155) (fun w_ T_ h_ => (Kd.Q_c h_).2.2); (with_reducible refine (draw_Stream_Pick.slcalls k _ _ _ _ _ _ _ _ _ _ _ _ _ hfU1_ hs1_ (by rw [← el154_.out]; exact hro1_) (by rw [← el154_.out]; exact (SL.row_c HS.out).2.1) Hc7.out).mono ?_); rintro e_ w28 ⟨A159, c160, rfl, hsr_, hkr_⟩; refine ⟨_, rfl, ?_⟩; have n1_ := Aside0.mk (HK.out.trans (Keep.sub hkr_ (fun k_ h_ => hsub1_ k_ h_))); have n2_ := Aside0.mk ((hback1_ _ _ hkr_ hsr_)); clear HK HS; have HK := n1_; have HS := n2_; clear n1_ n2_) | ((with_reducible refine gate_dst (N := 79) rfl ?_); (try (refine gate_guard (by rfl) ?_; dsimp only)); refine wpList_plain rfl (fun K_ hK_ => ?_); refine op_row (S := S) (enc := Value.int .i64) (h1 := fun _ => rfl) 3 y162 #[.int .i64 (-1)] 1 (by rw [← Ny162.out]; rfl) (by rw [← Ny162.out]; rfl) (by decide) (HF.out.keep HK.out) HS.out (by first | (go_simp; done) | (go_simp; rfl)) ?_; intro Az161 cz161 w29 hs_ hk_; refine hK_ _ _ ?_; clear hK_ K_; have n1_ := Aside0.mk (HK.out.trans hk_); have n2_ := Aside0.mk ((show SL (row (Kd.int .i64) 3 (.slice Az161 1 cz161) y162 :: _) _ _ from hs_)); clear HK HS; have HK := n1_; have HS := n2_; clear n1_ n2_) | ((with_reducible refine gate_dst (N := 80) rfl ?_); (try (refine gate_guard (by rfl) ?_; dsimp only)); refine goesL_ (some 80) rfl rfl Try.func12 (by kernel_rfl) rfl #[.pointer (some ⟨g126, 0, none⟩), .slice Az161 1 cz161] rfl (by (try simp only [List.map_toArray, List.map_cons, List.map_nil]); first | done | rfl | (simp; done)) ?_; have el161_ := Aside0.mk (SL.row_c HS.out).1; refine calls_of_args (args' := #[.pointer (some ⟨g126, 0, none⟩), .slice Az161 y162.length cz161]) (by rw [← el161_.out]) ?_; have hs0_ := (SL.get2 (SL.get3 (SL.get3 HS.out))); obtain ⟨U1_, hfU1_, hsub1_, hs1_, hro1_, hback1_⟩ := SL.lend (HF.out.keep HK.out) hs0_ (p := fun w_ => Kd.C (Kd.int .i64) w_ Az161 1 y162) (fun w_ T_ h_ => (Kd.Q_c h_).2.2); (with_reducible refine (draw_Stream_Feed.slcalls k _ _ _ _ _ _ _ _ _ _ _ _ hfU1_ hs1_ (by rw [← el161_.out]; exact hro1_) (by rw [← el161_.out]; exact (SL.row_c HS.out).2.1) Hc18.out).mono ?_); rintro e_ w30 ⟨A165, c166, rfl, hsr_, hkr_⟩; refine ⟨_, rfl, ?_⟩; have n1_ := Aside0.mk (HK.out.trans (Keep.sub hkr_ (fun k_ h_ => hsub1_ k_ h_))); have n2_ := Aside0.mk ((hback1_ _ _ hkr_ hsr_)); clear HK HS; have HK := n1_; have HS := n2_; clear n1_ n2_))
                      go_ret
                      have n2_ := Aside0.mk (SL.tail (SL.tail (SL.tail (SL.tail (SL.tail (SL.tail HS.out))))))
                      clear HS
                      have HS := n2_
                      clear n2_
                      unfold barrowlaw02_small.Post
                      exact ⟨by first | rfl | (simp; done) | (simp [*]; done), HS.out, HK.out⟩
                    · replace c17 := Bool.eq_false_iff.mpr c17
                      subst c17
                      rw [if_neg (show ¬ (false = true) by decide)] at H
                      exact absurd H (by simp)
                  · rw [if_neg c16] at H
                    exact absurd H (by simp)
                · replace c15 := Bool.eq_false_iff.mpr c15
                  subst c15
                  rw [if_neg (show ¬ (false = true) by decide)] at H
                  exact absurd H (by simp)
              · replace c14 := Bool.eq_false_iff.mpr c14
                subst c14
                rw [if_neg (show ¬ (false = true) by decide)] at H
                exact absurd H (by simp)
            · rw [if_neg c13] at H
              exact absurd H (by simp)
          · rw [if_neg c12] at H
            exact absurd H (by simp)
        · rw [if_neg c11] at H
          exact absurd H (by simp)
      · replace c10 := Bool.eq_false_iff.mpr c10
        subst c10
        rw [if_neg (show ¬ (false = true) by decide)] at H
        exact absurd H (by simp)
    · rw [if_neg c9] at H
      exact absurd H (by simp)
  · rw [if_neg c8] at H
    exact absurd H (by simp)
theorem barrowlaw02_small.calls (k : Nat)  (r : Bool) (w : World) (h : barrowlaw02_small.f k  = some r) :
    Calls Try.prog 8 #[] w fun e w' => e = .returned (.bool r) ∧ Below w.heap.size w w' :=
  (barrowlaw02_small.slcalls k  r (news w) [] w (fresh_news w) trivial h).mono fun _ _ h => ⟨h.1, h.2.2.to_below⟩

end Go.Proofs.Ytkffeglkbpfndaa.XDR
