-- Written by xprint.py (a program of this session) for this claim
import Derived.Test.YtdlpijeceigbnaaXFRx0
import Derived.Test.YtdlpijeceigbnaaXFRx1
import Derived.Test.YtdlpijeceigbnaaXFRx2
namespace Go.Proofs.Ytdlpijeceigbnaa.XFR
open Go.Proofs.YtdlpijeceigbnaaV Go.Proofs.YtdlpijeceigbnaaS
open Go.RowKit Go.Proofs.YtdlpijeceigbnaaW.PrintWords Go.Proofs.YtdlpijeceigbnaaW.PrintLast Go.Proofs.YtdlpijeceigbnaaW.PrintMore
attribute [local go_sem] max2_int min2_int max_two min_two max_three min_three max_four min_four   -- for this text's walks alone
set_option linter.unusedVariables false
set_option linter.unusedSimpArgs false

/-! ### barrowlaw04_small: function 7 -/
def barrowlaw04_small.f (k : Nat)  : Option (Bool) := (frame_New.f).bind fun bt199 => ((some (([2, 97] : List Int) : List Int)).bind fun y201 => ((frame_Feed_Push.f k bt199.1 bt199.2 y201).bind fun bt202 => ((some (([98, 0, 1] : List Int) : List Int)).bind fun y208 => ((frame_Feed_Push.f k bt202.2.2.1 bt202.2.2.2 y208).bind fun bt209 => ((frame_Feed_Waits.f bt209.2.2.1 bt209.2.2.2).bind fun bt215 => ((frame_New.f).bind fun bt220 => ((some (([128, 0] : List Int) : List Int)).bind fun y222 => ((frame_Feed_Push.f k bt220.1 bt220.2 y222).bind fun bt223 => ((frame_New.f).bind fun bt229 => ((some (([129, 32] : List Int) : List Int)).bind fun y231 => ((frame_Feed_Push.f k bt229.1 bt229.2 y231).bind fun bt232 => ((some (([97, 98] : List Int) : List Int)).bind fun y238 => ((frame_Wrap.f k y238).bind fun bt239 => (if bt202.2.1 = 0 then (if (bt202.1.length : Int) = 0 then (if bt209.2.1 = 0 then (if (bt209.1.length : Int) = 2 then (if 0 < (bt209.1.length : Int) then ((some (rd_L1 bt209.1 0 : List Int)).bind fun y242 => (if (strOfNums y242).toList = ([97, 98] : List UInt8) then (if 1 < (bt209.1.length : Int) then ((some (rd_L1 bt209.1 1 : List Int)).bind fun y244 => (if (y244.length : Int) = 0 then (if bt215.1 = 1 then (if bt223.2.1 = 2 then ((frame_Feed_Dead.f bt223.2.2.1 bt223.2.2.2).bind fun bt245 => (if bt245.1 = true then (if bt232.2.1 = 3 then (if bt239.2 = 0 then (if (strOfNums bt239.1).toList = ([2, 97, 98] : List UInt8) then (some true) else (none)) else (none)) else (none)) else (none))) else (none)) else (none)) else (none))) else (none)) else (none))) else (none)) else (none)) else (none)) else (none)) else (none)))))))))))))))
theorem barrowlaw04_small.mono : ∀ k, LeO (barrowlaw04_small.f k ) (barrowlaw04_small.f (k + 1) ) := by
  intro  k
  unfold barrowlaw04_small.f
  repeat' first
      | (with_reducible exact frame_Feed_Push.mono _ _ _ _)
      | (with_reducible exact frame_Wrap.mono _ _)
      | (with_reducible exact LeO.refl _)
      | (with_reducible exact LeO.none _)
      | (with_reducible refine LeO.ite ?_ ?_)
      | (with_reducible refine LeO.bind ?_ (fun _ => ?_))
      | exact frame_Feed_Push.mono _ _ _ _
      | exact frame_Wrap.mono _ _
      | exact LeO.none _
      | refine LeO.ite ?_ ?_
      | refine LeO.bind ?_ (fun _ => ?_)
def barrowlaw04_small.Post (r : Bool) (S : Nat → Prop) (L : List Asr) (w : World) (e : Ending) (w' : World) : Prop := e = .returned (.bool r) ∧ SL (L) w' S ∧ Keep S w w'
set_option maxHeartbeats 8000000 in
set_option maxRecDepth 100000 in
theorem barrowlaw04_small.slcalls (k : Nat)  (r : Bool) (S : Nat → Prop) (L : List Asr) (w : World) (hf : Fresh S w) (hs : SL (L) w S) (h : barrowlaw04_small.f k  = some r) :
    Calls Try.prog 7 #[] w (barrowlaw04_small.Post r S L w) := by
  have HF := Aside0.mk hf
  have HS := Aside0.mk hs
  have HK := Aside0.mk (Keep.refl S w)
  clear hf hs
  have H : ((frame_New.f).bind fun bt199 => ((some (([2, 97] : List Int) : List Int)).bind fun y201 => ((frame_Feed_Push.f k bt199.1 bt199.2 y201).bind fun bt202 => ((some (([98, 0, 1] : List Int) : List Int)).bind fun y208 => ((frame_Feed_Push.f k bt202.2.2.1 bt202.2.2.2 y208).bind fun bt209 => ((frame_Feed_Waits.f bt209.2.2.1 bt209.2.2.2).bind fun bt215 => ((frame_New.f).bind fun bt220 => ((some (([128, 0] : List Int) : List Int)).bind fun y222 => ((frame_Feed_Push.f k bt220.1 bt220.2 y222).bind fun bt223 => ((frame_New.f).bind fun bt229 => ((some (([129, 32] : List Int) : List Int)).bind fun y231 => ((frame_Feed_Push.f k bt229.1 bt229.2 y231).bind fun bt232 => ((some (([97, 98] : List Int) : List Int)).bind fun y238 => ((frame_Wrap.f k y238).bind fun bt239 => (if bt202.2.1 = 0 then (if (bt202.1.length : Int) = 0 then (if bt209.2.1 = 0 then (if (bt209.1.length : Int) = 2 then (if 0 < (bt209.1.length : Int) then ((some (rd_L1 bt209.1 0 : List Int)).bind fun y242 => (if (strOfNums y242).toList = ([97, 98] : List UInt8) then (if 1 < (bt209.1.length : Int) then ((some (rd_L1 bt209.1 1 : List Int)).bind fun y244 => (if (y244.length : Int) = 0 then (if bt215.1 = 1 then (if bt223.2.1 = 2 then ((frame_Feed_Dead.f bt223.2.2.1 bt223.2.2.2).bind fun bt245 => (if bt245.1 = true then (if bt232.2.1 = 3 then (if bt239.2 = 0 then (if (strOfNums bt239.1).toList = ([2, 97, 98] : List UInt8) then (some true) else (none)) else (none)) else (none)) else (none))) else (none)) else (none)) else (none))) else (none)) else (none))) else (none)) else (none)) else (none)) else (none)) else (none)))))))))))))))) = some r := h
  clear h
  replace H := Option.bind_eq_some_iff.1 H
  obtain ⟨⟨t199, t200⟩, Hc10, H⟩ := H
  try dsimp only at H
  have Hc1 := Aside0.mk Hc10
  clear Hc10
  replace H := Option.bind_eq_some_iff.1 H
  obtain ⟨y201, hy2010, H⟩ := H
  try dsimp only at H
  have hy201 := Option.some.inj hy2010
  clear hy2010
  have Ny201 := Aside0.mk hy201
  clear hy201
  replace H := Option.bind_eq_some_iff.1 H
  obtain ⟨⟨t202, t203, t204, t207⟩, Hc20, H⟩ := H
  try dsimp only at H
  have Hc2 := Aside0.mk Hc20
  clear Hc20
  replace H := Option.bind_eq_some_iff.1 H
  obtain ⟨y208, hy2080, H⟩ := H
  try dsimp only at H
  have hy208 := Option.some.inj hy2080
  clear hy2080
  have Ny208 := Aside0.mk hy208
  clear hy208
  replace H := Option.bind_eq_some_iff.1 H
  obtain ⟨⟨t209, t210, t211, t214⟩, Hc30, H⟩ := H
  try dsimp only at H
  have Hc3 := Aside0.mk Hc30
  clear Hc30
  replace H := Option.bind_eq_some_iff.1 H
  obtain ⟨⟨t215, t216, t219⟩, Hc40, H⟩ := H
  try dsimp only at H
  have Hc4 := Aside0.mk Hc40
  clear Hc40
  replace H := Option.bind_eq_some_iff.1 H
  obtain ⟨⟨t220, t221⟩, Hc50, H⟩ := H
  try dsimp only at H
  have Hc5 := Aside0.mk Hc50
  clear Hc50
  replace H := Option.bind_eq_some_iff.1 H
  obtain ⟨y222, hy2220, H⟩ := H
  try dsimp only at H
  have hy222 := Option.some.inj hy2220
  clear hy2220
  have Ny222 := Aside0.mk hy222
  clear hy222
  replace H := Option.bind_eq_some_iff.1 H
  obtain ⟨⟨t223, t224, t225, t228⟩, Hc60, H⟩ := H
  try dsimp only at H
  have Hc6 := Aside0.mk Hc60
  clear Hc60
  replace H := Option.bind_eq_some_iff.1 H
  obtain ⟨⟨t229, t230⟩, Hc70, H⟩ := H
  try dsimp only at H
  have Hc7 := Aside0.mk Hc70
  clear Hc70
  replace H := Option.bind_eq_some_iff.1 H
  obtain ⟨y231, hy2310, H⟩ := H
  try dsimp only at H
  have hy231 := Option.some.inj hy2310
  clear hy2310
  have Ny231 := Aside0.mk hy231
  clear hy231
  replace H := Option.bind_eq_some_iff.1 H
  obtain ⟨⟨t232, t233, t234, t237⟩, Hc80, H⟩ := H
  try dsimp only at H
  have Hc8 := Aside0.mk Hc80
  clear Hc80
  replace H := Option.bind_eq_some_iff.1 H
  obtain ⟨y238, hy2380, H⟩ := H
  try dsimp only at H
  have hy238 := Option.some.inj hy2380
  clear hy2380
  have Ny238 := Aside0.mk hy238
  clear hy238
  replace H := Option.bind_eq_some_iff.1 H
  obtain ⟨⟨t239, t240⟩, Hc90, H⟩ := H
  try dsimp only at H
  have Hc9 := Aside0.mk Hc90
  clear Hc90
  by_cases c10 : t203 = 0
  · rw [if_pos c10] at H
    have c10b0 : (t203 == 0) = true := beq_iff_eq.mpr c10
    have c10b1 : (t203 != 0) = false := bne_eq_false_iff_eq.mpr c10
    clear c10
    by_cases c11 : (t202.length : Int) = 0
    · rw [if_pos c11] at H
      have c11b0 : ((t202.length : Int) == 0) = true := beq_iff_eq.mpr c11
      have c11b1 : ((t202.length : Int) != 0) = false := bne_eq_false_iff_eq.mpr c11
      clear c11
      by_cases c12 : t210 = 0
      · rw [if_pos c12] at H
        have c12b0 : (t210 == 0) = true := beq_iff_eq.mpr c12
        have c12b1 : (t210 != 0) = false := bne_eq_false_iff_eq.mpr c12
        clear c12
        by_cases c13 : (t209.length : Int) = 2
        · rw [if_pos c13] at H
          have c13b0 : ((t209.length : Int) == 2) = true := beq_iff_eq.mpr c13
          have c13b1 : ((t209.length : Int) != 2) = false := bne_eq_false_iff_eq.mpr c13
          clear c13
          by_cases c14 : 0 < (t209.length : Int)
          · rw [if_pos c14] at H
            have c14b0 : decide (0 < (t209.length : Int)) = true := decide_eq_true c14
            have c14b1 : decide (0 < t209.length) = true := decide_eq_true (by omega)
            clear c14
            replace H := Option.bind_eq_some_iff.1 H
            obtain ⟨y242, hy2420, H⟩ := H
            try dsimp only at H
            have hy242 := Option.some.inj hy2420
            clear hy2420
            have Ny242 := Aside0.mk hy242
            clear hy242
            by_cases c15 : (strOfNums y242).toList = ([97, 98] : List UInt8)
            · rw [if_pos c15] at H
              have c15b0 : ((strOfNums y242).toList == ([97, 98] : List UInt8)) = true := beq_iff_eq.mpr c15
              have c15b1 : ((strOfNums y242).toList != ([97, 98] : List UInt8)) = false := bne_eq_false_iff_eq.mpr c15
              clear c15
              by_cases c16 : 1 < (t209.length : Int)
              · rw [if_pos c16] at H
                have c16b0 : decide (1 < (t209.length : Int)) = true := decide_eq_true c16
                have c16b1 : decide (1 < t209.length) = true := decide_eq_true (by omega)
                clear c16
                replace H := Option.bind_eq_some_iff.1 H
                obtain ⟨y244, hy2440, H⟩ := H
                try dsimp only at H
                have hy244 := Option.some.inj hy2440
                clear hy2440
                have Ny244 := Aside0.mk hy244
                clear hy244
                by_cases c17 : (y244.length : Int) = 0
                · rw [if_pos c17] at H
                  have c17b0 : ((y244.length : Int) == 0) = true := beq_iff_eq.mpr c17
                  have c17b1 : ((y244.length : Int) != 0) = false := bne_eq_false_iff_eq.mpr c17
                  clear c17
                  by_cases c18 : t215 = 1
                  · rw [if_pos c18] at H
                    have c18b0 : (t215 == 1) = true := beq_iff_eq.mpr c18
                    have c18b1 : (t215 != 1) = false := bne_eq_false_iff_eq.mpr c18
                    clear c18
                    by_cases c19 : t224 = 2
                    · rw [if_pos c19] at H
                      have c19b0 : (t224 == 2) = true := beq_iff_eq.mpr c19
                      have c19b1 : (t224 != 2) = false := bne_eq_false_iff_eq.mpr c19
                      clear c19
                      replace H := Option.bind_eq_some_iff.1 H
                      obtain ⟨⟨t245, t246, t249⟩, Hc200, H⟩ := H
                      try dsimp only at H
                      have Hc20 := Aside0.mk Hc200
                      clear Hc200
                      by_cases c21 : t245 = true
                      · subst c21
                        rw [if_pos rfl] at H
                        by_cases c22 : t233 = 3
                        · rw [if_pos c22] at H
                          have c22b0 : (t233 == 3) = true := beq_iff_eq.mpr c22
                          have c22b1 : (t233 != 3) = false := bne_eq_false_iff_eq.mpr c22
                          clear c22
                          by_cases c23 : t240 = 0
                          · rw [if_pos c23] at H
                            have c23b0 : (t240 == 0) = true := beq_iff_eq.mpr c23
                            have c23b1 : (t240 != 0) = false := bne_eq_false_iff_eq.mpr c23
                            clear c23
                            by_cases c24 : (strOfNums t239).toList = ([2, 97, 98] : List UInt8)
                            · rw [if_pos c24] at H
                              have c24b0 : ((strOfNums t239).toList == ([2, 97, 98] : List UInt8)) = true := beq_iff_eq.mpr c24
                              have c24b1 : ((strOfNums t239).toList != ([2, 97, 98] : List UInt8)) = false := bne_eq_false_iff_eq.mpr c24
                              clear c24
                              obtain rfl := Option.some.inj H
                              go_enter Try.func7, Try.ntmps7
                              go_wp2_with (first | ((with_reducible refine gate_dst (N := 15) rfl ?_); refine goesL_ (some 15) rfl rfl Try.func9 (by kernel_rfl) rfl #[] rfl (by (try simp only [List.map_toArray, List.map_cons, List.map_nil]); first | done | rfl | (simp; done)) ?_; have hs0_ := HS.out; (with_reducible refine (frame_New.slcalls _ _ _ _ _ (HF.out.keep HK.out) hs0_  Hc1.out).mono ?_); rintro e_ w25 ⟨Az3000008, cz3000008, g3000007, rfl, hsr_, hkr_⟩; refine ⟨_, rfl, ?_⟩; have n1_ := Aside0.mk (HK.out.trans hkr_); have n2_ := Aside0.mk (hsr_); clear HK HS; have HK := n1_; have HS := n2_; clear n1_ n2_) | ((with_reducible refine gate_dst (N := 20) rfl ?_); refine wpList_plain rfl (fun K_ hK_ => ?_); refine op_row (S := S) (enc := Value.int .u8) (h1 := fun _ => rfl) 5 y201 #[.int .u8 2, .int .u8 97] 2 (by rw [← Ny201.out]; rfl) (by rw [← Ny201.out]; rfl) (by decide) (HF.out.keep HK.out) HS.out (by first | (go_simp; done) | (go_simp; rfl)) ?_; intro Az3000009 cz3000009 w26 hs_ hk_; refine hK_ _ _ ?_; clear hK_ K_; have n1_ := Aside0.mk (HK.out.trans hk_); have n2_ := Aside0.mk ((show SL (row (Kd.int .u8) 5 (.slice Az3000009 2 cz3000009) y201 :: _) _ _ from hs_)); clear HK HS; have HK := n1_; have HS := n2_; clear n1_ n2_) | ((with_reducible refine gate_dst (N := 21) rfl ?_); refine goesL_ (some 21) rfl rfl Try.func10 (by kernel_rfl) rfl #[.pointer (some ⟨g3000007, 0, none⟩), .slice Az3000009 2 cz3000009] rfl (by (try simp only [List.map_toArray, List.map_cons, List.map_nil]); first | done | rfl | (simp; done)) ?_; have el3000009_ := Aside0.mk (SL.row_c HS.out).1; refine calls_of_args (args' := #[.pointer (some ⟨g3000007, 0, none⟩), .slice Az3000009 y201.length cz3000009]) (by rw [← el3000009_.out]) ?_; have hs0_ := (SL.get2 (SL.get2 (SL.get2 HS.out))); obtain ⟨U1_, hfU1_, hsub1_, hs1_, hro1_, hback1_⟩ := SL.lend (HF.out.keep HK.out) hs0_ (p := fun w_ => Kd.C (Kd.int .u8) w_ Az3000009 2 y201) (fun w_ T_ h_ => (Qs_c h_).2.2); (with_reducible refine (frame_Feed_Push.slcalls k _ _ _ _ _ _ _ _ _ _ _ _ _ _ _ hfU1_ hs1_ (by rw [← el3000009_.out]; exact hro1_) (by rw [← el3000009_.out]; exact (SL.row_c HS.out).2.1) Hc2.out).mono ?_); rintro e_ w27 ⟨Az3000010, cz3000010, A205, c206, rfl, hsr_, hkr_⟩; refine ⟨_, rfl, ?_⟩; have n1_ := Aside0.mk (HK.out.trans (Keep.sub hkr_ (fun k_ h_ => hsub1_ k_ h_))); have n2_ := Aside0.mk ((hback1_ _ _ hkr_ hsr_)); clear HK HS; have HK := n1_; have HS := n2_; clear n1_ n2_) | ((with_reducible refine gate_dst (N := 26) rfl ?_); refine wpList_plain rfl (fun K_ hK_ => ?_); refine op_row (S := S) (enc := Value.int .u8) (h1 := fun _ => rfl) 5 y208 #[.int .u8 98, .int .u8 0, .int .u8 1] 3 (by rw [← Ny208.out]; rfl) (by rw [← Ny208.out]; rfl) (by decide) (HF.out.keep HK.out) HS.out (by first | (go_simp; done) | (go_simp; rfl)) ?_; intro Az3000011 cz3000011 w28 hs_ hk_; refine hK_ _ _ ?_; clear hK_ K_; have n1_ := Aside0.mk (HK.out.trans hk_); have n2_ := Aside0.mk ((show SL (row (Kd.int .u8) 5 (.slice Az3000011 3 cz3000011) y208 :: _) _ _ from hs_)); clear HK HS; have HK := n1_; have HS := n2_; clear n1_ n2_) | ((with_reducible refine gate_dst (N := 27) rfl ?_); refine goesL_ (some 27) rfl rfl Try.func10 (by kernel_rfl) rfl #[.pointer (some ⟨g3000007, 0, none⟩), .slice Az3000011 3 cz3000011] rfl (by (try simp only [List.map_toArray, List.map_cons, List.map_nil]); first | done | rfl | (simp; done)) ?_; have el3000011_ := Aside0.mk (SL.row_c HS.out).1; refine calls_of_args (args' := #[.pointer (some ⟨g3000007, 0, none⟩), .slice Az3000011 y208.length cz3000011]) (by rw [← el3000011_.out]) ?_; have hs0_ := (SL.get2 (SL.get3 (SL.get3 HS.out))); obtain ⟨U1_, hfU1_, hsub1_, hs1_, hro1_, hback1_⟩ := SL.lend (HF.out.keep HK.out) hs0_ (p := fun w_ => Kd.C (Kd.int .u8) w_ Az3000011 3 y208) (fun w_ T_ h_ => (Qs_c h_).2.2); (with_reducible refine (frame_Feed_Push.slcalls k _ _ _ _ _ _ _ _ _ _ _ _ _ _ _ hfU1_ hs1_ (by rw [← el3000011_.out]; exact hro1_) (by rw [← el3000011_.out]; exact (SL.row_c HS.out).2.1) Hc3.out).mono ?_); rintro e_ w29 ⟨Az3000012, cz3000012, A212, c213, rfl, hsr_, hkr_⟩; refine ⟨_, rfl, ?_⟩; have n1_ := Aside0.mk (HK.out.trans (Keep.sub hkr_ (fun k_ h_ => hsub1_ k_ h_))); have n2_ := Aside0.mk ((hback1_ _ _ hkr_ hsr_)); clear HK HS; have HK := n1_; have HS := n2_; clear n1_ n2_) | ((with_reducible refine gate_dst (N := 31) rfl ?_); refine goesL_ (some 31) rfl rfl Try.func13 (by kernel_rfl) rfl #[.pointer (some ⟨g3000007, 0, none⟩)] rfl (by (try simp only [List.map_toArray, List.map_cons, List.map_nil]); first | done | rfl | (simp; done)) ?_; have hs0_ := (SL.get2 (SL.get2 HS.out)); (with_reducible refine (frame_Feed_Waits.slcalls _ _ _ _ _ _ _ _ _ _ _ (HF.out.keep HK.out) hs0_  Hc4.out).mono ?_); rintro e_ w30 ⟨A217, c218, rfl, hsr_, hkr_⟩; refine ⟨_, rfl, ?_⟩; have n1_ := Aside0.mk (HK.out.trans hkr_); have n2_ := Aside0.mk (hsr_); clear HK HS; have HK := n1_; have HS := n2_; clear n1_ n2_) | ((with_reducible refine gate_dst (N := 32) rfl ?_); refine goesL_ (some 32) rfl rfl Try.func9 (by kernel_rfl) rfl #[] rfl (by (try simp only [List.map_toArray, List.map_cons, List.map_nil]); first | done | rfl | (simp; done)) ?_; have hs0_ := HS.out; (with_reducible refine (frame_New.slcalls _ _ _ _ _ (HF.out.keep HK.out) hs0_  Hc5.out).mono ?_); rintro e_ w31 ⟨Az3000014, cz3000014, g3000013, rfl, hsr_, hkr_⟩; refine ⟨_, rfl, ?_⟩; have n1_ := Aside0.mk (HK.out.trans hkr_); have n2_ := Aside0.mk (hsr_); clear HK HS; have HK := n1_; have HS := n2_; clear n1_ n2_) | ((with_reducible refine gate_dst (N := 35) rfl ?_); refine wpList_plain rfl (fun K_ hK_ => ?_); refine op_row (S := S) (enc := Value.int .u8) (h1 := fun _ => rfl) 5 y222 #[.int .u8 128, .int .u8 0] 2 (by rw [← Ny222.out]; rfl) (by rw [← Ny222.out]; rfl) (by decide) (HF.out.keep HK.out) HS.out (by first | (go_simp; done) | (go_simp; rfl)) ?_; intro Az3000015 cz3000015 w32 hs_ hk_; refine hK_ _ _ ?_; clear hK_ K_; have n1_ := Aside0.mk (HK.out.trans hk_); have n2_ := Aside0.mk ((show SL (row (Kd.int .u8) 5 (.slice Az3000015 2 cz3000015) y222 :: _) _ _ from hs_)); clear HK HS; have HK := n1_; have HS := n2_; clear n1_ n2_) | ((with_reducible refine gate_dst (N := 36) rfl ?_); refine goesL_ (some 36) rfl rfl Try.func10 (by kernel_rfl) rfl #[.pointer (some ⟨g3000013, 0, none⟩), .slice Az3000015 2 cz3000015] rfl (by (try simp only [List.map_toArray, List.map_cons, List.map_nil]); first | done | rfl | (simp; done)) ?_; have el3000015_ := Aside0.mk (SL.row_c HS.out).1; refine calls_of_args (args' := #[.pointer (some ⟨g3000013, 0, none⟩), .slice Az3000015 y222.length cz3000015]) (by rw [← el3000015_.out]) ?_; have hs0_ := (SL.get2 (SL.get2 (SL.get2 HS.out))); obtain ⟨U1_, hfU1_, hsub1_, hs1_, hro1_, hback1_⟩ := SL.lend (HF.out.keep HK.out) hs0_ (p := fun w_ => Kd.C (Kd.int .u8) w_ Az3000015 2 y222) (fun w_ T_ h_ => (Qs_c h_).2.2); (with_reducible refine (frame_Feed_Push.slcalls k _ _ _ _ _ _ _ _ _ _ _ _ _ _ _ hfU1_ hs1_ (by rw [← el3000015_.out]; exact hro1_) (by rw [← el3000015_.out]; exact (SL.row_c HS.out).2.1) Hc6.out).mono ?_); rintro e_ w33 ⟨Az3000016, cz3000016, A226, c227, rfl, hsr_, hkr_⟩; refine ⟨_, rfl, ?_⟩; have n1_ := Aside0.mk (HK.out.trans (Keep.sub hkr_ (fun k_ h_ => hsub1_ k_ h_))); have n2_ := Aside0.mk ((hback1_ _ _ hkr_ hsr_)); clear HK HS; have HK := n1_; have HS := n2_; clear n1_ n2_) | ((with_reducible refine gate_dst (N := 39) rfl ?_); refine goesL_ (some 39) rfl rfl Try.func9 (by kernel_rfl) rfl #[] rfl (by (try simp only [List.map_toArray, List.map_cons, List.map_nil]); first | done | rfl | (simp; done)) ?_; have hs0_ := HS.out; (with_reducible refine (frame_New.slcalls _ _ _ _ _ (HF.out.keep HK.out) hs0_  Hc7.out).mono ?_); rintro e_ w34 ⟨Az3000018, cz3000018, g3000017, rfl, hsr_, hkr_⟩; refine ⟨_, rfl, ?_⟩; have n1_ := Aside0.mk (HK.out.trans hkr_); have n2_ := Aside0.mk (hsr_); clear HK HS; have HK := n1_; have HS := n2_; clear n1_ n2_) | ((with_reducible refine gate_dst (N := 42) rfl ?_); refine wpList_plain rfl (fun K_ hK_ => ?_); refine op_row (S := S) (enc := Value.int .u8) (h1 := fun _ => rfl) 5 y231 #[.int .u8 129, .int .u8 32] 2 (by rw [← Ny231.out]; rfl) (by rw [← Ny231.out]; rfl) (by decide) (HF.out.keep HK.out) HS.out (by first | (go_simp; done) | (go_simp; rfl)) ?_; intro Az3000019 cz3000019 w35 hs_ hk_; refine hK_ _ _ ?_; clear hK_ K_; have n1_ := Aside0.mk (HK.out.trans hk_); have n2_ := Aside0.mk ((show SL (row (Kd.int .u8) 5 (.slice Az3000019 2 cz3000019) y231 :: _) _ _ from hs_)); clear HK HS; have HK := n1_; have HS := n2_; clear n1_ n2_) | ((with_reducible refine gate_dst (N := 43) rfl ?_); refine goesL_ (some 43) rfl rfl Try.func10 (by kernel_rfl) rfl #[.pointer (some ⟨g3000017, 0, none⟩), .slice Az3000019 2 cz3000019] rfl (by (try simp only [List.map_toArray, List.map_cons, List.map_nil]); first | done | rfl | (simp; done)) ?_; have el3000019_ := Aside0.mk (SL.row_c HS.out).1; refine calls_of_args (args' := #[.pointer (some ⟨g3000017, 0, none⟩), .slice Az3000019 y231.length cz3000019]) (by rw [← el3000019_.out]) ?_; have hs0_ := (SL.get2 (SL.get2 (SL.get2 HS.out))); obtain ⟨U1_, hfU1_, hsub1_, hs1_, hro1_, hback1_⟩ := SL.lend (HF.out.keep HK.out) hs0_ (p := fun w_ => Kd.C (Kd.int .u8) w_ Az3000019 2 y231) (fun w_ T_ h_ => (Qs_c h_).2.2); (with_reducible refine (frame_Feed_Push.slcalls k _ _ _ _ _ _ _ _ _ _ _ _ _ _ _ hfU1_ hs1_ (by rw [← el3000019_.out]; exact hro1_) (by rw [← el3000019_.out]; exact (SL.row_c HS.out).2.1) Hc8.out).mono ?_); rintro e_ w36 ⟨Az3000020, cz3000020, A235, c236, rfl, hsr_, hkr_⟩; refine ⟨_, rfl, ?_⟩; have n1_ := Aside0.mk (HK.out.trans (Keep.sub hkr_ (fun k_ h_ => hsub1_ k_ h_))); have n2_ := Aside0.mk ((hback1_ _ _ hkr_ hsr_)); clear HK HS; have HK := n1_; have HS := n2_; clear n1_ n2_) | ((with_reducible refine gate_dst (N := 47) rfl ?_); refine wpList_plain rfl (fun K_ hK_ => ?_); refine op_row (S := S) (enc := Value.int .u8) (h1 := fun _ => rfl) 5 y238 #[.int .u8 97, .int .u8 98] 2 (by rw [← Ny238.out]; rfl) (by rw [← Ny238.out]; rfl) (by decide) (HF.out.keep HK.out) HS.out (by first | (go_simp; done) | (go_simp; rfl)) ?_; intro Az3000021 cz3000021 w37 hs_ hk_; refine hK_ _ _ ?_; clear hK_ K_; have n1_ := Aside0.mk (HK.out.trans hk_); have n2_ := Aside0.mk ((show SL (row (Kd.int .u8) 5 (.slice Az3000021 2 cz3000021) y238 :: _) _ _ from hs_)); clear HK HS; have HK := n1_; have HS := n2_; clear n1_ n2_) | ((with_reducible refine gate_dst (N := 48) rfl ?_); refine wpList_plain rfl (fun K_ hK_ => ?_); refine op_mark (S := S) 23 5 (.tmp 47) Try.underlying23 Try.underlying5 rfl rfl (by decide) HS.out ?_; intro w38 hs_ hk_; refine hK_ _ _ ?_; clear hK_ K_; have n1_ := Aside0.mk (HK.out.trans hk_); have n2_ := Aside0.mk ((show SL (seenR (Kd.int .u8) (.slice Az3000021 2 cz3000021) y238 :: _) _ _ from hs_)); clear HK HS; have HK := n1_; have HS := n2_; clear n1_ n2_) | ((with_reducible refine gate_dst (N := 49) rfl ?_); refine goesL_ (some 49) rfl rfl Try.func15 (by kernel_rfl) rfl #[.slice Az3000021 2 cz3000021] rfl (by (try simp only [List.map_toArray, List.map_cons, List.map_nil]); first | done | rfl | (simp; done)) ?_; have el3000021_ := Aside0.mk (seen_c HS.out).1; refine calls_of_args (args' := #[.slice Az3000021 y238.length cz3000021]) (by rw [← el3000021_.out]) ?_; (with_reducible refine (frame_Wrap.calls k _ _ _ _ _ _ (by have e_ := (seen_c HS.out).1; have h_ := (seen_c HS.out).2.2; rw [e_] at h_; exact h_) (by have e_ := (seen_c HS.out).1; have h_ := (seen_c HS.out).2.1; omega) Hc9.out).mono ?_); rintro e_ w39 ⟨v3000022_, rfl, ho3000022_, hb_⟩; refine ⟨_, rfl, ?_⟩; have hs_ := (SL.new (HF.out.keep HK.out) HS.out hb_ (row_of_R ho3000022_)).1; obtain ⟨Az3000022, cz3000022, e2_, _, _⟩ := SL.row_reads hs_; subst e2_; have n1_ := Aside0.mk (HK.out.trans (Keep.below hb_)); have n2_ := Aside0.mk (hs_); clear HK HS; have HK := n1_; have HS := n2_; clear n1_ n2_; have pq241 : 0 ≤ (0 : Int) := (by omega); have qq241 : 0 < ((t209.length : Int) : Int) := of_decide_eq_true (by first | (with_reducible assumption) | assumption); obtain ⟨adq241, Aq241_0, cq241_0, eq241, hxq241_0, hiq241, hlq241⟩ := rows_at (SL.get13 HS.out) rfl 0 pq241 qq241 y242 Ny242.out; have HVq241_0 := Aside0.mk hiq241; have HCq241_0 := Aside0.mk hlq241; clear hiq241 hlq241; cases eq241; (try rw [show ((0 : Int)).toNat = 0 from rfl] at hxq241_0); (try rw [Addr.add_zero'] at hxq241_0); have qiq241 : (0 < t209.length) = True := eq_true (by omega); replace pq241 := eq_true pq241; replace qq241 := eq_true qq241; have hcs41 := Kd.C_string (P := Try.prog) (A := Aq241_0) (c := cq241_0) Try.underlying23 Try.underlying5 Try.underlying9 HVq241_0.out; have pq243 : 0 ≤ (1 : Int) := (by omega); have qq243 : 1 < ((t209.length : Int) : Int) := of_decide_eq_true (by first | (with_reducible assumption) | assumption); obtain ⟨adq243, Aq243_0, cq243_0, eq243, hxq243_0, hiq243, hlq243⟩ := rows_at (SL.get13 HS.out) rfl 1 pq243 qq243 y244 Ny244.out; have HVq243_0 := Aside0.mk hiq243; have HCq243_0 := Aside0.mk hlq243; clear hiq243 hlq243; obtain rfl : adq241 = adq243 := (by injection eq243); (try rw [show ((1 : Int)).toNat = 1 from rfl] at hxq243_0); (try simp only [show (1 : Int).toNat = 1 from rfl, Nat.reduceMul, Nat.reduceEqDiff, Go.Addr.add, ↓reduceIte] at hxq243_0); have qiq243 : (1 < t209.length) = True := eq_true (by omega); replace pq243 := eq_true pq243; replace qq243 := eq_true qq243) | ((with_reducible refine gate_dst (N := 92) rfl ?_); (try (refine gate_guard (by rfl) ?_; dsimp only)); refine goesL_ (some 92) rfl rfl Try.func14 (by kernel_rfl) rfl #[.pointer (some ⟨g3000013, 0, none⟩)] rfl (by (try simp only [List.map_toArray, List.map_cons, List.map_nil]); first | done | rfl | (simp; done)) ?_; have hs0_ := (SL.get8 (SL.get8 HS.out)); (with_reducible refine (frame_Feed_Dead.slcalls _ _ _ _ _ _ _ _ _ _ _ (HF.out.keep HK.out) hs0_  Hc20.out).mono ?_); rintro e_ w42 ⟨A247, c248, rfl, hsr_, hkr_⟩; refine ⟨_, rfl, ?_⟩; have n1_ := Aside0.mk (HK.out.trans hkr_); have n2_ := Aside0.mk (hsr_); clear HK HS; have HK := n1_; have HS := n2_; clear n1_ n2_; have hcs44 := Kd.C_string (P := Try.prog) (A := Az3000022) (c := cz3000022) Try.underlying23 Try.underlying5 Try.underlying9 (SL.row_c (SL.get2 HS.out)).2.2))
                              go_ret
                              have n2_ := Aside0.mk (SL.tail (SL.tail (SL.tail (SL.tail (SL.tail (SL.tail (SL.tail (SL.tail (SL.tail (SL.tail (SL.tail (SL.tail (SL.tail (SL.tail (SL.tail (SL.tail HS.out))))))))))))))))
                              clear HS
                              have HS := n2_
                              clear n2_
                              unfold barrowlaw04_small.Post
                              exact ⟨by first | rfl | (simp; done) | (simp [*]; done), HS.out, HK.out⟩
                            · rw [if_neg c24] at H
                              exact absurd H (by simp)
                          · rw [if_neg c23] at H
                            exact absurd H (by simp)
                        · rw [if_neg c22] at H
                          exact absurd H (by simp)
                      · replace c21 := Bool.eq_false_iff.mpr c21
                        subst c21
                        rw [if_neg (show ¬ (false = true) by decide)] at H
                        exact absurd H (by simp)
                    · rw [if_neg c19] at H
                      exact absurd H (by simp)
                  · rw [if_neg c18] at H
                    exact absurd H (by simp)
                · rw [if_neg c17] at H
                  exact absurd H (by simp)
              · rw [if_neg c16] at H
                exact absurd H (by simp)
            · rw [if_neg c15] at H
              exact absurd H (by simp)
          · rw [if_neg c14] at H
            exact absurd H (by simp)
        · rw [if_neg c13] at H
          exact absurd H (by simp)
      · rw [if_neg c12] at H
        exact absurd H (by simp)
    · rw [if_neg c11] at H
      exact absurd H (by simp)
  · rw [if_neg c10] at H
    exact absurd H (by simp)
theorem barrowlaw04_small.calls (k : Nat)  (r : Bool) (w : World) (h : barrowlaw04_small.f k  = some r) :
    Calls Try.prog 7 #[] w fun e w' => e = .returned (.bool r) ∧ Below w.heap.size w w' :=
  (barrowlaw04_small.slcalls k  r (news w) [] w (fresh_news w) trivial h).mono fun _ _ h => ⟨h.1, h.2.2.to_below⟩

end Go.Proofs.Ytdlpijeceigbnaa.XFR
