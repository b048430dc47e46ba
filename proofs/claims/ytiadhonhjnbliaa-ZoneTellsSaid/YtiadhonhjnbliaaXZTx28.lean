-- Written by xprint.py (a program of this session) for this claim
import Derived.Test.YtiadhonhjnbliaaSq
import Derived.Test.YtiadhonhjnbliaaSL5
import Derived.Test.YtiadhonhjnbliaaXZTx0
import Derived.Test.YtiadhonhjnbliaaXZTx9
import Derived.Test.YtiadhonhjnbliaaXZTx10
import Derived.Test.YtiadhonhjnbliaaXZTx11
import Derived.Test.YtiadhonhjnbliaaXZTx12
import Derived.Test.YtiadhonhjnbliaaXZTx13
import Derived.Test.YtiadhonhjnbliaaXZTx15
namespace Go.Proofs.Ytiadhonhjnbliaa.XZT
open Go.Proofs.YtiadhonhjnbliaaV Go.Proofs.YtiadhonhjnbliaaS
open Go.RowKit Go.Proofs.YtiadhonhjnbliaaW.PrintWords Go.Proofs.YtiadhonhjnbliaaW.PrintLast Go.Proofs.YtiadhonhjnbliaaW.PrintMore
attribute [local go_sem] max2_int min2_int max_two min_two max_three min_three max_four min_four   -- for this text's walks alone
set_option linter.unusedVariables false
set_option linter.unusedSimpArgs false

/-! ### barrowlaw33_small: function 7 -/
def barrowlaw33_small.f (k : Nat)  : Option (Bool) := (barrowlaw33_circle.f 0 2 2).bind fun bt341 => ((zone_Add.f k ([] : List (S37)) bt341.1 bt341.2.1 bt341.2.2.1 bt341.2.2.2.1 bt341.2.2.2.2.1 bt341.2.2.2.2.2.1 bt341.2.2.2.2.2.2.1 bt341.2.2.2.2.2.2.2.1 bt341.2.2.2.2.2.2.2.2.1 bt341.2.2.2.2.2.2.2.2.2.1 bt341.2.2.2.2.2.2.2.2.2.2.1 bt341.2.2.2.2.2.2.2.2.2.2.2.1 bt341.2.2.2.2.2.2.2.2.2.2.2.2.1 bt341.2.2.2.2.2.2.2.2.2.2.2.2.2.1 bt341.2.2.2.2.2.2.2.2.2.2.2.2.2.2.1 bt341.2.2.2.2.2.2.2.2.2.2.2.2.2.2.2 0 5).bind fun bt357 => ((some (([(⟨7, 1, 0, 1, 0, 0, 0, (⟨1, 0⟩ : S31), 0⟩ : S44), (⟨8, 1, 0, 1, 0, 0, 0, (⟨3, 0⟩ : S31), 0⟩ : S44), (⟨9, 2, 0, 0, 0, 0, 0, (⟨0, 0⟩ : S31), 0⟩ : S44)] : List (S44)) : List (S44))).bind fun y360 => ((zone_Tick.f k bt357.1 y360 2).bind fun bt361 => ((zone_Tick.f k bt361.1 y360 3).bind fun bt363 => ((zone_Tick.f k bt363.1 y360 5).bind fun bt365 => ((zone_Shift.f k bt357.1 1 3 0).bind fun bt367 => ((zone_Tick.f k bt367.1 y360 2).bind fun bt369 => (if bt357.2.2 = 0 then (if bt357.2.1 = 1 then ((zone_Right.f k bt357.1).bind fun t371 => (if t371 = true then ((some (([(⟨1, 7⟩ : S56)] : List (S56)) : List (S56))).bind fun y372 => ((barrowref33_SameHits.f k bt361.2 y372).bind fun t373 => (if t373 = true then (if (bt363.2.length : Int) = 0 then (if (bt365.1.length : Int) = 0 then (if (bt365.2.length : Int) = 1 then (if bt367.2 = 0 then (if (bt369.2.length : Int) = 2 then ((zone_Of.f k bt357.1 0).bind fun t374 => ((some (([1] : List Int) : List Int)).bind fun y375 => ((barrowref02_Same.f k t374 y375).bind fun t376 => (some t376)))) else (none)) else (none)) else (none)) else (none)) else (none)) else (none)))) else (none))) else (none)) else (none)))))))))
theorem barrowlaw33_small.mono : ∀ k, LeO (barrowlaw33_small.f k ) (barrowlaw33_small.f (k + 1) ) := by
 intro  k
 unfold barrowlaw33_small.f
 repeat' first
   | (with_reducible exact barrowref02_Same.mono _ _ _)
   | (with_reducible exact barrowref33_SameHits.mono _ _ _)
   | (with_reducible exact zone_Add.mono _ _ _ _ _ _ _ _ _ _ _ _ _ _ _ _ _ _ _ _)
   | (with_reducible exact zone_Of.mono _ _ _)
   | (with_reducible exact zone_Right.mono _ _)
   | (with_reducible exact zone_Shift.mono _ _ _ _ _)
   | (with_reducible exact zone_Tick.mono _ _ _ _)
   | (with_reducible exact LeO.refl _)
   | (with_reducible exact LeO.none _)
   | (with_reducible refine LeO.ite ?_ ?_)
   | (with_reducible refine everyOf_le (fun _ => ?_))
   | (with_reducible refine LeO.bind ?_ (fun _ => ?_))
   | exact barrowref02_Same.mono _ _ _
   | exact barrowref33_SameHits.mono _ _ _
   | exact zone_Add.mono _ _ _ _ _ _ _ _ _ _ _ _ _ _ _ _ _ _ _ _
   | exact zone_Of.mono _ _ _
   | exact zone_Right.mono _ _
   | exact zone_Shift.mono _ _ _ _ _
   | exact zone_Tick.mono _ _ _ _
   | exact LeO.none _
   | refine LeO.ite ?_ ?_
   | refine LeO.bind ?_ (fun _ => ?_)
def barrowlaw33_small.Post (r : Bool) (S : Nat → Prop) (L : List Asr) (w : World) (e : Ending) (w' : World) : Prop := e = .returned (.bool r) ∧ SL (L) w' S ∧ Keep S w w'
set_option maxHeartbeats 8000000 in
set_option maxRecDepth 100000 in
theorem barrowlaw33_small.slcalls (k : Nat)  (r : Bool) (S : Nat → Prop) (L : List Asr) (w : World) (hf : Fresh S w) (hs : SL (L) w S) (h : barrowlaw33_small.f k  = some r) :
  Calls Try.prog 7 #[] w (barrowlaw33_small.Post r S L w) := by
 have HF := Aside0.mk hf
 have HS := Aside0.mk hs
 have HK := Aside0.mk (Keep.refl S w)
 clear hf hs
 have hu31 := Try.underlying31
 have hu44 := Try.underlying44
 have hu56 := Try.underlying56
 have H : ((barrowlaw33_circle.f 0 2 2).bind fun bt341 => ((zone_Add.f k ([] : List (S37)) bt341.1 bt341.2.1 bt341.2.2.1 bt341.2.2.2.1 bt341.2.2.2.2.1 bt341.2.2.2.2.2.1 bt341.2.2.2.2.2.2.1 bt341.2.2.2.2.2.2.2.1 bt341.2.2.2.2.2.2.2.2.1 bt341.2.2.2.2.2.2.2.2.2.1 bt341.2.2.2.2.2.2.2.2.2.2.1 bt341.2.2.2.2.2.2.2.2.2.2.2.1 bt341.2.2.2.2.2.2.2.2.2.2.2.2.1 bt341.2.2.2.2.2.2.2.2.2.2.2.2.2.1 bt341.2.2.2.2.2.2.2.2.2.2.2.2.2.2.1 bt341.2.2.2.2.2.2.2.2.2.2.2.2.2.2.2 0 5).bind fun bt357 => ((some (([(⟨7, 1, 0, 1, 0, 0, 0, (⟨1, 0⟩ : S31), 0⟩ : S44), (⟨8, 1, 0, 1, 0, 0, 0, (⟨3, 0⟩ : S31), 0⟩ : S44), (⟨9, 2, 0, 0, 0, 0, 0, (⟨0, 0⟩ : S31), 0⟩ : S44)] : List (S44)) : List (S44))).bind fun y360 => ((zone_Tick.f k bt357.1 y360 2).bind fun bt361 => ((zone_Tick.f k bt361.1 y360 3).bind fun bt363 => ((zone_Tick.f k bt363.1 y360 5).bind fun bt365 => ((zone_Shift.f k bt357.1 1 3 0).bind fun bt367 => ((zone_Tick.f k bt367.1 y360 2).bind fun bt369 => (if bt357.2.2 = 0 then (if bt357.2.1 = 1 then ((zone_Right.f k bt357.1).bind fun t371 => (if t371 = true then ((some (([(⟨1, 7⟩ : S56)] : List (S56)) : List (S56))).bind fun y372 => ((barrowref33_SameHits.f k bt361.2 y372).bind fun t373 => (if t373 = true then (if (bt363.2.length : Int) = 0 then (if (bt365.1.length : Int) = 0 then (if (bt365.2.length : Int) = 1 then (if bt367.2 = 0 then (if (bt369.2.length : Int) = 2 then ((zone_Of.f k bt357.1 0).bind fun t374 => ((some (([1] : List Int) : List Int)).bind fun y375 => ((barrowref02_Same.f k t374 y375).bind fun t376 => (some t376)))) else (none)) else (none)) else (none)) else (none)) else (none)) else (none)))) else (none))) else (none)) else (none)))))))))) = some r := h
 clear h
 replace H := Option.bind_eq_some_iff.1 H
 obtain ⟨⟨t341, t342, t343, t344, t345, t346, t347, t348, t349, t350, t351, t352, t353, t354, t355, t356⟩, Hc10, H⟩ := H
 try dsimp only at H
 have Hc1 := Aside0.mk Hc10
 clear Hc10
 replace H := Option.bind_eq_some_iff.1 H
 obtain ⟨⟨t357, t358, t359⟩, Hc20, H⟩ := H
 try dsimp only at H
 have Hc2 := Aside0.mk Hc20
 clear Hc20
 replace H := Option.bind_eq_some_iff.1 H
 obtain ⟨y360, hy3600, H⟩ := H
 try dsimp only at H
 have hy360 := Option.some.inj hy3600
 clear hy3600
 have Ny360 := Aside0.mk hy360
 clear hy360
 replace H := Option.bind_eq_some_iff.1 H
 obtain ⟨⟨t361, t362⟩, Hc30, H⟩ := H
 try dsimp only at H
 have Hc3 := Aside0.mk Hc30
 clear Hc30
 replace H := Option.bind_eq_some_iff.1 H
 obtain ⟨⟨t363, t364⟩, Hc40, H⟩ := H
 try dsimp only at H
 have Hc4 := Aside0.mk Hc40
 clear Hc40
 replace H := Option.bind_eq_some_iff.1 H
 obtain ⟨⟨t365, t366⟩, Hc50, H⟩ := H
 try dsimp only at H
 have Hc5 := Aside0.mk Hc50
 clear Hc50
 replace H := Option.bind_eq_some_iff.1 H
 obtain ⟨⟨t367, t368⟩, Hc60, H⟩ := H
 try dsimp only at H
 have Hc6 := Aside0.mk Hc60
 clear Hc60
 replace H := Option.bind_eq_some_iff.1 H
 obtain ⟨⟨t369, t370⟩, Hc70, H⟩ := H
 try dsimp only at H
 have Hc7 := Aside0.mk Hc70
 clear Hc70
 by_cases c8 : t359 = 0
 ·rw [if_pos c8] at H
  have c8b0 : (t359 == 0) = true := beq_iff_eq.mpr c8
  have c8b1 : (t359 != 0) = false := bne_eq_false_iff_eq.mpr c8
  clear c8
  by_cases c9 : t358 = 1
  ·rw [if_pos c9] at H
   have c9b0 : (t358 == 1) = true := beq_iff_eq.mpr c9
   have c9b1 : (t358 != 1) = false := bne_eq_false_iff_eq.mpr c9
   clear c9
   replace H := Option.bind_eq_some_iff.1 H
   obtain ⟨t371, Hc100, H⟩ := H
   try dsimp only at H
   have Hc10 := Aside0.mk Hc100
   clear Hc100
   by_cases c11 : t371 = true
   ·subst c11
    rw [if_pos rfl] at H
    replace H := Option.bind_eq_some_iff.1 H
    obtain ⟨y372, hy3720, H⟩ := H
    try dsimp only at H
    have hy372 := Option.some.inj hy3720
    clear hy3720
    have Ny372 := Aside0.mk hy372
    clear hy372
    replace H := Option.bind_eq_some_iff.1 H
    obtain ⟨t373, Hc120, H⟩ := H
    try dsimp only at H
    have Hc12 := Aside0.mk Hc120
    clear Hc120
    by_cases c13 : t373 = true
    ·subst c13
     rw [if_pos rfl] at H
     by_cases c14 : (t364.length : Int) = 0
     ·rw [if_pos c14] at H
      have c14b0 : ((t364.length : Int) == 0) = true := beq_iff_eq.mpr c14
      have c14b1 : ((t364.length : Int) != 0) = false := bne_eq_false_iff_eq.mpr c14
      clear c14
      by_cases c15 : (t365.length : Int) = 0
      ·rw [if_pos c15] at H
       have c15b0 : ((t365.length : Int) == 0) = true := beq_iff_eq.mpr c15
       have c15b1 : ((t365.length : Int) != 0) = false := bne_eq_false_iff_eq.mpr c15
       clear c15
       by_cases c16 : (t366.length : Int) = 1
       ·rw [if_pos c16] at H
        have c16b0 : ((t366.length : Int) == 1) = true := beq_iff_eq.mpr c16
        have c16b1 : ((t366.length : Int) != 1) = false := bne_eq_false_iff_eq.mpr c16
        clear c16
        by_cases c17 : t368 = 0
        ·rw [if_pos c17] at H
         have c17b0 : (t368 == 0) = true := beq_iff_eq.mpr c17
         have c17b1 : (t368 != 0) = false := bne_eq_false_iff_eq.mpr c17
         clear c17
         by_cases c18 : (t370.length : Int) = 2
         ·rw [if_pos c18] at H
          have c18b0 : ((t370.length : Int) == 2) = true := beq_iff_eq.mpr c18
          have c18b1 : ((t370.length : Int) != 2) = false := bne_eq_false_iff_eq.mpr c18
          clear c18
          replace H := Option.bind_eq_some_iff.1 H
          obtain ⟨t374, Hc190, H⟩ := H
          try dsimp only at H
          have Hc19 := Aside0.mk Hc190
          clear Hc190
          replace H := Option.bind_eq_some_iff.1 H
          obtain ⟨y375, hy3750, H⟩ := H
          try dsimp only at H
          have hy375 := Option.some.inj hy3750
          clear hy3750
          have Ny375 := Aside0.mk hy375
          clear hy375
          replace H := Option.bind_eq_some_iff.1 H
          obtain ⟨t376, Hc200, H⟩ := H
          try dsimp only at H
          have Hc20 := Aside0.mk Hc200
          clear Hc200
          obtain rfl := Option.some.inj H
          go_enter Try.func7, Try.ntmps7
          go_wp2_with (first | ((with_reducible refine gate_dst (N := 16) rfl ?_); refine goesL_ (some 16) rfl rfl Try.func13 (by kernel_rfl) rfl #[.int .i64 0, .int .i64 2, .int .i64 2] rfl (by (try simp only [List.map_toArray, List.map_cons, List.map_nil]); first | done | rfl | (simp; done)) ?_; (with_reducible refine (barrowlaw33_circle.calls _ _ _ _ _ _ _ _ _ _ _ _ _ _ _ _ _ _ _ _  Hc1.out).mono ?_); rintro e_ w21 ⟨rfl, hb_⟩; refine ⟨_, rfl, ?_⟩; replace HS := Aside0.mk (HS.out.below hb_); replace HK := Aside0.mk (HK.out.trans (Keep.below hb_))) | ((with_reducible refine gate_dst (N := 17) rfl ?_); refine goesL_ (some 17) rfl rfl Try.func12 (by kernel_rfl) rfl #[.slice none 0 0, .agg #[.int .i64 t341, .int .i64 t342, .int .i64 t343, .int .i64 t344, .int .i64 t345, .int .i64 t346, .int .i64 t347, .int .i64 t348, .int .i64 t349, .int .i64 t350, .int .i64 t351, .int .i64 t352, .int .i64 t353, .int .i64 t354, .int .i64 t355, .int .i64 t356], .int .i64 0, .int .i64 5] rfl (by (try simp only [List.map_toArray, List.map_cons, List.map_nil]); first | done | rfl | (simp; done)) ?_; have hs0_ := HS.out; (refine (zone_Add.slcalls k _ _ _ _ _ _ _ _ _ _ _ _ _ _ _ _ _ _ _ _ _ _ _ _ _ _ _ (HF.out.keep HK.out) hs0_ (fun w_ _ => Kd.C_nil _ _) (Nat.le_refl _) Hc2.out).mono ?_); rintro e_ w22 ⟨Az3000033, cz3000033, rfl, hsr_, hkr_⟩; refine ⟨_, rfl, ?_⟩; replace HS := Aside0.mk (hsr_); replace HK := Aside0.mk (HK.out.trans hkr_)) | ((with_reducible refine gate_dst (N := 26) rfl ?_); refine wpList_plain rfl (fun K_ hK_ => ?_); refine op_rowF (S := S) (d := k44) ⟨fun h_ => h_⟩ 44 y360 #[.int .i64 7, .int .i64 1, .int .i64 0, .int .i64 1, .int .i64 0, .int .i64 0, .int .i64 0, .int .i64 1, .int .i64 0, .int .i64 0, .int .i64 8, .int .i64 1, .int .i64 0, .int .i64 1, .int .i64 0, .int .i64 0, .int .i64 0, .int .i64 3, .int .i64 0, .int .i64 0, .int .i64 9, .int .i64 2, .int .i64 0, .int .i64 0, .int .i64 0, .int .i64 0, .int .i64 0, .int .i64 0, .int .i64 0, .int .i64 0] 3 (by rw [← Ny360.out]; exact reps_cons (k44_mkM _ 0 _ (⟨7, 1, 0, 1, 0, 0, 0, (⟨1, 0⟩ : S31), 0⟩ : S44)) rfl (reps_cons (k44_mkM _ 0 _ (⟨8, 1, 0, 1, 0, 0, 0, (⟨3, 0⟩ : S31), 0⟩ : S44)) rfl (reps_cons (k44_mkM _ 0 _ (⟨9, 2, 0, 0, 0, 0, 0, (⟨0, 0⟩ : S31), 0⟩ : S44)) rfl (Reps.none _ _)))) (by rw [← Ny360.out]; rfl) (by decide) (HF.out.keep HK.out) HS.out (by first | (go_simp; done) | (go_simp; rfl)) ?_; intro Az3000034 cz3000034 w23 hs_ hk_; refine hK_ _ _ ?_; clear hK_ K_; replace HS := Aside0.mk ((show SL (row k44 44 (.slice Az3000034 3 cz3000034) y360 :: _) _ _ from hs_)); replace HK := Aside0.mk (HK.out.trans hk_)) | ((with_reducible refine gate_dst (N := 30) rfl ?_); refine goesL_ (some 30) rfl rfl Try.func8 (by kernel_rfl) rfl #[.slice Az3000033 t357.length cz3000033, .slice Az3000034 3 cz3000034, .int .i64 2] rfl (by (try simp only [List.map_toArray, List.map_cons, List.map_nil]); first | done | rfl | (simp; done)) ?_; have el3000034_ := Aside0.mk (SL.row_c HS.out).1; refine calls_of_args (args' := #[.slice Az3000033 t357.length cz3000033, .slice Az3000034 y360.length cz3000034, .int .i64 2]) (by rw [← el3000034_.out]) ?_; have hs0_ := (SL.get1 HS.out); obtain ⟨U1_, hfU1_, hsub1_, hs1_, hro1_, hback1_⟩ := SL.lend (HF.out.keep HK.out) hs0_ (p := fun w_ => Kd.C k37 w_ Az3000033 t357.length t357) (fun w_ T_ h_ => (Qs_c h_).2.2); obtain ⟨U2_, hfU2_, hsub2_, hs2_, hro2_, hback2_⟩ := SL.lend hfU1_ hs1_ (p := fun w_ => Kd.C k44 w_ Az3000034 3 y360) (fun w_ T_ h_ => (Qs_c h_).2.2); (with_reducible refine (zone_Tick.slcalls k _ _ _ _ _ _ _ _ _ _ _ _ hfU2_ hs2_ (RO.sub hro1_ (fun k_ h_ => hsub2_ k_ (h_))) (SL.row_c (SL.get1 HS.out)).2.1 (by rw [← el3000034_.out]; exact hro2_) (by rw [← el3000034_.out]; exact (SL.row_c HS.out).2.1) Hc3.out).mono ?_); rintro e_ w24 ⟨Az3000035, cz3000035, Az3000036, cz3000036, rfl, hsr_, hkr_⟩; refine ⟨_, rfl, ?_⟩; replace HS := Aside0.mk ((hback1_ _ _ (Keep.sub hkr_ (fun k_ h_ => hsub2_ k_ (h_))) (hback2_ _ _ hkr_ hsr_))); replace HK := Aside0.mk (HK.out.trans (Keep.sub hkr_ (fun k_ h_ => hsub1_ k_ (hsub2_ k_ h_))))) | ((with_reducible refine gate_dst (N := 36) rfl ?_); refine goesL_ (some 36) rfl rfl Try.func8 (by kernel_rfl) rfl #[.slice Az3000035 t361.length cz3000035, .slice Az3000034 3 cz3000034, .int .i64 3] rfl (by (try simp only [List.map_toArray, List.map_cons, List.map_nil]); first | done | rfl | (simp; done)) ?_; have el3000034_ := Aside0.mk (SL.row_c (SL.get1 HS.out)).1; refine calls_of_args (args' := #[.slice Az3000035 t361.length cz3000035, .slice Az3000034 y360.length cz3000034, .int .i64 3]) (by rw [← el3000034_.out]) ?_; have hs0_ := (SL.get2 (SL.get1 HS.out)); obtain ⟨U1_, hfU1_, hsub1_, hs1_, hro1_, hback1_⟩ := SL.lend (HF.out.keep HK.out) hs0_ (p := fun w_ => Kd.C k37 w_ Az3000035 t361.length t361) (fun w_ T_ h_ => (Qs_c h_).2.2); obtain ⟨U2_, hfU2_, hsub2_, hs2_, hro2_, hback2_⟩ := SL.lend hfU1_ hs1_ (p := fun w_ => Kd.C k44 w_ Az3000034 3 y360) (fun w_ T_ h_ => (Qs_c h_).2.2); (with_reducible refine (zone_Tick.slcalls k _ _ _ _ _ _ _ _ _ _ _ _ hfU2_ hs2_ (RO.sub hro1_ (fun k_ h_ => hsub2_ k_ (h_))) (SL.row_c (SL.get2 HS.out)).2.1 (by rw [← el3000034_.out]; exact hro2_) (by rw [← el3000034_.out]; exact (SL.row_c (SL.get1 HS.out)).2.1) Hc4.out).mono ?_); rintro e_ w25 ⟨Az3000037, cz3000037, Az3000038, cz3000038, rfl, hsr_, hkr_⟩; refine ⟨_, rfl, ?_⟩; replace HS := Aside0.mk ((hback1_ _ _ (Keep.sub hkr_ (fun k_ h_ => hsub2_ k_ (h_))) (hback2_ _ _ hkr_ hsr_))); replace HK := Aside0.mk (HK.out.trans (Keep.sub hkr_ (fun k_ h_ => hsub1_ k_ (hsub2_ k_ h_))))) | ((with_reducible refine gate_dst (N := 42) rfl ?_); refine goesL_ (some 42) rfl rfl Try.func8 (by kernel_rfl) rfl #[.slice Az3000037 t363.length cz3000037, .slice Az3000034 3 cz3000034, .int .i64 5] rfl (by (try simp only [List.map_toArray, List.map_cons, List.map_nil]); first | done | rfl | (simp; done)) ?_; have el3000034_ := Aside0.mk (SL.row_c (SL.get1 HS.out)).1; refine calls_of_args (args' := #[.slice Az3000037 t363.length cz3000037, .slice Az3000034 y360.length cz3000034, .int .i64 5]) (by rw [← el3000034_.out]) ?_; have hs0_ := (SL.get2 (SL.get1 HS.out)); obtain ⟨U1_, hfU1_, hsub1_, hs1_, hro1_, hback1_⟩ := SL.lend (HF.out.keep HK.out) hs0_ (p := fun w_ => Kd.C k37 w_ Az3000037 t363.length t363) (fun w_ T_ h_ => (Qs_c h_).2.2); obtain ⟨U2_, hfU2_, hsub2_, hs2_, hro2_, hback2_⟩ := SL.lend hfU1_ hs1_ (p := fun w_ => Kd.C k44 w_ Az3000034 3 y360) (fun w_ T_ h_ => (Qs_c h_).2.2); (with_reducible refine (zone_Tick.slcalls k _ _ _ _ _ _ _ _ _ _ _ _ hfU2_ hs2_ (RO.sub hro1_ (fun k_ h_ => hsub2_ k_ (h_))) (SL.row_c (SL.get2 HS.out)).2.1 (by rw [← el3000034_.out]; exact hro2_) (by rw [← el3000034_.out]; exact (SL.row_c (SL.get1 HS.out)).2.1) Hc5.out).mono ?_); rintro e_ w26 ⟨Az3000039, cz3000039, Az3000040, cz3000040, rfl, hsr_, hkr_⟩; refine ⟨_, rfl, ?_⟩; replace HS := Aside0.mk ((hback1_ _ _ (Keep.sub hkr_ (fun k_ h_ => hsub2_ k_ (h_))) (hback2_ _ _ hkr_ hsr_))); replace HK := Aside0.mk (HK.out.trans (Keep.sub hkr_ (fun k_ h_ => hsub1_ k_ (hsub2_ k_ h_))))) | ((with_reducible refine gate_dst (N := 48) rfl ?_); refine goesL_ (some 48) rfl rfl Try.func18 (by kernel_rfl) rfl #[.slice Az3000033 t357.length cz3000033, .int .i64 1, .agg #[.int .i64 3, .int .i64 0]] rfl (by (try simp only [List.map_toArray, List.map_cons, List.map_nil]); first | done | rfl | (simp; done)) ?_; have hs0_ := (SL.get6 HS.out); obtain ⟨U1_, hfU1_, hsub1_, hs1_, hro1_, hback1_⟩ := SL.lend (HF.out.keep HK.out) hs0_ (p := fun w_ => Kd.C k37 w_ Az3000033 t357.length t357) (fun w_ T_ h_ => (Qs_c h_).2.2); (with_reducible refine (zone_Shift.slcalls k _ _ _ _ _ _ _ _ _ _ _ hfU1_ hs1_ hro1_ (SL.row_c (SL.get6 HS.out)).2.1 Hc6.out).mono ?_); rintro e_ w27 ⟨Az3000041, cz3000041, rfl, hsr_, hkr_⟩; refine ⟨_, rfl, ?_⟩; replace HS := Aside0.mk ((hback1_ _ _ hkr_ hsr_)); replace HK := Aside0.mk (HK.out.trans (Keep.sub hkr_ (fun k_ h_ => hsub1_ k_ h_)))) | ((with_reducible refine gate_dst (N := 54) rfl ?_); refine goesL_ (some 54) rfl rfl Try.func8 (by kernel_rfl) rfl #[.slice Az3000041 t367.length cz3000041, .slice Az3000034 3 cz3000034, .int .i64 2] rfl (by (try simp only [List.map_toArray, List.map_cons, List.map_nil]); first | done | rfl | (simp; done)) ?_; have el3000034_ := Aside0.mk (SL.row_c (SL.get3 HS.out)).1; refine calls_of_args (args' := #[.slice Az3000041 t367.length cz3000041, .slice Az3000034 y360.length cz3000034, .int .i64 2]) (by rw [← el3000034_.out]) ?_; have hs0_ := (SL.get2 (SL.get3 HS.out)); obtain ⟨U1_, hfU1_, hsub1_, hs1_, hro1_, hback1_⟩ := SL.lend (HF.out.keep HK.out) hs0_ (p := fun w_ => Kd.C k37 w_ Az3000041 t367.length t367) (fun w_ T_ h_ => (Qs_c h_).2.2); obtain ⟨U2_, hfU2_, hsub2_, hs2_, hro2_, hback2_⟩ := SL.lend hfU1_ hs1_ (p := fun w_ => Kd.C k44 w_ Az3000034 3 y360) (fun w_ T_ h_ => (Qs_c h_).2.2); (with_reducible refine (zone_Tick.slcalls k _ _ _ _ _ _ _ _ _ _ _ _ hfU2_ hs2_ (RO.sub hro1_ (fun k_ h_ => hsub2_ k_ (h_))) (SL.row_c (SL.get1 HS.out)).2.1 (by rw [← el3000034_.out]; exact hro2_) (by rw [← el3000034_.out]; exact (SL.row_c (SL.get3 HS.out)).2.1) Hc7.out).mono ?_); rintro e_ w28 ⟨Az3000042, cz3000042, Az3000043, cz3000043, rfl, hsr_, hkr_⟩; refine ⟨_, rfl, ?_⟩; replace HS := Aside0.mk ((hback1_ _ _ (Keep.sub hkr_ (fun k_ h_ => hsub2_ k_ (h_))) (hback2_ _ _ hkr_ hsr_))); replace HK := Aside0.mk (HK.out.trans (Keep.sub hkr_ (fun k_ h_ => hsub1_ k_ (hsub2_ k_ h_))))) | ((with_reducible refine gate_dst (N := 65) rfl ?_); (try (refine gate_guard (by rfl) ?_; dsimp only)); refine goesL_ (some 65) rfl rfl Try.func14 (by kernel_rfl) rfl #[.slice Az3000033 t357.length cz3000033] rfl (by (try simp only [List.map_toArray, List.map_cons, List.map_nil]); first | done | rfl | (simp; done)) ?_; (with_reducible refine (zone_Right.calls k _ _ _ _ _ (SL.row_c (SL.get4 HS.out)).2.2 (SL.row_c (SL.get4 HS.out)).2.1 Hc10.out).mono ?_); rintro e_ w29 ⟨rfl, hb_⟩; refine ⟨_, rfl, ?_⟩; replace HS := Aside0.mk (HS.out.below hb_); replace HK := Aside0.mk (HK.out.trans (Keep.below hb_))) | ((with_reducible refine gate_dst (N := 70) rfl ?_); (try (refine gate_guard (by rfl) ?_; dsimp only)); refine wpList_plain rfl (fun K_ hK_ => ?_); refine op_rowF (S := S) (d := k56) ⟨fun h_ => h_⟩ 56 y372 #[.int .i64 1, .int .i64 7] 1 (by rw [← Ny372.out]; exact reps_cons (k56_mkM _ 0 _ (⟨1, 7⟩ : S56)) rfl (Reps.none _ _)) (by rw [← Ny372.out]; rfl) (by decide) (HF.out.keep HK.out) HS.out (by first | (go_simp; done) | (go_simp; rfl)) ?_; intro Az3000044 cz3000044 w30 hs_ hk_; refine hK_ _ _ ?_; clear hK_ K_; replace HS := Aside0.mk ((show SL (row k56 56 (.slice Az3000044 1 cz3000044) y372 :: _) _ _ from hs_)); replace HK := Aside0.mk (HK.out.trans hk_)) | ((with_reducible refine gate_dst (N := 71) rfl ?_); (try (refine gate_guard (by rfl) ?_; dsimp only)); refine goesL_ (some 71) rfl rfl Try.func11 (by kernel_rfl) rfl #[.slice Az3000036 t362.length cz3000036, .slice Az3000044 1 cz3000044] rfl (by (try simp only [List.map_toArray, List.map_cons, List.map_nil]); first | done | rfl | (simp; done)) ?_; have el3000044_ := Aside0.mk (SL.row_c HS.out).1; refine calls_of_args (args' := #[.slice Az3000036 t362.length cz3000036, .slice Az3000044 y372.length cz3000044]) (by rw [← el3000044_.out]) ?_; (with_reducible refine (barrowref33_SameHits.calls k _ _ _ _ _ _ _ _ (SL.row_c (SL.get11 HS.out)).2.2 (SL.row_c (SL.get11 HS.out)).2.1 (by have e_ := (SL.row_c HS.out).1; have h_ := (SL.row_c HS.out).2.2; rw [e_] at h_; exact h_) (by have e_ := (SL.row_c HS.out).1; have h_ := (SL.row_c HS.out).2.1; (try dsimp only at e_ h_); (try dsimp only); omega) Hc12.out).mono ?_); rintro e_ w31 ⟨rfl, hb_⟩; refine ⟨_, rfl, ?_⟩; replace hb_ := Drawn0.below hb_; replace HS := Aside0.mk (HS.out.below hb_); replace HK := Aside0.mk (HK.out.trans (Keep.below hb_))) | ((with_reducible refine gate_dst (N := 99) rfl ?_); (try (refine gate_guard (by rfl) ?_; dsimp only)); refine goesL_ (some 99) rfl rfl Try.func22 (by kernel_rfl) rfl #[.slice Az3000033 t357.length cz3000033, .int .i64 0] rfl (by (try simp only [List.map_toArray, List.map_cons, List.map_nil]); first | done | rfl | (simp; done)) ?_; (with_reducible refine (zone_Of.calls k _ _ _ _ _ _ (SL.row_c (SL.get5 HS.out)).2.2 (SL.row_c (SL.get5 HS.out)).2.1 Hc19.out).mono ?_); rintro e_ w32 ⟨v3000045_, rfl, ho3000045_, hb_⟩; refine ⟨_, rfl, ?_⟩; have hs_ := (SL.new (HF.out.keep HK.out) HS.out hb_ (row_of_R ho3000045_)).1; obtain ⟨Az3000045, cz3000045, e2_, _, _⟩ := SL.row_reads hs_; subst e2_; replace HS := Aside0.mk (hs_); replace HK := Aside0.mk (HK.out.trans (Keep.below hb_))) | ((with_reducible refine gate_dst (N := 100) rfl ?_); (try (refine gate_guard (by rfl) ?_; dsimp only)); refine wpList_plain rfl (fun K_ hK_ => ?_); refine op_row (S := S) (enc := Value.int .i64) (h1 := fun _ => rfl) 3 y375 #[.int .i64 1] 1 (by rw [← Ny375.out]; rfl) (by rw [← Ny375.out]; rfl) (by decide) (HF.out.keep HK.out) HS.out (by first | (go_simp; done) | (go_simp; rfl)) ?_; intro Az3000046 cz3000046 w33 hs_ hk_; refine hK_ _ _ ?_; clear hK_ K_; replace HS := Aside0.mk ((show SL (row (Kd.int .i64) 3 (.slice Az3000046 1 cz3000046) y375 :: _) _ _ from hs_)); replace HK := Aside0.mk (HK.out.trans hk_)) | ((with_reducible refine gate_dst (N := 101) rfl ?_); (try (refine gate_guard (by rfl) ?_; dsimp only)); refine goesL_ (some 101) rfl rfl Try.func21 (by kernel_rfl) rfl #[.slice Az3000045 t374.length cz3000045, .slice Az3000046 1 cz3000046] rfl (by (try simp only [List.map_toArray, List.map_cons, List.map_nil]); first | done | rfl | (simp; done)) ?_; have el3000046_ := Aside0.mk (SL.row_c HS.out).1; refine calls_of_args (args' := #[.slice Az3000045 t374.length cz3000045, .slice Az3000046 y375.length cz3000046]) (by rw [← el3000046_.out]) ?_; (with_reducible refine (barrowref02_Same.calls k _ _ _ _ _ _ _ _ (SL.row_c (SL.get1 HS.out)).2.2 (SL.row_c (SL.get1 HS.out)).2.1 (by have e_ := (SL.row_c HS.out).1; have h_ := (SL.row_c HS.out).2.2; rw [e_] at h_; exact h_) (by have e_ := (SL.row_c HS.out).1; have h_ := (SL.row_c HS.out).2.1; (try dsimp only at e_ h_); (try dsimp only); omega) Hc20.out).mono ?_); rintro e_ w34 ⟨rfl, hb_⟩; refine ⟨_, rfl, ?_⟩; replace hb_ := Drawn0.below hb_; replace HS := Aside0.mk (HS.out.below hb_); replace HK := Aside0.mk (HK.out.trans (Keep.below hb_))))
          go_ret
          replace HS := Aside0.mk (SL.tail (SL.tail (SL.tail (SL.tail (SL.tail (SL.tail (SL.tail (SL.tail (SL.tail (SL.tail (SL.tail (SL.tail (SL.tail (SL.tail HS.out))))))))))))))
          unfold barrowlaw33_small.Post
          exact ⟨by first | rfl | (simp; done) | (simp [*]; done) | (simp at c18b0 ⊢; first | exact c18b0 | (simp [c18b0]; done)), HS.out, HK.out⟩
         ·rw [if_neg c18] at H
          exact absurd H (by simp)
        ·rw [if_neg c17] at H
         exact absurd H (by simp)
       ·rw [if_neg c16] at H
        exact absurd H (by simp)
      ·rw [if_neg c15] at H
       exact absurd H (by simp)
     ·rw [if_neg c14] at H
      exact absurd H (by simp)
    ·replace c13 := Bool.eq_false_iff.mpr c13
     subst c13
     rw [if_neg (show ¬ (false = true) by decide)] at H
     exact absurd H (by simp)
   ·replace c11 := Bool.eq_false_iff.mpr c11
    subst c11
    rw [if_neg (show ¬ (false = true) by decide)] at H
    exact absurd H (by simp)
  ·rw [if_neg c9] at H
   exact absurd H (by simp)
 ·rw [if_neg c8] at H
  exact absurd H (by simp)
theorem barrowlaw33_small.calls (k : Nat)  (r : Bool) (w : World) (h : barrowlaw33_small.f k  = some r) :
  Calls Try.prog 7 #[] w fun e w' => e = .returned (.bool r) ∧ Below w.heap.size w w' :=
 (barrowlaw33_small.slcalls k  r (news w) [] w (fresh_news w) trivial h).mono fun _ _ h => ⟨h.1, h.2.2.to_below⟩

end Go.Proofs.Ytiadhonhjnbliaa.XZT
