-- Written by xprint.py (a program of this session) for this claim
import Derived.Test.YtebllndphechmaaSL5
import Derived.Test.YtebllndphechmaaXOBx0
import Derived.Test.YtebllndphechmaaXOBx1
namespace Go.Proofs.Ytebllndphechmaa.XOB
open Go.Proofs.YtebllndphechmaaV Go.Proofs.YtebllndphechmaaS
open Go.RowKit Go.Proofs.YtebllndphechmaaW.PrintWords Go.Proofs.YtebllndphechmaaW.PrintLast Go.Proofs.YtebllndphechmaaW.PrintMore
attribute [local go_sem] max2_int min2_int max_two min_two max_three min_three max_four min_four   -- for this text's walks alone
set_option linter.unusedVariables false
set_option linter.unusedSimpArgs false

/-! ### barrowlaw26_small: function 5 -/
def barrowlaw26_small.f (k : Nat)  : Option (Bool) := (outbox_New.f k 2).bind fun bt109 => ((some (([97] : List Int) : List Int)).bind fun y111 => ((outbox_Box_Put.f k y111 bt109.1 bt109.2).bind fun bt121 => ((some (([98] : List Int) : List Int)).bind fun y124 => ((outbox_Box_Put.f k y124 bt121.2.1 bt121.2.2).bind fun bt125 => ((some (([99] : List Int) : List Int)).bind fun y128 => ((outbox_Box_Put.f k y128 bt125.2.1 bt125.2.2).bind fun bt129 => ((outbox_Box_Len_i1.f bt129.2.1 bt129.2.2).bind fun t132 => ((outbox_Box_Lost_i1.f bt129.2.1 bt129.2.2).bind fun t133 => ((outbox_Box_Again_i1.f k bt129.2.1 bt129.2.2).bind fun bt137 => ((some (([100] : List Int) : List Int)).bind fun y139 => ((outbox_Box_Put.f k y139 bt137.1 bt137.2).bind fun bt140 => ((outbox_Box_Drain_i1.f k 5 bt140.2.1 bt140.2.2).bind fun bt168 => (if bt121.1 = true then (if bt125.1 = true then (if bt129.1 = true then (none) else (if t132 = 0 then (if t133 = true then (if bt140.1 = true then (if (bt168.1.length : Int) = 1 then (if 0 < (bt168.1.length : Int) then ((some (rd_L1 bt168.1 0 : List Int)).bind fun y171 => (if (strOfNums y171).toList = ([100] : List UInt8) then ((outbox_Box_Len_i1.f bt140.2.1 bt168.2).bind fun t172 => (if t172 = 0 then ((outbox_Box_Lost_i1.f bt140.2.1 bt168.2).bind fun t173 => (if t173 = true then (none) else (some true))) else (none))) else (none))) else (none)) else (none)) else (none)) else (none)) else (none))) else (none)) else (none))))))))))))))
theorem barrowlaw26_small.mono : ∀ k, LeO (barrowlaw26_small.f k ) (barrowlaw26_small.f (k + 1) ) := by
  intro  k
  unfold barrowlaw26_small.f
  repeat' first
      | (with_reducible exact outbox_Box_Again_i1.mono _ _ _)
      | (with_reducible exact outbox_Box_Drain_i1.mono _ _ _ _)
      | (with_reducible exact outbox_Box_Put.mono _ _ _ _)
      | (with_reducible exact outbox_New.mono _ _)
      | (with_reducible exact LeO.refl _)
      | (with_reducible exact LeO.none _)
      | (with_reducible refine LeO.ite ?_ ?_)
      | (with_reducible refine everyOf_le (fun _ => ?_))
      | (with_reducible refine LeO.bind ?_ (fun _ => ?_))
      | exact outbox_Box_Again_i1.mono _ _ _
      | exact outbox_Box_Drain_i1.mono _ _ _ _
      | exact outbox_Box_Put.mono _ _ _ _
      | exact outbox_New.mono _ _
      | exact LeO.none _
      | refine LeO.ite ?_ ?_
      | refine LeO.bind ?_ (fun _ => ?_)
def barrowlaw26_small.Post (r : Bool) (S : Nat → Prop) (L : List Asr) (w : World) (e : Ending) (w' : World) : Prop := e = .returned (.bool r) ∧ SL (L) w' S ∧ Keep S w w'
set_option maxHeartbeats 8000000 in
set_option maxRecDepth 100000 in
theorem barrowlaw26_small.slcalls (k : Nat)  (r : Bool) (S : Nat → Prop) (L : List Asr) (w : World) (hf : Fresh S w) (hs : SL (L) w S) (h : barrowlaw26_small.f k  = some r) :
    Calls Try.prog 5 #[] w (barrowlaw26_small.Post r S L w) := by
  have HF := Aside0.mk hf
  have HS := Aside0.mk hs
  have HK := Aside0.mk (Keep.refl S w)
  clear hf hs
  have H : ((outbox_New.f k 2).bind fun bt109 => ((some (([97] : List Int) : List Int)).bind fun y111 => ((outbox_Box_Put.f k y111 bt109.1 bt109.2).bind fun bt121 => ((some (([98] : List Int) : List Int)).bind fun y124 => ((outbox_Box_Put.f k y124 bt121.2.1 bt121.2.2).bind fun bt125 => ((some (([99] : List Int) : List Int)).bind fun y128 => ((outbox_Box_Put.f k y128 bt125.2.1 bt125.2.2).bind fun bt129 => ((outbox_Box_Len_i1.f bt129.2.1 bt129.2.2).bind fun t132 => ((outbox_Box_Lost_i1.f bt129.2.1 bt129.2.2).bind fun t133 => ((outbox_Box_Again_i1.f k bt129.2.1 bt129.2.2).bind fun bt137 => ((some (([100] : List Int) : List Int)).bind fun y139 => ((outbox_Box_Put.f k y139 bt137.1 bt137.2).bind fun bt140 => ((outbox_Box_Drain_i1.f k 5 bt140.2.1 bt140.2.2).bind fun bt168 => (if bt121.1 = true then (if bt125.1 = true then (if bt129.1 = true then (none) else (if t132 = 0 then (if t133 = true then (if bt140.1 = true then (if (bt168.1.length : Int) = 1 then (if 0 < (bt168.1.length : Int) then ((some (rd_L1 bt168.1 0 : List Int)).bind fun y171 => (if (strOfNums y171).toList = ([100] : List UInt8) then ((outbox_Box_Len_i1.f bt140.2.1 bt168.2).bind fun t172 => (if t172 = 0 then ((outbox_Box_Lost_i1.f bt140.2.1 bt168.2).bind fun t173 => (if t173 = true then (none) else (some true))) else (none))) else (none))) else (none)) else (none)) else (none)) else (none)) else (none))) else (none)) else (none))))))))))))))) = some r := h
  clear h
  replace H := Option.bind_eq_some_iff.1 H
  obtain ⟨⟨t109, t110⟩, Hc10, H⟩ := H
  try dsimp only at H
  have Hc1 := Aside0.mk Hc10
  clear Hc10
  replace H := Option.bind_eq_some_iff.1 H
  obtain ⟨y111, hy1110, H⟩ := H
  try dsimp only at H
  have hy111 := Option.some.inj hy1110
  clear hy1110
  have Ny111 := Aside0.mk hy111
  clear hy111
  replace H := Option.bind_eq_some_iff.1 H
  obtain ⟨⟨t121, t122, t123⟩, Hc20, H⟩ := H
  try dsimp only at H
  have Hc2 := Aside0.mk Hc20
  clear Hc20
  replace H := Option.bind_eq_some_iff.1 H
  obtain ⟨y124, hy1240, H⟩ := H
  try dsimp only at H
  have hy124 := Option.some.inj hy1240
  clear hy1240
  have Ny124 := Aside0.mk hy124
  clear hy124
  replace H := Option.bind_eq_some_iff.1 H
  obtain ⟨⟨t125, t126, t127⟩, Hc30, H⟩ := H
  try dsimp only at H
  have Hc3 := Aside0.mk Hc30
  clear Hc30
  replace H := Option.bind_eq_some_iff.1 H
  obtain ⟨y128, hy1280, H⟩ := H
  try dsimp only at H
  have hy128 := Option.some.inj hy1280
  clear hy1280
  have Ny128 := Aside0.mk hy128
  clear hy128
  replace H := Option.bind_eq_some_iff.1 H
  obtain ⟨⟨t129, t130, t131⟩, Hc40, H⟩ := H
  try dsimp only at H
  have Hc4 := Aside0.mk Hc40
  clear Hc40
  replace H := Option.bind_eq_some_iff.1 H
  obtain ⟨t132, Hc50, H⟩ := H
  try dsimp only at H
  have Hc5 := Aside0.mk Hc50
  clear Hc50
  replace H := Option.bind_eq_some_iff.1 H
  obtain ⟨t133, Hc60, H⟩ := H
  try dsimp only at H
  have Hc6 := Aside0.mk Hc60
  clear Hc60
  replace H := Option.bind_eq_some_iff.1 H
  obtain ⟨⟨t137, t138⟩, Hc70, H⟩ := H
  try dsimp only at H
  have Hc7 := Aside0.mk Hc70
  clear Hc70
  replace H := Option.bind_eq_some_iff.1 H
  obtain ⟨y139, hy1390, H⟩ := H
  try dsimp only at H
  have hy139 := Option.some.inj hy1390
  clear hy1390
  have Ny139 := Aside0.mk hy139
  clear hy139
  replace H := Option.bind_eq_some_iff.1 H
  obtain ⟨⟨t140, t141, t142⟩, Hc80, H⟩ := H
  try dsimp only at H
  have Hc8 := Aside0.mk Hc80
  clear Hc80
  replace H := Option.bind_eq_some_iff.1 H
  obtain ⟨⟨t168, t169⟩, Hc90, H⟩ := H
  try dsimp only at H
  have Hc9 := Aside0.mk Hc90
  clear Hc90
  by_cases c10 : t121 = true
  · subst c10
    rw [if_pos rfl] at H
    by_cases c11 : t125 = true
    · subst c11
      rw [if_pos rfl] at H
      by_cases c12 : t129 = true
      · subst c12
        rw [if_pos rfl] at H
        exact absurd H (by simp)
      · replace c12 := Bool.eq_false_iff.mpr c12
        subst c12
        rw [if_neg (show ¬ (false = true) by decide)] at H
        by_cases c13 : t132 = 0
        · rw [if_pos c13] at H
          have c13b0 : (t132 == 0) = true := beq_iff_eq.mpr c13
          have c13b1 : (t132 != 0) = false := bne_eq_false_iff_eq.mpr c13
          clear c13
          by_cases c14 : t133 = true
          · subst c14
            rw [if_pos rfl] at H
            by_cases c15 : t140 = true
            · subst c15
              rw [if_pos rfl] at H
              by_cases c16 : (t168.length : Int) = 1
              · rw [if_pos c16] at H
                have c16b0 : ((t168.length : Int) == 1) = true := beq_iff_eq.mpr c16
                have c16b1 : ((t168.length : Int) != 1) = false := bne_eq_false_iff_eq.mpr c16
                clear c16
                by_cases c17 : 0 < (t168.length : Int)
                · rw [if_pos c17] at H
                  have c17b0 : decide (0 < (t168.length : Int)) = true := decide_eq_true c17
                  have c17b1 : decide (0 < t168.length) = true := decide_eq_true (by omega)
                  clear c17
                  replace H := Option.bind_eq_some_iff.1 H
                  obtain ⟨y171, hy1710, H⟩ := H
                  try dsimp only at H
                  have hy171 := Option.some.inj hy1710
                  clear hy1710
                  have Ny171 := Aside0.mk hy171
                  clear hy171
                  by_cases c18 : (strOfNums y171).toList = ([100] : List UInt8)
                  · rw [if_pos c18] at H
                    have c18b0 : ((strOfNums y171).toList == ([100] : List UInt8)) = true := beq_iff_eq.mpr c18
                    have c18b1 : ((strOfNums y171).toList != ([100] : List UInt8)) = false := bne_eq_false_iff_eq.mpr c18
                    clear c18
                    replace H := Option.bind_eq_some_iff.1 H
                    obtain ⟨t172, Hc190, H⟩ := H
                    try dsimp only at H
                    have Hc19 := Aside0.mk Hc190
                    clear Hc190
                    by_cases c20 : t172 = 0
                    · rw [if_pos c20] at H
                      have c20b0 : (t172 == 0) = true := beq_iff_eq.mpr c20
                      have c20b1 : (t172 != 0) = false := bne_eq_false_iff_eq.mpr c20
                      clear c20
                      replace H := Option.bind_eq_some_iff.1 H
                      obtain ⟨t173, Hc210, H⟩ := H
                      try dsimp only at H
                      have Hc21 := Aside0.mk Hc210
                      clear Hc210
                      by_cases c22 : t173 = true
                      · subst c22
                        rw [if_pos rfl] at H
                        exact absurd H (by simp)
                      · replace c22 := Bool.eq_false_iff.mpr c22
                        subst c22
                        rw [if_neg (show ¬ (false = true) by decide)] at H
                        obtain rfl := Option.some.inj H
                        go_enter Try.func5, Try.ntmps5
                        go_wp2_with (first | ((with_reducible refine gate_dst (N := 9) rfl ?_); refine goesL_ (some 9) rfl rfl Try.func6 (by kernel_rfl) rfl #[.int .i64 2] rfl (by (try simp only [List.map_toArray, List.map_cons, List.map_nil]); first | done | rfl | (simp; done)) ?_; have hs0_ := HS.out; (with_reducible refine (outbox_New.slcalls k _ _ _ _ _ _ (HF.out.keep HK.out) hs0_  Hc1.out).mono ?_); rintro e_ w23 ⟨g3000002, g3000003, rfl, hsr_, hkr_⟩; refine ⟨_, rfl, ?_⟩; replace HS := Aside0.mk (hsr_); replace HK := Aside0.mk (HK.out.trans hkr_)) | ((with_reducible refine gate_dst (N := 13) rfl ?_); refine wpList_plain rfl (fun K_ hK_ => ?_); refine op_row (S := S) (enc := Value.int .u8) (h1 := fun _ => rfl) 5 y111 #[.int .u8 97] 1 (by rw [← Ny111.out]; rfl) (by rw [← Ny111.out]; rfl) (by decide) (HF.out.keep HK.out) HS.out (by first | (go_simp; done) | (go_simp; rfl)) ?_; intro Az3000004 cz3000004 w24 hs_ hk_; refine hK_ _ _ ?_; clear hK_ K_; replace HS := Aside0.mk ((show SL (row (Kd.int .u8) 5 (.slice Az3000004 1 cz3000004) y111 :: _) _ _ from hs_)); replace HK := Aside0.mk (HK.out.trans hk_)) | ((with_reducible refine gate_dst (N := 14) rfl ?_); refine wpList_plain rfl (fun K_ hK_ => ?_); refine op_mark (S := S) 32 5 (.tmp 13) Try.underlying32 Try.underlying5 rfl rfl (by decide) HS.out ?_; intro w25 hs_ hk_; refine hK_ _ _ ?_; clear hK_ K_; replace HS := Aside0.mk ((show SL (seenR (Kd.int .u8) (.slice Az3000004 1 cz3000004) y111 :: _) _ _ from hs_)); replace HK := Aside0.mk (HK.out.trans hk_)) | ((with_reducible refine gate_dst (N := 15) rfl ?_); refine goesL_ (some 15) rfl rfl Try.func13 (by kernel_rfl) rfl #[.pointer (some ⟨g3000002, 0, none⟩), .slice Az3000004 1 cz3000004] rfl (by (try simp only [List.map_toArray, List.map_cons, List.map_nil]); first | done | rfl | (simp; done)) ?_; have el3000004_ := Aside0.mk (seen_c HS.out).1; refine calls_of_args (args' := #[.pointer (some ⟨g3000002, 0, none⟩), .slice Az3000004 y111.length cz3000004]) (by rw [← el3000004_.out]) ?_; have hs0_ := (SL.get2 (SL.get2 (SL.get2 HS.out))); obtain ⟨U1_, hfU1_, hsub1_, hs1_, hro1_, hback1_⟩ := SL.lend (HF.out.keep HK.out) hs0_ (p := fun w_ => Kd.C (Kd.int .u8) w_ Az3000004 1 y111) (fun w_ T_ h_ => (seen_h h_).2.2); (with_reducible refine (outbox_Box_Put.slcalls k _ _ _ _ _ _ _ _ _ _ _ _ _ hfU1_ hs1_ (by rw [← el3000004_.out]; exact hro1_) (by rw [← el3000004_.out]; exact (seen_c HS.out).2.1) Hc2.out).mono ?_); rintro e_ w26 ⟨rfl, hsr_, hkr_⟩; refine ⟨_, rfl, ?_⟩; replace HS := Aside0.mk ((hback1_ _ _ hkr_ hsr_)); replace HK := Aside0.mk (HK.out.trans (Keep.sub hkr_ (fun k_ h_ => hsub1_ k_ h_)))) | ((with_reducible refine gate_dst (N := 17) rfl ?_); refine wpList_plain rfl (fun K_ hK_ => ?_); refine op_row (S := S) (enc := Value.int .u8) (h1 := fun _ => rfl) 5 y124 #[.int .u8 98] 1 (by rw [← Ny124.out]; rfl) (by rw [← Ny124.out]; rfl) (by decide) (HF.out.keep HK.out) HS.out (by first | (go_simp; done) | (go_simp; rfl)) ?_; intro Az3000006 cz3000006 w27 hs_ hk_; refine hK_ _ _ ?_; clear hK_ K_; replace HS := Aside0.mk ((show SL (row (Kd.int .u8) 5 (.slice Az3000006 1 cz3000006) y124 :: _) _ _ from hs_)); replace HK := Aside0.mk (HK.out.trans hk_)) | ((with_reducible refine gate_dst (N := 18) rfl ?_); refine wpList_plain rfl (fun K_ hK_ => ?_); refine op_mark (S := S) 32 5 (.tmp 17) Try.underlying32 Try.underlying5 rfl rfl (by decide) HS.out ?_; intro w28 hs_ hk_; refine hK_ _ _ ?_; clear hK_ K_; replace HS := Aside0.mk ((show SL (seenR (Kd.int .u8) (.slice Az3000006 1 cz3000006) y124 :: _) _ _ from hs_)); replace HK := Aside0.mk (HK.out.trans hk_)) | ((with_reducible refine gate_dst (N := 19) rfl ?_); refine goesL_ (some 19) rfl rfl Try.func13 (by kernel_rfl) rfl #[.pointer (some ⟨g3000002, 0, none⟩), .slice Az3000006 1 cz3000006] rfl (by (try simp only [List.map_toArray, List.map_cons, List.map_nil]); first | done | rfl | (simp; done)) ?_; have el3000006_ := Aside0.mk (seen_c HS.out).1; refine calls_of_args (args' := #[.pointer (some ⟨g3000002, 0, none⟩), .slice Az3000006 y124.length cz3000006]) (by rw [← el3000006_.out]) ?_; have hs0_ := (SL.get2 (SL.get3 (SL.get3 HS.out))); obtain ⟨U1_, hfU1_, hsub1_, hs1_, hro1_, hback1_⟩ := SL.lend (HF.out.keep HK.out) hs0_ (p := fun w_ => Kd.C (Kd.int .u8) w_ Az3000006 1 y124) (fun w_ T_ h_ => (seen_h h_).2.2); (with_reducible refine (outbox_Box_Put.slcalls k _ _ _ _ _ _ _ _ _ _ _ _ _ hfU1_ hs1_ (by rw [← el3000006_.out]; exact hro1_) (by rw [← el3000006_.out]; exact (seen_c HS.out).2.1) Hc3.out).mono ?_); rintro e_ w29 ⟨rfl, hsr_, hkr_⟩; refine ⟨_, rfl, ?_⟩; replace HS := Aside0.mk ((hback1_ _ _ hkr_ hsr_)); replace HK := Aside0.mk (HK.out.trans (Keep.sub hkr_ (fun k_ h_ => hsub1_ k_ h_)))) | ((with_reducible refine gate_dst (N := 21) rfl ?_); refine wpList_plain rfl (fun K_ hK_ => ?_); refine op_row (S := S) (enc := Value.int .u8) (h1 := fun _ => rfl) 5 y128 #[.int .u8 99] 1 (by rw [← Ny128.out]; rfl) (by rw [← Ny128.out]; rfl) (by decide) (HF.out.keep HK.out) HS.out (by first | (go_simp; done) | (go_simp; rfl)) ?_; intro Az3000007 cz3000007 w30 hs_ hk_; refine hK_ _ _ ?_; clear hK_ K_; replace HS := Aside0.mk ((show SL (row (Kd.int .u8) 5 (.slice Az3000007 1 cz3000007) y128 :: _) _ _ from hs_)); replace HK := Aside0.mk (HK.out.trans hk_)) | ((with_reducible refine gate_dst (N := 22) rfl ?_); refine wpList_plain rfl (fun K_ hK_ => ?_); refine op_mark (S := S) 32 5 (.tmp 21) Try.underlying32 Try.underlying5 rfl rfl (by decide) HS.out ?_; intro w31 hs_ hk_; refine hK_ _ _ ?_; clear hK_ K_; replace HS := Aside0.mk ((show SL (seenR (Kd.int .u8) (.slice Az3000007 1 cz3000007) y128 :: _) _ _ from hs_)); replace HK := Aside0.mk (HK.out.trans hk_)) | ((with_reducible refine gate_dst (N := 23) rfl ?_); refine goesL_ (some 23) rfl rfl Try.func13 (by kernel_rfl) rfl #[.pointer (some ⟨g3000002, 0, none⟩), .slice Az3000007 1 cz3000007] rfl (by (try simp only [List.map_toArray, List.map_cons, List.map_nil]); first | done | rfl | (simp; done)) ?_; have el3000007_ := Aside0.mk (seen_c HS.out).1; refine calls_of_args (args' := #[.pointer (some ⟨g3000002, 0, none⟩), .slice Az3000007 y128.length cz3000007]) (by rw [← el3000007_.out]) ?_; have hs0_ := (SL.get2 (SL.get3 (SL.get3 HS.out))); obtain ⟨U1_, hfU1_, hsub1_, hs1_, hro1_, hback1_⟩ := SL.lend (HF.out.keep HK.out) hs0_ (p := fun w_ => Kd.C (Kd.int .u8) w_ Az3000007 1 y128) (fun w_ T_ h_ => (seen_h h_).2.2); (with_reducible refine (outbox_Box_Put.slcalls k _ _ _ _ _ _ _ _ _ _ _ _ _ hfU1_ hs1_ (by rw [← el3000007_.out]; exact hro1_) (by rw [← el3000007_.out]; exact (seen_c HS.out).2.1) Hc4.out).mono ?_); rintro e_ w32 ⟨rfl, hsr_, hkr_⟩; refine ⟨_, rfl, ?_⟩; replace HS := Aside0.mk ((hback1_ _ _ hkr_ hsr_)); replace HK := Aside0.mk (HK.out.trans (Keep.sub hkr_ (fun k_ h_ => hsub1_ k_ h_)))) | ((with_reducible refine gate_dst (N := 25) rfl ?_); refine goesL_ (some 25) rfl rfl Try.func15 (by kernel_rfl) rfl #[.pointer (some ⟨g3000002, 0, none⟩)] rfl (by (try simp only [List.map_toArray, List.map_cons, List.map_nil]); first | done | rfl | (simp; done)) ?_; have hs0_ := (SL.get2 (SL.get2 HS.out)); (with_reducible refine (outbox_Box_Len_i1.slcalls _ _ _ _ _ _ _ _ (HF.out.keep HK.out) hs0_  Hc5.out).mono ?_); rintro e_ w33 ⟨rfl, hsr_, hkr_⟩; refine ⟨_, rfl, ?_⟩; replace HS := Aside0.mk (hsr_); replace HK := Aside0.mk (HK.out.trans hkr_)) | ((with_reducible refine gate_dst (N := 27) rfl ?_); refine goesL_ (some 27) rfl rfl Try.func16 (by kernel_rfl) rfl #[.pointer (some ⟨g3000002, 0, none⟩)] rfl (by (try simp only [List.map_toArray, List.map_cons, List.map_nil]); first | done | rfl | (simp; done)) ?_; have hs0_ := (SL.get1 (SL.get1 HS.out)); (with_reducible refine (outbox_Box_Lost_i1.slcalls _ _ _ _ _ _ _ _ (HF.out.keep HK.out) hs0_  Hc6.out).mono ?_); rintro e_ w34 ⟨rfl, hsr_, hkr_⟩; refine ⟨_, rfl, ?_⟩; replace HS := Aside0.mk (hsr_); replace HK := Aside0.mk (HK.out.trans hkr_)) | ((with_reducible refine gate_dst (N := 29) rfl ?_); refine goesL_ (some 29) rfl rfl Try.func8 (by kernel_rfl) rfl #[.pointer (some ⟨g3000002, 0, none⟩)] rfl (by (try simp only [List.map_toArray, List.map_cons, List.map_nil]); first | done | rfl | (simp; done)) ?_; have hs0_ := (SL.get1 (SL.get1 HS.out)); (with_reducible refine (outbox_Box_Again_i1.slcalls k _ _ _ _ _ _ _ _ _ (HF.out.keep HK.out) hs0_  Hc7.out).mono ?_); rintro e_ w35 ⟨rfl, hsr_, hkr_⟩; refine ⟨_, rfl, ?_⟩; replace HS := Aside0.mk (hsr_); replace HK := Aside0.mk (HK.out.trans hkr_)) | ((with_reducible refine gate_dst (N := 31) rfl ?_); refine wpList_plain rfl (fun K_ hK_ => ?_); refine op_row (S := S) (enc := Value.int .u8) (h1 := fun _ => rfl) 5 y139 #[.int .u8 100] 1 (by rw [← Ny139.out]; rfl) (by rw [← Ny139.out]; rfl) (by decide) (HF.out.keep HK.out) HS.out (by first | (go_simp; done) | (go_simp; rfl)) ?_; intro Az3000008 cz3000008 w36 hs_ hk_; refine hK_ _ _ ?_; clear hK_ K_; replace HS := Aside0.mk ((show SL (row (Kd.int .u8) 5 (.slice Az3000008 1 cz3000008) y139 :: _) _ _ from hs_)); replace HK := Aside0.mk (HK.out.trans hk_)) | ((with_reducible refine gate_dst (N := 32) rfl ?_); refine wpList_plain rfl (fun K_ hK_ => ?_); refine op_mark (S := S) 32 5 (.tmp 31) Try.underlying32 Try.underlying5 rfl rfl (by decide) HS.out ?_; intro w37 hs_ hk_; refine hK_ _ _ ?_; clear hK_ K_; replace HS := Aside0.mk ((show SL (seenR (Kd.int .u8) (.slice Az3000008 1 cz3000008) y139 :: _) _ _ from hs_)); replace HK := Aside0.mk (HK.out.trans hk_)) | ((with_reducible refine gate_dst (N := 33) rfl ?_); refine goesL_ (some 33) rfl rfl Try.func13 (by kernel_rfl) rfl #[.pointer (some ⟨g3000002, 0, none⟩), .slice Az3000008 1 cz3000008] rfl (by (try simp only [List.map_toArray, List.map_cons, List.map_nil]); first | done | rfl | (simp; done)) ?_; have el3000008_ := Aside0.mk (seen_c HS.out).1; refine calls_of_args (args' := #[.pointer (some ⟨g3000002, 0, none⟩), .slice Az3000008 y139.length cz3000008]) (by rw [← el3000008_.out]) ?_; have hs0_ := (SL.get2 (SL.get2 (SL.get2 HS.out))); obtain ⟨U1_, hfU1_, hsub1_, hs1_, hro1_, hback1_⟩ := SL.lend (HF.out.keep HK.out) hs0_ (p := fun w_ => Kd.C (Kd.int .u8) w_ Az3000008 1 y139) (fun w_ T_ h_ => (seen_h h_).2.2); (with_reducible refine (outbox_Box_Put.slcalls k _ _ _ _ _ _ _ _ _ _ _ _ _ hfU1_ hs1_ (by rw [← el3000008_.out]; exact hro1_) (by rw [← el3000008_.out]; exact (seen_c HS.out).2.1) Hc8.out).mono ?_); rintro e_ w38 ⟨rfl, hsr_, hkr_⟩; refine ⟨_, rfl, ?_⟩; replace HS := Aside0.mk ((hback1_ _ _ hkr_ hsr_)); replace HK := Aside0.mk (HK.out.trans (Keep.sub hkr_ (fun k_ h_ => hsub1_ k_ h_)))) | ((with_reducible refine gate_dst (N := 35) rfl ?_); refine goesL_ (some 35) rfl rfl Try.func10 (by kernel_rfl) rfl #[.pointer (some ⟨g3000002, 0, none⟩), .int .i64 5] rfl (by (try simp only [List.map_toArray, List.map_cons, List.map_nil]); first | done | rfl | (simp; done)) ?_; have hs0_ := (SL.get2 (SL.get2 HS.out)); (with_reducible refine (outbox_Box_Drain_i1.slcalls k _ _ _ _ _ _ _ _ _ _ (HF.out.keep HK.out) hs0_  Hc9.out).mono ?_); rintro e_ w39 ⟨Az3000012, cz3000012, rfl, hsr_, hkr_⟩; refine ⟨_, rfl, ?_⟩; replace HS := Aside0.mk (hsr_); replace HK := Aside0.mk (HK.out.trans hkr_); have pq170 : 0 ≤ (0 : Int) := (by omega); have qq170 : 0 < ((t168.length : Int) : Int) := of_decide_eq_true (by first | (with_reducible assumption) | assumption); obtain ⟨adq170, Aq170_0, cq170_0, eq170, hxq170_0, hiq170, hlq170⟩ := rows_at (SL.get2 HS.out) rfl 0 pq170 qq170 y171 Ny171.out; have HVq170_0 := Aside0.mk hiq170; have HCq170_0 := Aside0.mk hlq170; clear hiq170 hlq170; cases eq170; (try rw [show ((0 : Int)).toNat = 0 from rfl] at hxq170_0); (try rw [Addr.add_zero'] at hxq170_0); have qiq170 : (0 < t168.length) = True := eq_true (by omega); replace pq170 := eq_true pq170; replace qq170 := eq_true qq170; have hcs41 := Kd.C_string (P := Try.prog) (A := Aq170_0) (c := cq170_0) Try.underlying32 Try.underlying5 Try.underlying9 HVq170_0.out) | ((with_reducible refine gate_dst (N := 68) rfl ?_); (try (refine gate_guard (by rfl) ?_; dsimp only)); refine goesL_ (some 68) rfl rfl Try.func15 (by kernel_rfl) rfl #[.pointer (some ⟨g3000002, 0, none⟩)] rfl (by (try simp only [List.map_toArray, List.map_cons, List.map_nil]); first | done | rfl | (simp; done)) ?_; have hs0_ := (SL.get1 (SL.get1 HS.out)); (with_reducible refine (outbox_Box_Len_i1.slcalls _ _ _ _ _ _ _ _ (HF.out.keep HK.out) hs0_  Hc19.out).mono ?_); rintro e_ w42 ⟨rfl, hsr_, hkr_⟩; refine ⟨_, rfl, ?_⟩; replace HS := Aside0.mk (hsr_); replace HK := Aside0.mk (HK.out.trans hkr_)) | ((with_reducible refine gate_dst (N := 73) rfl ?_); (try (refine gate_guard (by rfl) ?_; dsimp only)); refine goesL_ (some 73) rfl rfl Try.func16 (by kernel_rfl) rfl #[.pointer (some ⟨g3000002, 0, none⟩)] rfl (by (try simp only [List.map_toArray, List.map_cons, List.map_nil]); first | done | rfl | (simp; done)) ?_; have hs0_ := (SL.get1 (SL.get1 HS.out)); (with_reducible refine (outbox_Box_Lost_i1.slcalls _ _ _ _ _ _ _ _ (HF.out.keep HK.out) hs0_  Hc21.out).mono ?_); rintro e_ w43 ⟨rfl, hsr_, hkr_⟩; refine ⟨_, rfl, ?_⟩; replace HS := Aside0.mk (hsr_); replace HK := Aside0.mk (HK.out.trans hkr_)))
                        go_ret
                        replace HS := Aside0.mk (SL.tail (SL.tail (SL.tail (SL.tail (SL.tail (SL.tail (SL.tail HS.out)))))))
                        unfold barrowlaw26_small.Post
                        exact ⟨by first | rfl | (simp; done) | (simp [*]; done) | (simp at c20b0 ⊢; first | exact c20b0 | (simp [c20b0]; done)), HS.out, HK.out⟩
                    · rw [if_neg c20] at H
                      exact absurd H (by simp)
                  · rw [if_neg c18] at H
                    exact absurd H (by simp)
                · rw [if_neg c17] at H
                  exact absurd H (by simp)
              · rw [if_neg c16] at H
                exact absurd H (by simp)
            · replace c15 := Bool.eq_false_iff.mpr c15
              subst c15
              rw [if_neg (show ¬ (false = true) by decide)] at H
              exact absurd H (by simp)
          · replace c14 := Bool.eq_false_iff.mpr c14
            subst c14
            rw [if_neg (show ¬ (false = true) by decide)] at H
            exact absurd H (by simp)
        · rw [if_neg c13] at H
          exact absurd H (by simp)
    · replace c11 := Bool.eq_false_iff.mpr c11
      subst c11
      rw [if_neg (show ¬ (false = true) by decide)] at H
      exact absurd H (by simp)
  · replace c10 := Bool.eq_false_iff.mpr c10
    subst c10
    rw [if_neg (show ¬ (false = true) by decide)] at H
    exact absurd H (by simp)
theorem barrowlaw26_small.calls (k : Nat)  (r : Bool) (w : World) (h : barrowlaw26_small.f k  = some r) :
    Calls Try.prog 5 #[] w fun e w' => e = .returned (.bool r) ∧ Below w.heap.size w w' :=
  (barrowlaw26_small.slcalls k  r (news w) [] w (fresh_news w) trivial h).mono fun _ _ h => ⟨h.1, h.2.2.to_below⟩

end Go.Proofs.Ytebllndphechmaa.XOB
