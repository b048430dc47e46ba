-- Written by xprint.py (a program of this session) for this claim
import Derived.Test.YtoalpmfkaijomaaSL5
import Derived.Test.YtoalpmfkaijomaaXGNx0
import Derived.Test.YtoalpmfkaijomaaXGNx1
import Derived.Test.YtoalpmfkaijomaaXGNx2
import Derived.Test.YtoalpmfkaijomaaXGRx1
import Derived.Test.YtoalpmfkaijomaaXGRx2
import Derived.Test.YtoalpmfkaijomaaXGRx3
import Derived.Test.YtoalpmfkaijomaaXGRx5
namespace Go.Proofs.Ytoalpmfkaijomaa.XGN
open Go.Proofs.Ytoalpmfkaijomaa.XGR
open Go.Proofs.YtoalpmfkaijomaaV Go.Proofs.YtoalpmfkaijomaaS
open Go.RowKit Go.Proofs.YtoalpmfkaijomaaW.PrintWords Go.Proofs.YtoalpmfkaijomaaW.PrintLast Go.Proofs.YtoalpmfkaijomaaW.PrintMore
attribute [local go_sem] max2_int min2_int max_two min_two max_three min_three max_four min_four   -- for this text's walks alone
set_option linter.unusedVariables false
set_option linter.unusedSimpArgs false

attribute [local go_sem high] eqA23
/-! ### barrowlaw06_small: function 7 -/
def barrowlaw06_small.f (k : Nat)  : Option (Bool) := if 12 ≤ 281474976710656 then ((some (List.replicate 12 false : List Bool)).bind fun y225 => ((grid_Square.f k 0 0 3 4).bind fun t226 => (if t226 = 25 then ((grid_Steps.f k 0 0 3 4).bind fun t227 => (if t227 = 4 then ((grid_Near.f k 0 0 3 4 5).bind fun t228 => (if t228 = true then ((grid_Toward.f k 6 2 y225 0 0 5 1 3).bind fun bt229 => (if (bt229.1 == 3 && (bt229.2 == 1)) = true then ((grid_Around.f k 6 2 y225 0 0 1).bind fun t231 => (if (t231.length : Int) = 3 then ((grid_In.f 6 2 y225 0 0).bind fun t232 => (if t232 = true then ((grid_In.f 6 2 y225 3 4).bind fun t233 => (if t233 = true then (none) else (some true))) else (none))) else (none))) else (none))) else (none))) else (none))) else (none)))) else (none)
theorem barrowlaw06_small.mono : ∀ k, LeO (barrowlaw06_small.f k ) (barrowlaw06_small.f (k + 1) ) := by
  intro  k
  unfold barrowlaw06_small.f
  repeat' first
      | (with_reducible exact grid_Around.mono _ _ _ _ _ _ _)
      | (with_reducible exact grid_Near.mono _ _ _ _ _ _)
      | (with_reducible exact grid_Square.mono _ _ _ _ _)
      | (with_reducible exact grid_Steps.mono _ _ _ _ _)
      | (with_reducible exact grid_Toward.mono _ _ _ _ _ _ _ _ _)
      | (with_reducible exact LeO.refl _)
      | (with_reducible exact LeO.none _)
      | (with_reducible refine LeO.ite ?_ ?_)
      | (with_reducible refine everyOf_le (fun _ => ?_))
      | (with_reducible refine LeO.bind ?_ (fun _ => ?_))
      | exact grid_Around.mono _ _ _ _ _ _ _
      | exact grid_Near.mono _ _ _ _ _ _
      | exact grid_Square.mono _ _ _ _ _
      | exact grid_Steps.mono _ _ _ _ _
      | exact grid_Toward.mono _ _ _ _ _ _ _ _ _
      | exact LeO.none _
      | refine LeO.ite ?_ ?_
      | refine LeO.bind ?_ (fun _ => ?_)
def barrowlaw06_small.Post (r : Bool) (S : Nat → Prop) (L : List Asr) (w : World) (e : Ending) (w' : World) : Prop := e = .returned (.bool r) ∧ SL (L) w' S ∧ Keep S w w'
set_option maxHeartbeats 8000000 in
set_option maxRecDepth 100000 in
theorem barrowlaw06_small.slcalls (k : Nat)  (r : Bool) (S : Nat → Prop) (L : List Asr) (w : World) (hf : Fresh S w) (hs : SL (L) w S) (h : barrowlaw06_small.f k  = some r) :
    Calls Try.prog 7 #[] w (barrowlaw06_small.Post r S L w) := by
  have HF := Aside0.mk hf
  have HS := Aside0.mk hs
  have HK := Aside0.mk (Keep.refl S w)
  clear hf hs
  have hu23 := Try.underlying23
  have hu29 := Try.underlying29
  have H : (if 12 ≤ 281474976710656 then ((some (List.replicate 12 false : List Bool)).bind fun y225 => ((grid_Square.f k 0 0 3 4).bind fun t226 => (if t226 = 25 then ((grid_Steps.f k 0 0 3 4).bind fun t227 => (if t227 = 4 then ((grid_Near.f k 0 0 3 4 5).bind fun t228 => (if t228 = true then ((grid_Toward.f k 6 2 y225 0 0 5 1 3).bind fun bt229 => (if (bt229.1 == 3 && (bt229.2 == 1)) = true then ((grid_Around.f k 6 2 y225 0 0 1).bind fun t231 => (if (t231.length : Int) = 3 then ((grid_In.f 6 2 y225 0 0).bind fun t232 => (if t232 = true then ((grid_In.f 6 2 y225 3 4).bind fun t233 => (if t233 = true then (none) else (some true))) else (none))) else (none))) else (none))) else (none))) else (none))) else (none)))) else (none)) = some r := h
  clear h
  by_cases c1 : 12 ≤ 281474976710656
  · rw [if_pos c1] at H
    have LMc1 := Aside0.mk c1
    clear c1
    replace H := Option.bind_eq_some_iff.1 H
    obtain ⟨y225, hy2250, H⟩ := H
    try dsimp only at H
    have hy225 := Option.some.inj hy2250
    clear hy2250
    have Ny225 := Aside0.mk hy225
    clear hy225
    replace H := Option.bind_eq_some_iff.1 H
    obtain ⟨t226, Hc20, H⟩ := H
    try dsimp only at H
    have Hc2 := Aside0.mk Hc20
    clear Hc20
    by_cases c3 : t226 = 25
    · rw [if_pos c3] at H
      have c3b0 : (t226 == 25) = true := beq_iff_eq.mpr c3
      have c3b1 : (t226 != 25) = false := bne_eq_false_iff_eq.mpr c3
      clear c3
      replace H := Option.bind_eq_some_iff.1 H
      obtain ⟨t227, Hc40, H⟩ := H
      try dsimp only at H
      have Hc4 := Aside0.mk Hc40
      clear Hc40
      by_cases c5 : t227 = 4
      · rw [if_pos c5] at H
        have c5b0 : (t227 == 4) = true := beq_iff_eq.mpr c5
        have c5b1 : (t227 != 4) = false := bne_eq_false_iff_eq.mpr c5
        clear c5
        replace H := Option.bind_eq_some_iff.1 H
        obtain ⟨t228, Hc60, H⟩ := H
        try dsimp only at H
        have Hc6 := Aside0.mk Hc60
        clear Hc60
        by_cases c7 : t228 = true
        · subst c7
          rw [if_pos rfl] at H
          replace H := Option.bind_eq_some_iff.1 H
          obtain ⟨⟨t229, t230⟩, Hc80, H⟩ := H
          try dsimp only at H
          have Hc8 := Aside0.mk Hc80
          clear Hc80
          by_cases c9 : (t229 == 3 && (t230 == 1)) = true
          · rw [if_pos c9] at H
            have c9b0 : (t229 == 3 && (t230 == 1)) = true := c9
            (try (have c9b1 : decide (t229 = 3 && (t230 == 1)) = true := by simpa using c9))
            (try (have c9b2 : (t229 == 3 && (t230 == 1)) = true := by simpa using c9))
            clear c9
            replace H := Option.bind_eq_some_iff.1 H
            obtain ⟨t231, Hc100, H⟩ := H
            try dsimp only at H
            have Hc10 := Aside0.mk Hc100
            clear Hc100
            by_cases c11 : (t231.length : Int) = 3
            · rw [if_pos c11] at H
              have c11b0 : ((t231.length : Int) == 3) = true := beq_iff_eq.mpr c11
              have c11b1 : ((t231.length : Int) != 3) = false := bne_eq_false_iff_eq.mpr c11
              clear c11
              replace H := Option.bind_eq_some_iff.1 H
              obtain ⟨t232, Hc120, H⟩ := H
              try dsimp only at H
              have Hc12 := Aside0.mk Hc120
              clear Hc120
              by_cases c13 : t232 = true
              · subst c13
                rw [if_pos rfl] at H
                replace H := Option.bind_eq_some_iff.1 H
                obtain ⟨t233, Hc140, H⟩ := H
                try dsimp only at H
                have Hc14 := Aside0.mk Hc140
                clear Hc140
                by_cases c15 : t233 = true
                · subst c15
                  rw [if_pos rfl] at H
                  exact absurd H (by simp)
                · replace c15 := Bool.eq_false_iff.mpr c15
                  subst c15
                  rw [if_neg (show ¬ (false = true) by decide)] at H
                  obtain rfl := Option.some.inj H
                  go_enter Try.func7, Try.ntmps7
                  go_wp2_with (first | ((with_reducible refine gate_dst (N := 4) rfl ?_); refine wpList_plain rfl (fun K_ hK_ => ?_); refine op_make (S := S) (enc := Value.bool) (h1 := fun _ => rfl) false 27 4 1 (.const (.int .i64 12)) (.const (.int .i64 12)) rfl Try.underlying27 (by kernel_rfl) rfl (by decide) (12) rfl rfl (by omega) (by decide) y225 Ny225.out (HF.out.keep HK.out) HS.out ?_; intro Az3000017 cz3000017 w16 hs_ hk_; refine hK_ _ _ ?_; clear hK_ K_; replace HS := Aside0.mk ((show SL (row Kd.bool 4 (.slice Az3000017 y225.length cz3000017) y225 :: _) _ _ from hs_)); replace HK := Aside0.mk (HK.out.trans hk_)) | ((with_reducible refine gate_dst (N := 1) rfl ?_); refine wpList_plain rfl (fun K_ hK_ => ?_); refine op_box (S := S) (cs := #[.int .i64 0, .int .i64 0, .slice none 0 0]) (t := 29) (HF.out.keep HK.out) HS.out (by first | (go_simp; done) | (go_simp; rfl)) ?_; intro g3000018 w17 hs_ hk_; refine hK_ _ _ ?_; clear hK_ K_; replace HS := Aside0.mk (hs_); replace HK := Aside0.mk (HK.out.trans hk_)) | ((with_reducible refine gate_store (t := 29) (p := 1) (v := (.tmp 5)) rfl ?_); refine wpList_plain rfl (fun K_ hK_ => ?_); refine op_store (S := S) 29 (.tmp 1) (.tmp 5) rfl g3000018 0 (.agg #[.int .i64 6, .int .i64 2, .slice Az3000017 y225.length cz3000017]) [.int .i64 6, .int .i64 2, .slice Az3000017 y225.length cz3000017] rfl rfl rfl (by kernel_rfl) (by simp [Value.oneCell']) HS.out (by simp) ?_; intro w18 hs_ hk_; refine hK_ _ _ ?_; clear hK_ K_; replace HS := Aside0.mk ((show SL (cells g3000018 29 [.int .i64 6, .int .i64 2, .slice Az3000017 y225.length cz3000017].toArray :: _) _ _ from hs_)); replace HK := Aside0.mk (HK.out.trans hk_)) | ((with_reducible refine gate_dst (N := 2) rfl ?_); refine wpList_plain rfl (fun K_ hK_ => ?_); refine op_box (S := S) (cs := #[.int .i64 0, .int .i64 0]) (t := 23) (HF.out.keep HK.out) HS.out (by first | (go_simp; done) | (go_simp; rfl)) ?_; intro g3000019 w19 hs_ hk_; refine hK_ _ _ ?_; clear hK_ K_; replace HS := Aside0.mk (hs_); replace HK := Aside0.mk (HK.out.trans hk_)) | ((with_reducible refine gate_store (t := 23) (p := 2) (v := (.tmp 6)) rfl ?_); refine wpList_plain rfl (fun K_ hK_ => ?_); refine op_store (S := S) 23 (.tmp 2) (.tmp 6) rfl g3000019 0 (.agg #[.int .i64 0, .int .i64 0]) [.int .i64 0, .int .i64 0] rfl rfl rfl (by kernel_rfl) (by simp [Value.oneCell']) HS.out (by simp) ?_; intro w20 hs_ hk_; refine hK_ _ _ ?_; clear hK_ K_; replace HS := Aside0.mk ((show SL (cells g3000019 23 [.int .i64 0, .int .i64 0].toArray :: _) _ _ from hs_)); replace HK := Aside0.mk (HK.out.trans hk_)) | ((with_reducible refine gate_dst (N := 3) rfl ?_); refine wpList_plain rfl (fun K_ hK_ => ?_); refine op_box (S := S) (cs := #[.int .i64 0, .int .i64 0]) (t := 23) (HF.out.keep HK.out) HS.out (by first | (go_simp; done) | (go_simp; rfl)) ?_; intro g3000020 w21 hs_ hk_; refine hK_ _ _ ?_; clear hK_ K_; replace HS := Aside0.mk (hs_); replace HK := Aside0.mk (HK.out.trans hk_)) | ((with_reducible refine gate_store (t := 23) (p := 3) (v := (.tmp 7)) rfl ?_); refine wpList_plain rfl (fun K_ hK_ => ?_); refine op_store (S := S) 23 (.tmp 3) (.tmp 7) rfl g3000020 0 (.agg #[.int .i64 3, .int .i64 4]) [.int .i64 3, .int .i64 4] rfl rfl rfl (by kernel_rfl) (by simp [Value.oneCell']) HS.out (by simp) ?_; intro w22 hs_ hk_; refine hK_ _ _ ?_; clear hK_ K_; replace HS := Aside0.mk ((show SL (cells g3000020 23 [.int .i64 3, .int .i64 4].toArray :: _) _ _ from hs_)); replace HK := Aside0.mk (HK.out.trans hk_); have hb_ := SL.at_ HS.out; have hz3000020_0_7 := ((blk_cell hb_ 0).trans rfl : _ = some (.int .i64 3)); have hz3000020_1_7 := ((blk_cell hb_ 1).trans rfl : _ = some (.int .i64 4)); clear hb_; have hb_ := SL.at_ (SL.get1 HS.out); have hz3000019_0_7 := ((blk_cell hb_ 0).trans rfl : _ = some (.int .i64 0)); have hz3000019_1_7 := ((blk_cell hb_ 1).trans rfl : _ = some (.int .i64 0)); clear hb_) | ((with_reducible refine gate_dst (N := 10) rfl ?_); refine goesL_ (some 10) rfl rfl Try.func8 (by kernel_rfl) rfl #[.agg #[.int .i64 0, .int .i64 0], .agg #[.int .i64 3, .int .i64 4]] rfl (by (try simp only [List.map_toArray, List.map_cons, List.map_nil]); first | done | rfl | (simp; done)) ?_; (with_reducible refine (grid_Square.calls k _ _ _ _ _ _  Hc2.out).mono ?_); rintro e_ w23 ⟨rfl, hb_⟩; refine ⟨_, rfl, ?_⟩; replace HS := Aside0.mk (HS.out.below hb_); replace HK := Aside0.mk (HK.out.trans (Keep.below hb_)); (try clear hz3000019_0_7 hz3000019_1_7); (try clear hz3000020_0_7 hz3000020_1_7); have hb_ := SL.at_ HS.out; have hz3000020_0_8 := ((blk_cell hb_ 0).trans rfl : _ = some (.int .i64 3)); have hz3000020_1_8 := ((blk_cell hb_ 1).trans rfl : _ = some (.int .i64 4)); clear hb_; have hb_ := SL.at_ (SL.get1 HS.out); have hz3000019_0_8 := ((blk_cell hb_ 0).trans rfl : _ = some (.int .i64 0)); have hz3000019_1_8 := ((blk_cell hb_ 1).trans rfl : _ = some (.int .i64 0)); clear hb_) | ((with_reducible refine gate_dst (N := 15) rfl ?_); (try (refine gate_guard (by rfl) ?_; dsimp only)); refine goesL_ (some 15) rfl rfl Try.func10 (by kernel_rfl) rfl #[.agg #[.int .i64 0, .int .i64 0], .agg #[.int .i64 3, .int .i64 4]] rfl (by (try simp only [List.map_toArray, List.map_cons, List.map_nil]); first | done | rfl | (simp; done)) ?_; (with_reducible refine (grid_Steps.calls k _ _ _ _ _ _  Hc4.out).mono ?_); rintro e_ w24 ⟨rfl, hb_⟩; refine ⟨_, rfl, ?_⟩; replace HS := Aside0.mk (HS.out.below hb_); replace HK := Aside0.mk (HK.out.trans (Keep.below hb_)); (try clear hz3000019_0_8 hz3000019_1_8); (try clear hz3000020_0_8 hz3000020_1_8); have hb_ := SL.at_ HS.out; have hz3000020_0_9 := ((blk_cell hb_ 0).trans rfl : _ = some (.int .i64 3)); have hz3000020_1_9 := ((blk_cell hb_ 1).trans rfl : _ = some (.int .i64 4)); clear hb_; have hb_ := SL.at_ (SL.get1 HS.out); have hz3000019_0_9 := ((blk_cell hb_ 0).trans rfl : _ = some (.int .i64 0)); have hz3000019_1_9 := ((blk_cell hb_ 1).trans rfl : _ = some (.int .i64 0)); clear hb_) | ((with_reducible refine gate_dst (N := 21) rfl ?_); (try (refine gate_guard (by rfl) ?_; dsimp only)); refine goesL_ (some 21) rfl rfl Try.func12 (by kernel_rfl) rfl #[.agg #[.int .i64 0, .int .i64 0], .agg #[.int .i64 3, .int .i64 4], .int .i64 5] rfl (by (try simp only [List.map_toArray, List.map_cons, List.map_nil]); first | done | rfl | (simp; done)) ?_; (with_reducible refine (grid_Near.calls k _ _ _ _ _ _ _  Hc6.out).mono ?_); rintro e_ w25 ⟨rfl, hb_⟩; refine ⟨_, rfl, ?_⟩; replace HS := Aside0.mk (HS.out.below hb_); replace HK := Aside0.mk (HK.out.trans (Keep.below hb_)); (try clear hz3000019_0_9 hz3000019_1_9); (try clear hz3000020_0_9 hz3000020_1_9); have hb_ := SL.at_ (SL.get1 HS.out); have hz3000019_0_10 := ((blk_cell hb_ 0).trans rfl : _ = some (.int .i64 0)); have hz3000019_1_10 := ((blk_cell hb_ 1).trans rfl : _ = some (.int .i64 0)); clear hb_; have hb_ := SL.at_ (SL.get2 HS.out); have hz3000018_0_10 := ((blk_cell hb_ 0).trans rfl : _ = some (.int .i64 6)); have hz3000018_1_10 := ((blk_cell hb_ 1).trans rfl : _ = some (.int .i64 2)); have hz3000018_2_10 := ((blk_cell hb_ 2).trans rfl : _ = some (.slice Az3000017 y225.length cz3000017)); clear hb_) | ((with_reducible refine gate_dst (N := 27) rfl ?_); (try (refine gate_guard (by rfl) ?_; dsimp only)); refine goesL_ (some 27) rfl rfl Try.func15 (by kernel_rfl) rfl #[.agg #[.int .i64 6, .int .i64 2, .slice Az3000017 y225.length cz3000017], .agg #[.int .i64 0, .int .i64 0], .agg #[.int .i64 5, .int .i64 1], .int .i64 3] rfl (by (try simp only [List.map_toArray, List.map_cons, List.map_nil]); first | done | rfl | (simp; done)) ?_; (with_reducible refine (grid_Toward.calls k _ _ _ _ _ _ _ _ _ _ _ _ _ (SL.row_c (SL.get3 HS.out)).2.2 (SL.row_c (SL.get3 HS.out)).2.1 Hc8.out).mono ?_); rintro e_ w26 ⟨rfl, hb_⟩; refine ⟨_, rfl, ?_⟩; replace HS := Aside0.mk (HS.out.below hb_); replace HK := Aside0.mk (HK.out.trans (Keep.below hb_)); (try clear hz3000018_0_10 hz3000018_1_10 hz3000018_2_10); (try clear hz3000019_0_10 hz3000019_1_10); have hb_ := SL.at_ (SL.get1 HS.out); have hz3000019_0_11 := ((blk_cell hb_ 0).trans rfl : _ = some (.int .i64 0)); have hz3000019_1_11 := ((blk_cell hb_ 1).trans rfl : _ = some (.int .i64 0)); clear hb_; have hb_ := SL.at_ (SL.get2 HS.out); have hz3000018_0_11 := ((blk_cell hb_ 0).trans rfl : _ = some (.int .i64 6)); have hz3000018_1_11 := ((blk_cell hb_ 1).trans rfl : _ = some (.int .i64 2)); have hz3000018_2_11 := ((blk_cell hb_ 2).trans rfl : _ = some (.slice Az3000017 y225.length cz3000017)); clear hb_) | ((with_reducible refine gate_dst (N := 34) rfl ?_); (try (refine gate_guard (by rfl) ?_; dsimp only)); refine goesL_ (some 34) rfl rfl Try.func19 (by kernel_rfl) rfl #[.agg #[.int .i64 6, .int .i64 2, .slice Az3000017 y225.length cz3000017], .agg #[.int .i64 0, .int .i64 0], .int .i64 1] rfl (by (try simp only [List.map_toArray, List.map_cons, List.map_nil]); first | done | rfl | (simp; done)) ?_; (with_reducible refine (grid_Around.calls k _ _ _ _ _ _ _ _ _ _ (SL.row_c (SL.get3 HS.out)).2.2 (SL.row_c (SL.get3 HS.out)).2.1 Hc10.out).mono ?_); rintro e_ w27 ⟨v3000021_, rfl, ho3000021_, hb_⟩; refine ⟨_, rfl, ?_⟩; have hs_ := (SL.new (HF.out.keep HK.out) HS.out hb_ (row_of_R ho3000021_)).1; obtain ⟨Az3000021, cz3000021, e2_, _, _⟩ := SL.row_reads hs_; subst e2_; replace HS := Aside0.mk (hs_); replace HK := Aside0.mk (HK.out.trans (Keep.below hb_)); (try clear hz3000018_0_11 hz3000018_1_11 hz3000018_2_11); (try clear hz3000019_0_11 hz3000019_1_11); have hb_ := SL.at_ (SL.get2 HS.out); have hz3000019_0_12 := ((blk_cell hb_ 0).trans rfl : _ = some (.int .i64 0)); have hz3000019_1_12 := ((blk_cell hb_ 1).trans rfl : _ = some (.int .i64 0)); clear hb_; have hb_ := SL.at_ (SL.get3 HS.out); have hz3000018_0_12 := ((blk_cell hb_ 0).trans rfl : _ = some (.int .i64 6)); have hz3000018_1_12 := ((blk_cell hb_ 1).trans rfl : _ = some (.int .i64 2)); have hz3000018_2_12 := ((blk_cell hb_ 2).trans rfl : _ = some (.slice Az3000017 y225.length cz3000017)); clear hb_) | ((with_reducible refine gate_dst (N := 41) rfl ?_); (try (refine gate_guard (by rfl) ?_; dsimp only)); refine goesL_ (some 41) rfl rfl Try.func17 (by kernel_rfl) rfl #[.agg #[.int .i64 6, .int .i64 2, .slice Az3000017 y225.length cz3000017], .agg #[.int .i64 0, .int .i64 0]] rfl (by (try simp only [List.map_toArray, List.map_cons, List.map_nil]); first | done | rfl | (simp; done)) ?_; (with_reducible refine (grid_In.calls _ _ _ _ _ _ _ _ _ (SL.row_c (SL.get4 HS.out)).2.2 (SL.row_c (SL.get4 HS.out)).2.1 Hc12.out).mono ?_); rintro e_ w28 ⟨rfl, hb_⟩; refine ⟨_, rfl, ?_⟩; replace HS := Aside0.mk (HS.out.below hb_); replace HK := Aside0.mk (HK.out.trans (Keep.below hb_)); (try clear hz3000018_0_12 hz3000018_1_12 hz3000018_2_12); (try clear hz3000019_0_12 hz3000019_1_12); have hb_ := SL.at_ (SL.get1 HS.out); have hz3000020_0_13 := ((blk_cell hb_ 0).trans rfl : _ = some (.int .i64 3)); have hz3000020_1_13 := ((blk_cell hb_ 1).trans rfl : _ = some (.int .i64 4)); clear hb_; have hb_ := SL.at_ (SL.get3 HS.out); have hz3000018_0_13 := ((blk_cell hb_ 0).trans rfl : _ = some (.int .i64 6)); have hz3000018_1_13 := ((blk_cell hb_ 1).trans rfl : _ = some (.int .i64 2)); have hz3000018_2_13 := ((blk_cell hb_ 2).trans rfl : _ = some (.slice Az3000017 y225.length cz3000017)); clear hb_) | ((with_reducible refine gate_dst (N := 46) rfl ?_); (try (refine gate_guard (by rfl) ?_; dsimp only)); refine goesL_ (some 46) rfl rfl Try.func17 (by kernel_rfl) rfl #[.agg #[.int .i64 6, .int .i64 2, .slice Az3000017 y225.length cz3000017], .agg #[.int .i64 3, .int .i64 4]] rfl (by (try simp only [List.map_toArray, List.map_cons, List.map_nil]); first | done | rfl | (simp; done)) ?_; (with_reducible refine (grid_In.calls _ _ _ _ _ _ _ _ _ (SL.row_c (SL.get4 HS.out)).2.2 (SL.row_c (SL.get4 HS.out)).2.1 Hc14.out).mono ?_); rintro e_ w29 ⟨rfl, hb_⟩; refine ⟨_, rfl, ?_⟩; replace HS := Aside0.mk (HS.out.below hb_); replace HK := Aside0.mk (HK.out.trans (Keep.below hb_)); (try clear hz3000018_0_13 hz3000018_1_13 hz3000018_2_13); (try clear hz3000020_0_13 hz3000020_1_13)))
                  go_ret
                  replace HS := Aside0.mk (SL.tail (SL.tail (SL.tail (SL.tail (SL.tail HS.out)))))
                  unfold barrowlaw06_small.Post
                  exact ⟨by first | rfl | (simp; done) | (simp [*]; done) | (simp at c11b0 ⊢; first | exact c11b0 | (simp [c11b0]; done)), HS.out, HK.out⟩
              · replace c13 := Bool.eq_false_iff.mpr c13
                subst c13
                rw [if_neg (show ¬ (false = true) by decide)] at H
                exact absurd H (by simp)
            · rw [if_neg c11] at H
              exact absurd H (by simp)
          · rw [if_neg c9] at H
            exact absurd H (by simp)
        · replace c7 := Bool.eq_false_iff.mpr c7
          subst c7
          rw [if_neg (show ¬ (false = true) by decide)] at H
          exact absurd H (by simp)
      · rw [if_neg c5] at H
        exact absurd H (by simp)
    · rw [if_neg c3] at H
      exact absurd H (by simp)
  · rw [if_neg c1] at H
    exact absurd H (by simp)
theorem barrowlaw06_small.calls (k : Nat)  (r : Bool) (w : World) (h : barrowlaw06_small.f k  = some r) :
    Calls Try.prog 7 #[] w fun e w' => e = .returned (.bool r) ∧ Below w.heap.size w w' :=
  (barrowlaw06_small.slcalls k  r (news w) [] w (fresh_news w) trivial h).mono fun _ _ h => ⟨h.1, h.2.2.to_below⟩

end Go.Proofs.Ytoalpmfkaijomaa.XGN
