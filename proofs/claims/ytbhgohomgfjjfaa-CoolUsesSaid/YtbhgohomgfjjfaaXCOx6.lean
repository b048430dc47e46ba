-- Written by xprint.py (a program of this session) for this claim
import Derived.Test.YtbhgohomgfjjfaaSL5
import Derived.Test.YtbhgohomgfjjfaaXCOx0
import Derived.Test.YtbhgohomgfjjfaaXCOx1
import Derived.Test.YtbhgohomgfjjfaaXCOx2
import Derived.Test.YtbhgohomgfjjfaaXCOx3
import Derived.Test.YtbhgohomgfjjfaaXCOx4
import Derived.Test.YtbhgohomgfjjfaaXCOx5
namespace Go.Proofs.Ytbhgohomgfjjfaa.XCO
open Go.Proofs.YtbhgohomgfjjfaaV Go.Proofs.YtbhgohomgfjjfaaS
open Go.RowKit Go.Proofs.YtbhgohomgfjjfaaW.PrintWords Go.Proofs.YtbhgohomgfjjfaaW.PrintLast Go.Proofs.YtbhgohomgfjjfaaW.PrintMore
attribute [local go_sem] max2_int min2_int max_two min_two max_three min_three max_four min_four   -- for this text's walks alone
set_option linter.unusedVariables false
set_option linter.unusedSimpArgs false

/-! ### cool_Use: function 10 -/
def cool_Use.f (k : Nat) (l0 : List (S35)) (a1_0 : Int) (a1_1 : Int) (a1_2 : Int) (a1_3 : Int) (a1_4 : Int) (a1_5 : Int) (a1_6 : Bool) (l1_7 : List (S76)) (a2 : Int) : Option ((List (S35)) × Bool) := (cool_away.f k l0 a1_0 a2).bind fun t207 => ((cool_Right.f k l0).bind fun t208 => (if t208 = true then (if a1_0 < 1 then ((cool_copied.f l0).bind fun t209 => (some (t209, false))) else (if (t207.length : Int) ≥ 100 then ((cool_copied.f l0).bind fun t210 => (some (t210, false))) else ((cool_Ready.f k l0 a1_0 a1_1 a1_2 a1_3 a1_4 a1_5 a1_6 l1_7 a2).bind fun t211 => (if t211 = 0 then ((cool_copied.f l0).bind fun t212 => (some (t212, false))) else (if a1_2 > 0 then ((cool_longer_i1.f k t207 a2 a1_2).bind fun t246 => ((cool_Reset.f k l0 a1_0).bind fun t247 => (if (t246.length : Int) = 0 then (some (t247, true)) else ((api_Cool_26_i3.f k t247 a1_0 a1_1 a1_2 a1_3 a1_4 a1_5 a1_6 l1_7).bind fun bt266 => (if bt266.1 < 0 then ((some (([(⟨bt266.2.1, t246⟩ : S35)] : List (S35)) : List (S35))).bind fun y274 => ((slices_Insert.f t247 (t247.length : Int) y274).bind fun t275 => (some (t275, true)))) else ((some (([(⟨bt266.2.1, t246⟩ : S35)] : List (S35)) : List (S35))).bind fun y276 => ((slices_Insert.f t247 bt266.1 y276).bind fun t277 => (some (t277, true))))))))) else ((cool_Reset.f k l0 a1_0).bind fun t278 => (if (t207.length : Int) = 0 then (some (t278, true)) else ((api_Cool_26_i3.f k t278 a1_0 a1_1 a1_2 a1_3 a1_4 a1_5 a1_6 l1_7).bind fun bt279 => (if bt279.1 < 0 then ((some (([(⟨bt279.2.1, t207⟩ : S35)] : List (S35)) : List (S35))).bind fun y287 => ((slices_Insert.f t278 (t278.length : Int) y287).bind fun t288 => (some (t288, true)))) else ((some (([(⟨bt279.2.1, t207⟩ : S35)] : List (S35)) : List (S35))).bind fun y289 => ((slices_Insert.f t278 bt279.1 y289).bind fun t290 => (some (t290, true))))))))))))) else ((cool_copied.f l0).bind fun t291 => (some (t291, false)))))
theorem cool_Use.mono : ∀ a0 a1 a2 a3 a4 a5 a6 a7 a8 a9 k, LeO (cool_Use.f k a0 a1 a2 a3 a4 a5 a6 a7 a8 a9) (cool_Use.f (k + 1) a0 a1 a2 a3 a4 a5 a6 a7 a8 a9) := by
  intro a0 a1 a2 a3 a4 a5 a6 a7 a8 a9 k
  unfold cool_Use.f
  repeat' first
      | (with_reducible exact api_Cool_26_i3.mono _ _ _ _ _ _ _ _ _ _)
      | (with_reducible exact cool_Ready.mono _ _ _ _ _ _ _ _ _ _ _)
      | (with_reducible exact cool_Reset.mono _ _ _)
      | (with_reducible exact cool_Right.mono _ _)
      | (with_reducible exact cool_away.mono _ _ _ _)
      | (with_reducible exact cool_longer_i1.mono _ _ _ _)
      | (with_reducible exact LeO.refl _)
      | (with_reducible exact LeO.none _)
      | (with_reducible refine LeO.ite ?_ ?_)
      | (with_reducible refine everyOf_le (fun _ => ?_))
      | (with_reducible refine LeO.bind ?_ (fun _ => ?_))
      | exact api_Cool_26_i3.mono _ _ _ _ _ _ _ _ _ _
      | exact cool_Ready.mono _ _ _ _ _ _ _ _ _ _ _
      | exact cool_Reset.mono _ _ _
      | exact cool_Right.mono _ _
      | exact cool_away.mono _ _ _ _
      | exact cool_longer_i1.mono _ _ _ _
      | exact LeO.none _
      | refine LeO.ite ?_ ?_
      | refine LeO.bind ?_ (fun _ => ?_)
def cool_Use.Post (r1 : List (S35)) (r2 : Bool) (S : Nat → Prop) (L : List Asr) (w : World) (e : Ending) (w' : World) : Prop := ∃ (Ar1 : Option Addr) (cr1 : Nat), e = .returned (.tuple #[.slice Ar1 r1.length cr1, .bool r2]) ∧ SL (rows inn35 2 35 (.slice Ar1 r1.length cr1) r1 :: L) w' S ∧ Keep S w w'
set_option maxHeartbeats 8000000 in
set_option maxRecDepth 100000 in
theorem cool_Use.slcalls (k : Nat) (A0 : Option Addr) (c0 : Nat) (l0 : List (S35)) (a1_0 : Int) (a1_1 : Int) (a1_2 : Int) (a1_3 : Int) (a1_4 : Int) (a1_5 : Int) (a1_6 : Bool) (A1_7 : Option Addr) (c1_7 : Nat) (l1_7 : List (S76)) (a2 : Int) (r1 : List (S35)) (r2 : Bool) (S : Nat → Prop) (L : List Asr) (w : World) (hf : Fresh S w) (hs : SL (L) w S) (hr0 : RO S w (fun w_ => Kd.C k35 w_ A0 l0.length l0)) (hc0 : l0.length ≤ c0) (hr1_7 : RO S w (fun w_ => Kd.C k76 w_ A1_7 l1_7.length l1_7)) (hc1_7 : l1_7.length ≤ c1_7) (h : cool_Use.f k l0 a1_0 a1_1 a1_2 a1_3 a1_4 a1_5 a1_6 l1_7 a2 = some (r1, r2)) :
    Calls Try.prog 10 #[.slice A0 l0.length c0, .agg #[.int .i64 a1_0, .int .i64 a1_1, .int .i64 a1_2, .int .i64 a1_3, .int .i64 a1_4, .int .i64 a1_5, .bool a1_6, .slice A1_7 l1_7.length c1_7], .int .i64 a2] w (cool_Use.Post r1 r2 S L w) := by
  have HR0 := Aside0.mk hr0
  have HC0 := Aside0.mk hc0
  clear hr0 hc0
  have HR1_7 := Aside0.mk hr1_7
  have HC1_7 := Aside0.mk hc1_7
  clear hr1_7 hc1_7
  have HF := Aside0.mk hf
  have HS := Aside0.mk hs
  have HK := Aside0.mk (Keep.refl S w)
  clear hf hs
  have hu25 := Try.underlying25
  have hu35 := Try.underlying35
  have H : ((cool_away.f k l0 a1_0 a2).bind fun t207 => ((cool_Right.f k l0).bind fun t208 => (if t208 = true then (if a1_0 < 1 then ((cool_copied.f l0).bind fun t209 => (some (t209, false))) else (if (t207.length : Int) ≥ 100 then ((cool_copied.f l0).bind fun t210 => (some (t210, false))) else ((cool_Ready.f k l0 a1_0 a1_1 a1_2 a1_3 a1_4 a1_5 a1_6 l1_7 a2).bind fun t211 => (if t211 = 0 then ((cool_copied.f l0).bind fun t212 => (some (t212, false))) else (if a1_2 > 0 then ((cool_longer_i1.f k t207 a2 a1_2).bind fun t246 => ((cool_Reset.f k l0 a1_0).bind fun t247 => (if (t246.length : Int) = 0 then (some (t247, true)) else ((api_Cool_26_i3.f k t247 a1_0 a1_1 a1_2 a1_3 a1_4 a1_5 a1_6 l1_7).bind fun bt266 => (if bt266.1 < 0 then ((some (([(⟨bt266.2.1, t246⟩ : S35)] : List (S35)) : List (S35))).bind fun y274 => ((slices_Insert.f t247 (t247.length : Int) y274).bind fun t275 => (some (t275, true)))) else ((some (([(⟨bt266.2.1, t246⟩ : S35)] : List (S35)) : List (S35))).bind fun y276 => ((slices_Insert.f t247 bt266.1 y276).bind fun t277 => (some (t277, true))))))))) else ((cool_Reset.f k l0 a1_0).bind fun t278 => (if (t207.length : Int) = 0 then (some (t278, true)) else ((api_Cool_26_i3.f k t278 a1_0 a1_1 a1_2 a1_3 a1_4 a1_5 a1_6 l1_7).bind fun bt279 => (if bt279.1 < 0 then ((some (([(⟨bt279.2.1, t207⟩ : S35)] : List (S35)) : List (S35))).bind fun y287 => ((slices_Insert.f t278 (t278.length : Int) y287).bind fun t288 => (some (t288, true)))) else ((some (([(⟨bt279.2.1, t207⟩ : S35)] : List (S35)) : List (S35))).bind fun y289 => ((slices_Insert.f t278 bt279.1 y289).bind fun t290 => (some (t290, true))))))))))))) else ((cool_copied.f l0).bind fun t291 => (some (t291, false)))))) = some (r1, r2) := h
  clear h
  replace H := Option.bind_eq_some_iff.1 H
  obtain ⟨t207, Hc10, H⟩ := H
  try dsimp only at H
  have Hc1 := Aside0.mk Hc10
  clear Hc10
  replace H := Option.bind_eq_some_iff.1 H
  obtain ⟨t208, Hc20, H⟩ := H
  try dsimp only at H
  have Hc2 := Aside0.mk Hc20
  clear Hc20
  have H' := Aside0.mk H
  clear H
  go_enter Try.func10, Try.ntmps10
  go_wp2_with (first | ((with_reducible refine gate_dst (N := 4) rfl ?_); refine wpList_plain rfl (fun K_ hK_ => ?_); refine op_box (S := S) (cs := #[.int .i64 a1_0, .int .i64 a1_1, .int .i64 a1_2, .int .i64 a1_3, .int .i64 a1_4, .int .i64 a1_5, .bool a1_6, .slice A1_7 l1_7.length c1_7]) (t := 25) (HF.out.keep HK.out) HS.out (by first | (go_simp; done) | (go_simp; rfl)) ?_; intro g3000009 w3 hs_ hk_; refine hK_ _ _ ?_; clear hK_ K_; replace HS := Aside0.mk (hs_); replace HK := Aside0.mk (HK.out.trans hk_); have hb_ := SL.at_ HS.out; have hz3000009_0_1 := ((blk_cell hb_ 0).trans rfl : _ = some (.int .i64 a1_0)); have hz3000009_1_1 := ((blk_cell hb_ 1).trans rfl : _ = some (.int .i64 a1_1)); have hz3000009_2_1 := ((blk_cell hb_ 2).trans rfl : _ = some (.int .i64 a1_2)); have hz3000009_3_1 := ((blk_cell hb_ 3).trans rfl : _ = some (.int .i64 a1_3)); have hz3000009_4_1 := ((blk_cell hb_ 4).trans rfl : _ = some (.int .i64 a1_4)); have hz3000009_5_1 := ((blk_cell hb_ 5).trans rfl : _ = some (.int .i64 a1_5)); have hz3000009_6_1 := ((blk_cell hb_ 6).trans rfl : _ = some (.bool a1_6)); have hz3000009_7_1 := ((blk_cell hb_ 7).trans rfl : _ = some (.slice A1_7 l1_7.length c1_7)); clear hb_) | ((with_reducible refine gate_dst (N := 15) rfl ?_); refine goesL_ (some 15) rfl rfl Try.func23 (by kernel_rfl) rfl #[.slice A0 l0.length c0, .int .i64 a1_0, .int .i64 a2] rfl (by (try simp only [List.map_toArray, List.map_cons, List.map_nil]); first | done | rfl | (simp; done)) ?_; (with_reducible refine (cool_away.calls k _ _ _ _ _ _ _ (RO.at_ HR0.out HK.out) HC0.out Hc1.out).mono ?_); rintro e_ w4 ⟨v3000010_, rfl, ho3000010_, hb_⟩; refine ⟨_, rfl, ?_⟩; have hs_ := (SL.new (HF.out.keep HK.out) HS.out hb_ (row_of_R ho3000010_)).1; obtain ⟨Az3000010, cz3000010, e2_, _, _⟩ := SL.row_reads hs_; subst e2_; replace HS := Aside0.mk (hs_); replace HK := Aside0.mk (HK.out.trans (Keep.below hb_)); (try clear hz3000009_0_1 hz3000009_1_1 hz3000009_2_1 hz3000009_3_1 hz3000009_4_1 hz3000009_5_1 hz3000009_6_1 hz3000009_7_1)) | ((with_reducible refine gate_dst (N := 17) rfl ?_); refine goesL_ (some 17) rfl rfl Try.func17 (by kernel_rfl) rfl #[.slice A0 l0.length c0] rfl (by (try simp only [List.map_toArray, List.map_cons, List.map_nil]); first | done | rfl | (simp; done)) ?_; (with_reducible refine (cool_Right.calls k _ _ _ _ _ (RO.at_ HR0.out HK.out) HC0.out Hc2.out).mono ?_); rintro e_ w5 ⟨rfl, hb_⟩; refine ⟨_, rfl, ?_⟩; replace HS := Aside0.mk (HS.out.below hb_); replace HK := Aside0.mk (HK.out.trans (Keep.below hb_)); refine stop_ ?_; intro G_ hG_))
  have H := H'.out
  clear H'
  by_cases c6 : t208 = true
  · subst c6
    rw [if_pos rfl] at H
    by_cases c7 : a1_0 < 1
    · rw [if_pos c7] at H
      have c7b0 : decide (a1_0 < 1) = true := decide_eq_true c7
      clear c7
      replace H := Option.bind_eq_some_iff.1 H
      obtain ⟨t209, Hc80, H⟩ := H
      try dsimp only at H
      have Hc8 := Aside0.mk Hc80
      clear Hc80
      simp only [Option.some.injEq, Prod.mk.injEq] at H
      obtain ⟨rfl, rfl⟩ := H
      have hb_ := SL.at_ (SL.get1 HS.out)
      have hz3000009_0_0 := ((blk_cell hb_ 0).trans rfl : _ = some (.int .i64 a1_0))
      have hz3000009_1_0 := ((blk_cell hb_ 1).trans rfl : _ = some (.int .i64 a1_1))
      have hz3000009_2_0 := ((blk_cell hb_ 2).trans rfl : _ = some (.int .i64 a1_2))
      have hz3000009_3_0 := ((blk_cell hb_ 3).trans rfl : _ = some (.int .i64 a1_3))
      have hz3000009_4_0 := ((blk_cell hb_ 4).trans rfl : _ = some (.int .i64 a1_4))
      have hz3000009_5_0 := ((blk_cell hb_ 5).trans rfl : _ = some (.int .i64 a1_5))
      have hz3000009_6_0 := ((blk_cell hb_ 6).trans rfl : _ = some (.bool a1_6))
      have hz3000009_7_0 := ((blk_cell hb_ 7).trans rfl : _ = some (.slice A1_7 l1_7.length c1_7))
      clear hb_
      refine hG_.out ?_
      try simp only [c7b0]
      go_wp2_with (first | ((with_reducible refine gate_dst (N := 37) rfl ?_); refine goesL_ (some 37) rfl rfl Try.func24 (by kernel_rfl) rfl #[.slice A0 l0.length c0] rfl (by (try simp only [List.map_toArray, List.map_cons, List.map_nil]); first | done | rfl | (simp; done)) ?_; have hs0_ := HS.out; (with_reducible refine (cool_copied.slcalls _ _ _ _ _ _ _ (HF.out.keep HK.out) hs0_ (HR0.out.keep HK.out) HC0.out Hc8.out).mono ?_); rintro e_ w9 ⟨Az3000011, cz3000011, rfl, hsr_, hkr_⟩; refine ⟨_, rfl, ?_⟩; replace HS := Aside0.mk (hsr_); replace HK := Aside0.mk (HK.out.trans hkr_); (try clear hz3000009_0_0 hz3000009_1_0 hz3000009_2_0 hz3000009_3_0 hz3000009_4_0 hz3000009_5_0 hz3000009_6_0 hz3000009_7_0)))
      go_ret2
      replace HS := Aside0.mk (SL.tail (SL.get1 (SL.tail (SL.get1 HS.out))))
      unfold cool_Use.Post
      exact ⟨Az3000011, cz3000011, by first | rfl | (simp; done) | (simp [*]; done) | (simp at c7b0 ⊢; first | exact c7b0 | (simp [c7b0]; done)), HS.out, HK.out⟩
    · rw [if_neg c7] at H
      have c7b0 : decide (a1_0 < 1) = false := decide_eq_false c7
      clear c7
      by_cases c10 : (t207.length : Int) ≥ 100
      · rw [if_pos c10] at H
        have c10b0 : decide (100 ≤ (t207.length : Int)) = true := decide_eq_true c10
        have c10b1 : decide (100 ≤ t207.length) = true := decide_eq_true (by omega)
        clear c10
        replace H := Option.bind_eq_some_iff.1 H
        obtain ⟨t210, Hc110, H⟩ := H
        try dsimp only at H
        have Hc11 := Aside0.mk Hc110
        clear Hc110
        simp only [Option.some.injEq, Prod.mk.injEq] at H
        obtain ⟨rfl, rfl⟩ := H
        have hb_ := SL.at_ (SL.get1 HS.out)
        have hz3000009_0_0 := ((blk_cell hb_ 0).trans rfl : _ = some (.int .i64 a1_0))
        have hz3000009_1_0 := ((blk_cell hb_ 1).trans rfl : _ = some (.int .i64 a1_1))
        have hz3000009_2_0 := ((blk_cell hb_ 2).trans rfl : _ = some (.int .i64 a1_2))
        have hz3000009_3_0 := ((blk_cell hb_ 3).trans rfl : _ = some (.int .i64 a1_3))
        have hz3000009_4_0 := ((blk_cell hb_ 4).trans rfl : _ = some (.int .i64 a1_4))
        have hz3000009_5_0 := ((blk_cell hb_ 5).trans rfl : _ = some (.int .i64 a1_5))
        have hz3000009_6_0 := ((blk_cell hb_ 6).trans rfl : _ = some (.bool a1_6))
        have hz3000009_7_0 := ((blk_cell hb_ 7).trans rfl : _ = some (.slice A1_7 l1_7.length c1_7))
        clear hb_
        refine hG_.out ?_
        try simp only [c7b0, c10b0, c10b1]
        go_wp2_with (first | ((with_reducible refine gate_dst (N := 37) rfl ?_); refine goesL_ (some 37) rfl rfl Try.func24 (by kernel_rfl) rfl #[.slice A0 l0.length c0] rfl (by (try simp only [List.map_toArray, List.map_cons, List.map_nil]); first | done | rfl | (simp; done)) ?_; have hs0_ := HS.out; (with_reducible refine (cool_copied.slcalls _ _ _ _ _ _ _ (HF.out.keep HK.out) hs0_ (HR0.out.keep HK.out) HC0.out Hc11.out).mono ?_); rintro e_ w12 ⟨Az3000011, cz3000011, rfl, hsr_, hkr_⟩; refine ⟨_, rfl, ?_⟩; replace HS := Aside0.mk (hsr_); replace HK := Aside0.mk (HK.out.trans hkr_); (try clear hz3000009_0_0 hz3000009_1_0 hz3000009_2_0 hz3000009_3_0 hz3000009_4_0 hz3000009_5_0 hz3000009_6_0 hz3000009_7_0)))
        go_ret2
        replace HS := Aside0.mk (SL.tail (SL.get1 (SL.tail (SL.get1 HS.out))))
        unfold cool_Use.Post
        exact ⟨Az3000011, cz3000011, by first | rfl | (simp; done) | (simp [*]; done) | (simp at c10b0 ⊢; first | exact c10b0 | (simp [c10b0]; done)), HS.out, HK.out⟩
      · rw [if_neg c10] at H
        have c10b0 : decide (100 ≤ (t207.length : Int)) = false := decide_eq_false c10
        have c10b1 : decide (100 ≤ t207.length) = false := decide_eq_false (by omega)
        clear c10
        replace H := Option.bind_eq_some_iff.1 H
        obtain ⟨t211, Hc130, H⟩ := H
        try dsimp only at H
        have Hc13 := Aside0.mk Hc130
        clear Hc130
        by_cases c14 : t211 = 0
        · rw [if_pos c14] at H
          have c14b0 : (t211 == 0) = true := beq_iff_eq.mpr c14
          have c14b1 : (t211 != 0) = false := bne_eq_false_iff_eq.mpr c14
          clear c14
          replace H := Option.bind_eq_some_iff.1 H
          obtain ⟨t212, Hc150, H⟩ := H
          try dsimp only at H
          have Hc15 := Aside0.mk Hc150
          clear Hc150
          simp only [Option.some.injEq, Prod.mk.injEq] at H
          obtain ⟨rfl, rfl⟩ := H
          have hb_ := SL.at_ (SL.get1 HS.out)
          have hz3000009_0_0 := ((blk_cell hb_ 0).trans rfl : _ = some (.int .i64 a1_0))
          have hz3000009_1_0 := ((blk_cell hb_ 1).trans rfl : _ = some (.int .i64 a1_1))
          have hz3000009_2_0 := ((blk_cell hb_ 2).trans rfl : _ = some (.int .i64 a1_2))
          have hz3000009_3_0 := ((blk_cell hb_ 3).trans rfl : _ = some (.int .i64 a1_3))
          have hz3000009_4_0 := ((blk_cell hb_ 4).trans rfl : _ = some (.int .i64 a1_4))
          have hz3000009_5_0 := ((blk_cell hb_ 5).trans rfl : _ = some (.int .i64 a1_5))
          have hz3000009_6_0 := ((blk_cell hb_ 6).trans rfl : _ = some (.bool a1_6))
          have hz3000009_7_0 := ((blk_cell hb_ 7).trans rfl : _ = some (.slice A1_7 l1_7.length c1_7))
          clear hb_
          refine hG_.out ?_
          try simp only [c7b0, c10b0, c10b1, c14b0, c14b1]
          go_wp2_with (first | ((with_reducible refine gate_dst (N := 33) rfl ?_); (try (refine gate_guard (by rfl) ?_; dsimp only)); refine goesL_ (some 33) rfl rfl Try.func19 (by kernel_rfl) rfl #[.slice A0 l0.length c0, .agg #[.int .i64 a1_0, .int .i64 a1_1, .int .i64 a1_2, .int .i64 a1_3, .int .i64 a1_4, .int .i64 a1_5, .bool a1_6, .slice A1_7 l1_7.length c1_7], .int .i64 a2] rfl (by (try simp only [List.map_toArray, List.map_cons, List.map_nil]); first | done | rfl | (simp; done)) ?_; (with_reducible refine (cool_Ready.calls k _ _ _ _ _ _ _ _ _ _ _ _ _ _ _ _ (RO.at_ HR0.out HK.out) HC0.out (RO.at_ HR1_7.out HK.out) HC1_7.out Hc13.out).mono ?_); rintro e_ w16 ⟨rfl, hb_⟩; refine ⟨_, rfl, ?_⟩; replace HS := Aside0.mk (HS.out.below hb_); replace HK := Aside0.mk (HK.out.trans (Keep.below hb_)); (try clear hz3000009_0_0 hz3000009_1_0 hz3000009_2_0 hz3000009_3_0 hz3000009_4_0 hz3000009_5_0 hz3000009_6_0 hz3000009_7_0)) | ((with_reducible refine gate_dst (N := 37) rfl ?_); refine goesL_ (some 37) rfl rfl Try.func24 (by kernel_rfl) rfl #[.slice A0 l0.length c0] rfl (by (try simp only [List.map_toArray, List.map_cons, List.map_nil]); first | done | rfl | (simp; done)) ?_; have hs0_ := HS.out; (with_reducible refine (cool_copied.slcalls _ _ _ _ _ _ _ (HF.out.keep HK.out) hs0_ (HR0.out.keep HK.out) HC0.out Hc15.out).mono ?_); rintro e_ w17 ⟨Az3000011, cz3000011, rfl, hsr_, hkr_⟩; refine ⟨_, rfl, ?_⟩; replace HS := Aside0.mk (hsr_); replace HK := Aside0.mk (HK.out.trans hkr_)))
          go_ret2
          replace HS := Aside0.mk (SL.tail (SL.get1 (SL.tail (SL.get1 HS.out))))
          unfold cool_Use.Post
          exact ⟨Az3000011, cz3000011, by first | rfl | (simp; done) | (simp [*]; done) | (simp at c14b0 ⊢; first | exact c14b0 | (simp [c14b0]; done)), HS.out, HK.out⟩
        · rw [if_neg c14] at H
          have c14b0 : (t211 == 0) = false := beq_eq_false_iff_ne.mpr c14
          have c14b1 : (t211 != 0) = true := bne_iff_ne.mpr c14
          by_cases c18 : a1_2 > 0
          · rw [if_pos c18] at H
            have c18b0 : decide (0 < a1_2) = true := decide_eq_true c18
            clear c18
            replace H := Option.bind_eq_some_iff.1 H
            obtain ⟨t246, Hc190, H⟩ := H
            try dsimp only at H
            have Hc19 := Aside0.mk Hc190
            clear Hc190
            replace H := Option.bind_eq_some_iff.1 H
            obtain ⟨t247, Hc200, H⟩ := H
            try dsimp only at H
            have Hc20 := Aside0.mk Hc200
            clear Hc200
            have H' := Aside0.mk H
            clear H
            have hb_ := SL.at_ (SL.get1 HS.out)
            have hz3000009_0_0 := ((blk_cell hb_ 0).trans rfl : _ = some (.int .i64 a1_0))
            have hz3000009_1_0 := ((blk_cell hb_ 1).trans rfl : _ = some (.int .i64 a1_1))
            have hz3000009_2_0 := ((blk_cell hb_ 2).trans rfl : _ = some (.int .i64 a1_2))
            have hz3000009_3_0 := ((blk_cell hb_ 3).trans rfl : _ = some (.int .i64 a1_3))
            have hz3000009_4_0 := ((blk_cell hb_ 4).trans rfl : _ = some (.int .i64 a1_4))
            have hz3000009_5_0 := ((blk_cell hb_ 5).trans rfl : _ = some (.int .i64 a1_5))
            have hz3000009_6_0 := ((blk_cell hb_ 6).trans rfl : _ = some (.bool a1_6))
            have hz3000009_7_0 := ((blk_cell hb_ 7).trans rfl : _ = some (.slice A1_7 l1_7.length c1_7))
            clear hb_
            refine hG_.out ?_
            try simp only [c7b0, c10b0, c10b1, c14b0, c14b1, c18b0]
            go_wp2_with (first | ((with_reducible refine gate_dst (N := 33) rfl ?_); (try (refine gate_guard (by rfl) ?_; dsimp only)); refine goesL_ (some 33) rfl rfl Try.func19 (by kernel_rfl) rfl #[.slice A0 l0.length c0, .agg #[.int .i64 a1_0, .int .i64 a1_1, .int .i64 a1_2, .int .i64 a1_3, .int .i64 a1_4, .int .i64 a1_5, .bool a1_6, .slice A1_7 l1_7.length c1_7], .int .i64 a2] rfl (by (try simp only [List.map_toArray, List.map_cons, List.map_nil]); first | done | rfl | (simp; done)) ?_; (with_reducible refine (cool_Ready.calls k _ _ _ _ _ _ _ _ _ _ _ _ _ _ _ _ (RO.at_ HR0.out HK.out) HC0.out (RO.at_ HR1_7.out HK.out) HC1_7.out Hc13.out).mono ?_); rintro e_ w21 ⟨rfl, hb_⟩; refine ⟨_, rfl, ?_⟩; replace HS := Aside0.mk (HS.out.below hb_); replace HK := Aside0.mk (HK.out.trans (Keep.below hb_)); (try clear hz3000009_0_0 hz3000009_1_0 hz3000009_2_0 hz3000009_3_0 hz3000009_4_0 hz3000009_5_0 hz3000009_6_0 hz3000009_7_0); have hb_ := SL.at_ (SL.get1 HS.out); have hz3000009_0_1 := ((blk_cell hb_ 0).trans rfl : _ = some (.int .i64 a1_0)); have hz3000009_1_1 := ((blk_cell hb_ 1).trans rfl : _ = some (.int .i64 a1_1)); have hz3000009_2_1 := ((blk_cell hb_ 2).trans rfl : _ = some (.int .i64 a1_2)); have hz3000009_3_1 := ((blk_cell hb_ 3).trans rfl : _ = some (.int .i64 a1_3)); have hz3000009_4_1 := ((blk_cell hb_ 4).trans rfl : _ = some (.int .i64 a1_4)); have hz3000009_5_1 := ((blk_cell hb_ 5).trans rfl : _ = some (.int .i64 a1_5)); have hz3000009_6_1 := ((blk_cell hb_ 6).trans rfl : _ = some (.bool a1_6)); have hz3000009_7_1 := ((blk_cell hb_ 7).trans rfl : _ = some (.slice A1_7 l1_7.length c1_7)); clear hb_) | ((with_reducible refine gate_dst (N := 45) rfl ?_); refine goesL_ (some 45) rfl rfl Try.func25 (by kernel_rfl) rfl #[.slice Az3000010 t207.length cz3000010, .int .i64 a2, .int .i64 a1_2] rfl (by (try simp only [List.map_toArray, List.map_cons, List.map_nil]); first | done | rfl | (simp; done)) ?_; have hs0_ := HS.out; (with_reducible refine (cool_longer_i1.slcalls k _ _ _ _ _ _ _ _ _ (HF.out.keep HK.out) hs0_  Hc19.out).mono ?_); rintro e_ w22 ⟨Az3000013, cz3000013, rfl, hsr_, hkr_⟩; refine ⟨_, rfl, ?_⟩; replace HS := Aside0.mk (hsr_); replace HK := Aside0.mk (HK.out.trans hkr_); (try clear hz3000009_0_1 hz3000009_1_1 hz3000009_2_1 hz3000009_3_1 hz3000009_4_1 hz3000009_5_1 hz3000009_6_1 hz3000009_7_1); have hb_ := SL.at_ (SL.get1 HS.out); have hz3000009_0_2 := ((blk_cell hb_ 0).trans rfl : _ = some (.int .i64 a1_0)); have hz3000009_1_2 := ((blk_cell hb_ 1).trans rfl : _ = some (.int .i64 a1_1)); have hz3000009_2_2 := ((blk_cell hb_ 2).trans rfl : _ = some (.int .i64 a1_2)); have hz3000009_3_2 := ((blk_cell hb_ 3).trans rfl : _ = some (.int .i64 a1_3)); have hz3000009_4_2 := ((blk_cell hb_ 4).trans rfl : _ = some (.int .i64 a1_4)); have hz3000009_5_2 := ((blk_cell hb_ 5).trans rfl : _ = some (.int .i64 a1_5)); have hz3000009_6_2 := ((blk_cell hb_ 6).trans rfl : _ = some (.bool a1_6)); have hz3000009_7_2 := ((blk_cell hb_ 7).trans rfl : _ = some (.slice A1_7 l1_7.length c1_7)); clear hb_) | ((with_reducible refine gate_dst (N := 49) rfl ?_); refine goesL_ (some 49) rfl rfl Try.func13 (by kernel_rfl) rfl #[.slice A0 l0.length c0, .int .i64 a1_0] rfl (by (try simp only [List.map_toArray, List.map_cons, List.map_nil]); first | done | rfl | (simp; done)) ?_; have hs0_ := HS.out; (with_reducible refine (cool_Reset.slcalls k _ _ _ _ _ _ _ _ (HF.out.keep HK.out) hs0_ (HR0.out.keep HK.out) HC0.out Hc20.out).mono ?_); rintro e_ w23 ⟨Az3000014, cz3000014, rfl, hsr_, hkr_⟩; refine ⟨_, rfl, ?_⟩; replace HS := Aside0.mk (hsr_); replace HK := Aside0.mk (HK.out.trans hkr_); (try clear hz3000009_0_2 hz3000009_1_2 hz3000009_2_2 hz3000009_3_2 hz3000009_4_2 hz3000009_5_2 hz3000009_6_2 hz3000009_7_2); refine stop_ ?_; intro G_ hG_))
            have H := H'.out
            clear H'
            by_cases c24 : (t246.length : Int) = 0
            · rw [if_pos c24] at H
              have c24b0 : ((t246.length : Int) == 0) = true := beq_iff_eq.mpr c24
              have c24b1 : ((t246.length : Int) != 0) = false := bne_eq_false_iff_eq.mpr c24
              clear c24
              simp only [Option.some.injEq, Prod.mk.injEq] at H
              obtain ⟨rfl, rfl⟩ := H
              refine hG_.out ?_
              try simp only [c24b0, c24b1]
              go_wp2
              go_ret2
              replace HS := Aside0.mk (SL.tail (SL.get1 (SL.tail (SL.get1 HS.out))))
              unfold cool_Use.Post
              exact ⟨Az3000014, cz3000014, by first | rfl | (simp; done) | (simp [*]; done) | (simp at c24b0 ⊢; first | exact c24b0 | (simp [c24b0]; done)), HS.out, HK.out⟩
            · rw [if_neg c24] at H
              have c24b0 : ((t246.length : Int) == 0) = false := beq_eq_false_iff_ne.mpr c24
              have c24b1 : ((t246.length : Int) != 0) = true := bne_iff_ne.mpr c24
              have c24b2 : ¬ (t246 = []) := fun h_ => c24 (by rw [h_]; rfl)
              replace H := Option.bind_eq_some_iff.1 H
              obtain ⟨⟨t266, t267, t268, t269, t270, t271, t272, t273⟩, Hc250, H⟩ := H
              try dsimp only at H
              have Hc25 := Aside0.mk Hc250
              clear Hc250
              by_cases c26 : t266 < 0
              · rw [if_pos c26] at H
                have c26b0 : decide (t266 < 0) = true := decide_eq_true c26
                clear c26
                replace H := Option.bind_eq_some_iff.1 H
                obtain ⟨y274, hy2740, H⟩ := H
                try dsimp only at H
                have hy274 := Option.some.inj hy2740
                clear hy2740
                have Ny274 := Aside0.mk hy274
                clear hy274
                replace H := Option.bind_eq_some_iff.1 H
                obtain ⟨t275, Hc270, H⟩ := H
                try dsimp only at H
                have Hc27 := Aside0.mk Hc270
                clear Hc270
                simp only [Option.some.injEq, Prod.mk.injEq] at H
                obtain ⟨rfl, rfl⟩ := H
                refine hG_.out ?_
                try simp only [c24b0, c24b1, c26b0]
                go_wp2_with (first | ((with_reducible refine gate_dst (N := 56) rfl ?_); refine goesL_ (some 56) rfl rfl Try.func26 (by kernel_rfl) rfl #[.slice Az3000014 t247.length cz3000014, .func (.func 27) #[] #[.pointer (some ⟨g3000009, 0, none⟩)]] rfl (by (try simp only [List.map_toArray, List.map_cons, List.map_nil]); first | done | rfl | (simp; done)) ?_; have hs0_ := (SL.get1 (SL.get2 HS.out)); obtain ⟨U1_, hfU1_, hsub1_, hs1_, hro1_, hback1_⟩ := SL.lend (HF.out.keep HK.out) hs0_ (p := fun w_ => Kd.C k35 w_ Az3000014 t247.length t247) (fun w_ T_ h_ => rows_h (d := k35) reads_inn35 sz35 h_); (with_reducible refine (api_Cool_26_i3.slcalls k _ _ _ _ _ _ _ _ _ _ _ _ _ _ _ _ _ _ _ _ _ _ _ _ _ hfU1_ hs1_ hro1_ (rows_c (d := k35) reads_inn35 sz35 HS.out).2.1 (RO.sub (HR1_7.out.keep HK.out) (fun k_ h_ => hsub1_ k_ h_)) HC1_7.out Hc25.out).mono ?_); rintro e_ w28 ⟨rfl, hsr_, hkr_⟩; refine ⟨_, rfl, ?_⟩; replace HS := Aside0.mk ((hback1_ _ _ hkr_ hsr_)); replace HK := Aside0.mk (HK.out.trans (Keep.sub hkr_ (fun k_ h_ => hsub1_ k_ h_))); have hb_ := SL.at_ (SL.get1 HS.out); have hz3000009_0_1 := ((blk_cell hb_ 0).trans rfl : _ = some (.int .i64 t267)); have hz3000009_1_1 := ((blk_cell hb_ 1).trans rfl : _ = some (.int .i64 t268)); have hz3000009_2_1 := ((blk_cell hb_ 2).trans rfl : _ = some (.int .i64 t269)); have hz3000009_3_1 := ((blk_cell hb_ 3).trans rfl : _ = some (.int .i64 t270)); have hz3000009_4_1 := ((blk_cell hb_ 4).trans rfl : _ = some (.int .i64 t271)); have hz3000009_5_1 := ((blk_cell hb_ 5).trans rfl : _ = some (.int .i64 t272)); have hz3000009_6_1 := ((blk_cell hb_ 6).trans rfl : _ = some (.bool t273)); have hz3000009_7_1 := ((blk_cell hb_ 7).trans rfl : _ = some (.slice A1_7 l1_7.length c1_7)); clear hb_) | ((with_reducible refine gate_dst (N := 67) rfl ?_); refine wpList_plain rfl (fun K_ hK_ => ?_); refine op_rowR (K := inn35) (n := 2) (S := S) 35 (⟨t267, t246⟩ : S35) [.int .i64 t267, .slice Az3000013 t246.length cz3000013] (HF.out.keep HK.out) (SL.get2 HS.out) (fun _ _ h_ => ⟨_, rfl, h_⟩) (fun _ _ => ⟨rfl, by simp [Value.oneCell']⟩) y274 Ny274.out (by first | (go_simp; done) | (go_simp; rfl)) ?_; intro Az3000016 cz3000016 w29 hs_ hk_; refine hK_ _ _ ?_; clear hK_ K_; replace HS := Aside0.mk ((show SL (rows inn35 2 35 (.slice Az3000016 1 cz3000016) y274 :: _) _ _ from hs_)); replace HK := Aside0.mk (HK.out.trans hk_); (try clear hz3000009_0_1 hz3000009_1_1 hz3000009_2_1 hz3000009_3_1 hz3000009_4_1 hz3000009_5_1 hz3000009_6_1 hz3000009_7_1)) | ((with_reducible refine gate_dst (N := 68) rfl ?_); refine goesL_ (some 68) rfl rfl Try.func28 (by kernel_rfl) rfl #[.slice Az3000014 t247.length cz3000014, .int .i64 (t247.length : Int), .slice Az3000016 1 cz3000016] rfl (by (try simp only [List.map_toArray, List.map_cons, List.map_nil]); first | done | rfl | (simp; done)) ?_; have el3000016_ := Aside0.mk (rows_c (d := k35) reads_inn35 sz35 HS.out).1; refine calls_of_args (args' := #[.slice Az3000014 t247.length cz3000014, .int .i64 (t247.length : Int), .slice Az3000016 y274.length cz3000016]) (by rw [← el3000016_.out]) ?_; have hs0_ := (SL.back1 (rows_len (SL.get1 (SL.get1 HS.out)))); (with_reducible refine (slices_Insert.slcalls _ _ _ _ _ _ _ _ _ _ _ (HF.out.keep HK.out) hs0_  Hc27.out).mono ?_); rintro e_ w30 ⟨Az3000017, cz3000017, rfl, hsr_, hkr_⟩; refine ⟨_, rfl, ?_⟩; replace HS := Aside0.mk (hsr_); replace HK := Aside0.mk (HK.out.trans hkr_)))
                go_ret2
                replace HS := Aside0.mk (SL.tail (SL.get1 HS.out))
                unfold cool_Use.Post
                exact ⟨Az3000017, cz3000017, by first | rfl | (simp; done) | (simp [*]; done) | (simp at c26b0 ⊢; first | exact c26b0 | (simp [c26b0]; done)), HS.out, HK.out⟩
              · rw [if_neg c26] at H
                have c26b0 : decide (t266 < 0) = false := decide_eq_false c26
                clear c26
                replace H := Option.bind_eq_some_iff.1 H
                obtain ⟨y276, hy2760, H⟩ := H
                try dsimp only at H
                have hy276 := Option.some.inj hy2760
                clear hy2760
                have Ny276 := Aside0.mk hy276
                clear hy276
                replace H := Option.bind_eq_some_iff.1 H
                obtain ⟨t277, Hc310, H⟩ := H
                try dsimp only at H
                have Hc31 := Aside0.mk Hc310
                clear Hc310
                simp only [Option.some.injEq, Prod.mk.injEq] at H
                obtain ⟨rfl, rfl⟩ := H
                refine hG_.out ?_
                try simp only [c24b0, c24b1, c26b0]
                go_wp2_with (first | ((with_reducible refine gate_dst (N := 56) rfl ?_); refine goesL_ (some 56) rfl rfl Try.func26 (by kernel_rfl) rfl #[.slice Az3000014 t247.length cz3000014, .func (.func 27) #[] #[.pointer (some ⟨g3000009, 0, none⟩)]] rfl (by (try simp only [List.map_toArray, List.map_cons, List.map_nil]); first | done | rfl | (simp; done)) ?_; have hs0_ := (SL.get1 (SL.get2 HS.out)); obtain ⟨U1_, hfU1_, hsub1_, hs1_, hro1_, hback1_⟩ := SL.lend (HF.out.keep HK.out) hs0_ (p := fun w_ => Kd.C k35 w_ Az3000014 t247.length t247) (fun w_ T_ h_ => rows_h (d := k35) reads_inn35 sz35 h_); (with_reducible refine (api_Cool_26_i3.slcalls k _ _ _ _ _ _ _ _ _ _ _ _ _ _ _ _ _ _ _ _ _ _ _ _ _ hfU1_ hs1_ hro1_ (rows_c (d := k35) reads_inn35 sz35 HS.out).2.1 (RO.sub (HR1_7.out.keep HK.out) (fun k_ h_ => hsub1_ k_ h_)) HC1_7.out Hc25.out).mono ?_); rintro e_ w32 ⟨rfl, hsr_, hkr_⟩; refine ⟨_, rfl, ?_⟩; replace HS := Aside0.mk ((hback1_ _ _ hkr_ hsr_)); replace HK := Aside0.mk (HK.out.trans (Keep.sub hkr_ (fun k_ h_ => hsub1_ k_ h_))); have hb_ := SL.at_ (SL.get1 HS.out); have hz3000009_0_1 := ((blk_cell hb_ 0).trans rfl : _ = some (.int .i64 t267)); have hz3000009_1_1 := ((blk_cell hb_ 1).trans rfl : _ = some (.int .i64 t268)); have hz3000009_2_1 := ((blk_cell hb_ 2).trans rfl : _ = some (.int .i64 t269)); have hz3000009_3_1 := ((blk_cell hb_ 3).trans rfl : _ = some (.int .i64 t270)); have hz3000009_4_1 := ((blk_cell hb_ 4).trans rfl : _ = some (.int .i64 t271)); have hz3000009_5_1 := ((blk_cell hb_ 5).trans rfl : _ = some (.int .i64 t272)); have hz3000009_6_1 := ((blk_cell hb_ 6).trans rfl : _ = some (.bool t273)); have hz3000009_7_1 := ((blk_cell hb_ 7).trans rfl : _ = some (.slice A1_7 l1_7.length c1_7)); clear hb_) | ((with_reducible refine gate_dst (N := 67) rfl ?_); refine wpList_plain rfl (fun K_ hK_ => ?_); refine op_rowR (K := inn35) (n := 2) (S := S) 35 (⟨t267, t246⟩ : S35) [.int .i64 t267, .slice Az3000013 t246.length cz3000013] (HF.out.keep HK.out) (SL.get2 HS.out) (fun _ _ h_ => ⟨_, rfl, h_⟩) (fun _ _ => ⟨rfl, by simp [Value.oneCell']⟩) y276 Ny276.out (by first | (go_simp; done) | (go_simp; rfl)) ?_; intro Az3000016 cz3000016 w33 hs_ hk_; refine hK_ _ _ ?_; clear hK_ K_; replace HS := Aside0.mk ((show SL (rows inn35 2 35 (.slice Az3000016 1 cz3000016) y276 :: _) _ _ from hs_)); replace HK := Aside0.mk (HK.out.trans hk_); (try clear hz3000009_0_1 hz3000009_1_1 hz3000009_2_1 hz3000009_3_1 hz3000009_4_1 hz3000009_5_1 hz3000009_6_1 hz3000009_7_1)) | ((with_reducible refine gate_dst (N := 68) rfl ?_); refine goesL_ (some 68) rfl rfl Try.func28 (by kernel_rfl) rfl #[.slice Az3000014 t247.length cz3000014, .int .i64 t266, .slice Az3000016 1 cz3000016] rfl (by (try simp only [List.map_toArray, List.map_cons, List.map_nil]); first | done | rfl | (simp; done)) ?_; have el3000016_ := Aside0.mk (rows_c (d := k35) reads_inn35 sz35 HS.out).1; refine calls_of_args (args' := #[.slice Az3000014 t247.length cz3000014, .int .i64 t266, .slice Az3000016 y276.length cz3000016]) (by rw [← el3000016_.out]) ?_; have hs0_ := (SL.back1 (rows_len (SL.get1 (SL.get1 HS.out)))); (with_reducible refine (slices_Insert.slcalls _ _ _ _ _ _ _ _ _ _ _ (HF.out.keep HK.out) hs0_  Hc31.out).mono ?_); rintro e_ w34 ⟨Az3000017, cz3000017, rfl, hsr_, hkr_⟩; refine ⟨_, rfl, ?_⟩; replace HS := Aside0.mk (hsr_); replace HK := Aside0.mk (HK.out.trans hkr_)))
                go_ret2
                replace HS := Aside0.mk (SL.tail (SL.get1 HS.out))
                unfold cool_Use.Post
                exact ⟨Az3000017, cz3000017, by first | rfl | (simp; done) | (simp [*]; done) | (simp at c26b0 ⊢; first | exact c26b0 | (simp [c26b0]; done)), HS.out, HK.out⟩
          · rw [if_neg c18] at H
            have c18b0 : decide (0 < a1_2) = false := decide_eq_false c18
            clear c18
            replace H := Option.bind_eq_some_iff.1 H
            obtain ⟨t278, Hc350, H⟩ := H
            try dsimp only at H
            have Hc35 := Aside0.mk Hc350
            clear Hc350
            by_cases c36 : (t207.length : Int) = 0
            · rw [if_pos c36] at H
              have c36b0 : ((t207.length : Int) == 0) = true := beq_iff_eq.mpr c36
              have c36b1 : ((t207.length : Int) != 0) = false := bne_eq_false_iff_eq.mpr c36
              clear c36
              simp only [Option.some.injEq, Prod.mk.injEq] at H
              obtain ⟨rfl, rfl⟩ := H
              have hb_ := SL.at_ (SL.get1 HS.out)
              have hz3000009_0_0 := ((blk_cell hb_ 0).trans rfl : _ = some (.int .i64 a1_0))
              have hz3000009_1_0 := ((blk_cell hb_ 1).trans rfl : _ = some (.int .i64 a1_1))
              have hz3000009_2_0 := ((blk_cell hb_ 2).trans rfl : _ = some (.int .i64 a1_2))
              have hz3000009_3_0 := ((blk_cell hb_ 3).trans rfl : _ = some (.int .i64 a1_3))
              have hz3000009_4_0 := ((blk_cell hb_ 4).trans rfl : _ = some (.int .i64 a1_4))
              have hz3000009_5_0 := ((blk_cell hb_ 5).trans rfl : _ = some (.int .i64 a1_5))
              have hz3000009_6_0 := ((blk_cell hb_ 6).trans rfl : _ = some (.bool a1_6))
              have hz3000009_7_0 := ((blk_cell hb_ 7).trans rfl : _ = some (.slice A1_7 l1_7.length c1_7))
              clear hb_
              refine hG_.out ?_
              try simp only [c7b0, c10b0, c10b1, c14b0, c14b1, c18b0, c36b0, c36b1]
              go_wp2_with (first | ((with_reducible refine gate_dst (N := 33) rfl ?_); (try (refine gate_guard (by rfl) ?_; dsimp only)); refine goesL_ (some 33) rfl rfl Try.func19 (by kernel_rfl) rfl #[.slice A0 l0.length c0, .agg #[.int .i64 a1_0, .int .i64 a1_1, .int .i64 a1_2, .int .i64 a1_3, .int .i64 a1_4, .int .i64 a1_5, .bool a1_6, .slice A1_7 l1_7.length c1_7], .int .i64 a2] rfl (by (try simp only [List.map_toArray, List.map_cons, List.map_nil]); first | done | rfl | (simp; done)) ?_; (with_reducible refine (cool_Ready.calls k _ _ _ _ _ _ _ _ _ _ _ _ _ _ _ _ (RO.at_ HR0.out HK.out) HC0.out (RO.at_ HR1_7.out HK.out) HC1_7.out Hc13.out).mono ?_); rintro e_ w37 ⟨rfl, hb_⟩; refine ⟨_, rfl, ?_⟩; replace HS := Aside0.mk (HS.out.below hb_); replace HK := Aside0.mk (HK.out.trans (Keep.below hb_)); (try clear hz3000009_0_0 hz3000009_1_0 hz3000009_2_0 hz3000009_3_0 hz3000009_4_0 hz3000009_5_0 hz3000009_6_0 hz3000009_7_0); have hb_ := SL.at_ (SL.get1 HS.out); have hz3000009_0_1 := ((blk_cell hb_ 0).trans rfl : _ = some (.int .i64 a1_0)); have hz3000009_1_1 := ((blk_cell hb_ 1).trans rfl : _ = some (.int .i64 a1_1)); have hz3000009_2_1 := ((blk_cell hb_ 2).trans rfl : _ = some (.int .i64 a1_2)); have hz3000009_3_1 := ((blk_cell hb_ 3).trans rfl : _ = some (.int .i64 a1_3)); have hz3000009_4_1 := ((blk_cell hb_ 4).trans rfl : _ = some (.int .i64 a1_4)); have hz3000009_5_1 := ((blk_cell hb_ 5).trans rfl : _ = some (.int .i64 a1_5)); have hz3000009_6_1 := ((blk_cell hb_ 6).trans rfl : _ = some (.bool a1_6)); have hz3000009_7_1 := ((blk_cell hb_ 7).trans rfl : _ = some (.slice A1_7 l1_7.length c1_7)); clear hb_) | ((with_reducible refine gate_dst (N := 49) rfl ?_); refine goesL_ (some 49) rfl rfl Try.func13 (by kernel_rfl) rfl #[.slice A0 l0.length c0, .int .i64 a1_0] rfl (by (try simp only [List.map_toArray, List.map_cons, List.map_nil]); first | done | rfl | (simp; done)) ?_; have hs0_ := HS.out; (with_reducible refine (cool_Reset.slcalls k _ _ _ _ _ _ _ _ (HF.out.keep HK.out) hs0_ (HR0.out.keep HK.out) HC0.out Hc35.out).mono ?_); rintro e_ w38 ⟨Az3000014, cz3000014, rfl, hsr_, hkr_⟩; refine ⟨_, rfl, ?_⟩; replace HS := Aside0.mk (hsr_); replace HK := Aside0.mk (HK.out.trans hkr_); (try clear hz3000009_0_1 hz3000009_1_1 hz3000009_2_1 hz3000009_3_1 hz3000009_4_1 hz3000009_5_1 hz3000009_6_1 hz3000009_7_1)))
              go_ret2
              replace HS := Aside0.mk (SL.tail (SL.get1 (SL.tail (SL.get1 HS.out))))
              unfold cool_Use.Post
              exact ⟨Az3000014, cz3000014, by first | rfl | (simp; done) | (simp [*]; done) | (simp at c36b0 ⊢; first | exact c36b0 | (simp [c36b0]; done)), HS.out, HK.out⟩
            · rw [if_neg c36] at H
              have c36b0 : ((t207.length : Int) == 0) = false := beq_eq_false_iff_ne.mpr c36
              have c36b1 : ((t207.length : Int) != 0) = true := bne_iff_ne.mpr c36
              have c36b2 : ¬ (t207 = []) := fun h_ => c36 (by rw [h_]; rfl)
              replace H := Option.bind_eq_some_iff.1 H
              obtain ⟨⟨t279, t280, t281, t282, t283, t284, t285, t286⟩, Hc390, H⟩ := H
              try dsimp only at H
              have Hc39 := Aside0.mk Hc390
              clear Hc390
              have H' := Aside0.mk H
              clear H
              have hb_ := SL.at_ (SL.get1 HS.out)
              have hz3000009_0_0 := ((blk_cell hb_ 0).trans rfl : _ = some (.int .i64 a1_0))
              have hz3000009_1_0 := ((blk_cell hb_ 1).trans rfl : _ = some (.int .i64 a1_1))
              have hz3000009_2_0 := ((blk_cell hb_ 2).trans rfl : _ = some (.int .i64 a1_2))
              have hz3000009_3_0 := ((blk_cell hb_ 3).trans rfl : _ = some (.int .i64 a1_3))
              have hz3000009_4_0 := ((blk_cell hb_ 4).trans rfl : _ = some (.int .i64 a1_4))
              have hz3000009_5_0 := ((blk_cell hb_ 5).trans rfl : _ = some (.int .i64 a1_5))
              have hz3000009_6_0 := ((blk_cell hb_ 6).trans rfl : _ = some (.bool a1_6))
              have hz3000009_7_0 := ((blk_cell hb_ 7).trans rfl : _ = some (.slice A1_7 l1_7.length c1_7))
              clear hb_
              refine hG_.out ?_
              try simp only [c7b0, c10b0, c10b1, c14b0, c14b1, c18b0, c36b0, c36b1]
              go_wp2_with (first | ((with_reducible refine gate_dst (N := 33) rfl ?_); (try (refine gate_guard (by rfl) ?_; dsimp only)); refine goesL_ (some 33) rfl rfl Try.func19 (by kernel_rfl) rfl #[.slice A0 l0.length c0, .agg #[.int .i64 a1_0, .int .i64 a1_1, .int .i64 a1_2, .int .i64 a1_3, .int .i64 a1_4, .int .i64 a1_5, .bool a1_6, .slice A1_7 l1_7.length c1_7], .int .i64 a2] rfl (by (try simp only [List.map_toArray, List.map_cons, List.map_nil]); first | done | rfl | (simp; done)) ?_; (with_reducible refine (cool_Ready.calls k _ _ _ _ _ _ _ _ _ _ _ _ _ _ _ _ (RO.at_ HR0.out HK.out) HC0.out (RO.at_ HR1_7.out HK.out) HC1_7.out Hc13.out).mono ?_); rintro e_ w40 ⟨rfl, hb_⟩; refine ⟨_, rfl, ?_⟩; replace HS := Aside0.mk (HS.out.below hb_); replace HK := Aside0.mk (HK.out.trans (Keep.below hb_)); (try clear hz3000009_0_0 hz3000009_1_0 hz3000009_2_0 hz3000009_3_0 hz3000009_4_0 hz3000009_5_0 hz3000009_6_0 hz3000009_7_0); have hb_ := SL.at_ (SL.get1 HS.out); have hz3000009_0_1 := ((blk_cell hb_ 0).trans rfl : _ = some (.int .i64 a1_0)); have hz3000009_1_1 := ((blk_cell hb_ 1).trans rfl : _ = some (.int .i64 a1_1)); have hz3000009_2_1 := ((blk_cell hb_ 2).trans rfl : _ = some (.int .i64 a1_2)); have hz3000009_3_1 := ((blk_cell hb_ 3).trans rfl : _ = some (.int .i64 a1_3)); have hz3000009_4_1 := ((blk_cell hb_ 4).trans rfl : _ = some (.int .i64 a1_4)); have hz3000009_5_1 := ((blk_cell hb_ 5).trans rfl : _ = some (.int .i64 a1_5)); have hz3000009_6_1 := ((blk_cell hb_ 6).trans rfl : _ = some (.bool a1_6)); have hz3000009_7_1 := ((blk_cell hb_ 7).trans rfl : _ = some (.slice A1_7 l1_7.length c1_7)); clear hb_) | ((with_reducible refine gate_dst (N := 49) rfl ?_); refine goesL_ (some 49) rfl rfl Try.func13 (by kernel_rfl) rfl #[.slice A0 l0.length c0, .int .i64 a1_0] rfl (by (try simp only [List.map_toArray, List.map_cons, List.map_nil]); first | done | rfl | (simp; done)) ?_; have hs0_ := HS.out; (with_reducible refine (cool_Reset.slcalls k _ _ _ _ _ _ _ _ (HF.out.keep HK.out) hs0_ (HR0.out.keep HK.out) HC0.out Hc35.out).mono ?_); rintro e_ w41 ⟨Az3000014, cz3000014, rfl, hsr_, hkr_⟩; refine ⟨_, rfl, ?_⟩; replace HS := Aside0.mk (hsr_); replace HK := Aside0.mk (HK.out.trans hkr_); (try clear hz3000009_0_1 hz3000009_1_1 hz3000009_2_1 hz3000009_3_1 hz3000009_4_1 hz3000009_5_1 hz3000009_6_1 hz3000009_7_1)) | ((with_reducible refine gate_dst (N := 56) rfl ?_); refine goesL_ (some 56) rfl rfl Try.func26 (by kernel_rfl) rfl #[.slice Az3000014 t278.length cz3000014, .func (.func 27) #[] #[.pointer (some ⟨g3000009, 0, none⟩)]] rfl (by (try simp only [List.map_toArray, List.map_cons, List.map_nil]); first | done | rfl | (simp; done)) ?_; have hs0_ := (SL.get1 (SL.get2 HS.out)); obtain ⟨U1_, hfU1_, hsub1_, hs1_, hro1_, hback1_⟩ := SL.lend (HF.out.keep HK.out) hs0_ (p := fun w_ => Kd.C k35 w_ Az3000014 t278.length t278) (fun w_ T_ h_ => rows_h (d := k35) reads_inn35 sz35 h_); (with_reducible refine (api_Cool_26_i3.slcalls k _ _ _ _ _ _ _ _ _ _ _ _ _ _ _ _ _ _ _ _ _ _ _ _ _ hfU1_ hs1_ hro1_ (rows_c (d := k35) reads_inn35 sz35 HS.out).2.1 (RO.sub (HR1_7.out.keep HK.out) (fun k_ h_ => hsub1_ k_ h_)) HC1_7.out Hc39.out).mono ?_); rintro e_ w42 ⟨rfl, hsr_, hkr_⟩; refine ⟨_, rfl, ?_⟩; replace HS := Aside0.mk ((hback1_ _ _ hkr_ hsr_)); replace HK := Aside0.mk (HK.out.trans (Keep.sub hkr_ (fun k_ h_ => hsub1_ k_ h_))); refine stop_ ?_; intro G_ hG_))
              have H := H'.out
              clear H'
              by_cases c43 : t279 < 0
              · rw [if_pos c43] at H
                have c43b0 : decide (t279 < 0) = true := decide_eq_true c43
                clear c43
                replace H := Option.bind_eq_some_iff.1 H
                obtain ⟨y287, hy2870, H⟩ := H
                try dsimp only at H
                have hy287 := Option.some.inj hy2870
                clear hy2870
                have Ny287 := Aside0.mk hy287
                clear hy287
                replace H := Option.bind_eq_some_iff.1 H
                obtain ⟨t288, Hc440, H⟩ := H
                try dsimp only at H
                have Hc44 := Aside0.mk Hc440
                clear Hc440
                simp only [Option.some.injEq, Prod.mk.injEq] at H
                obtain ⟨rfl, rfl⟩ := H
                have hb_ := SL.at_ (SL.get1 HS.out)
                have hz3000009_0_0 := ((blk_cell hb_ 0).trans rfl : _ = some (.int .i64 t280))
                have hz3000009_1_0 := ((blk_cell hb_ 1).trans rfl : _ = some (.int .i64 t281))
                have hz3000009_2_0 := ((blk_cell hb_ 2).trans rfl : _ = some (.int .i64 t282))
                have hz3000009_3_0 := ((blk_cell hb_ 3).trans rfl : _ = some (.int .i64 t283))
                have hz3000009_4_0 := ((blk_cell hb_ 4).trans rfl : _ = some (.int .i64 t284))
                have hz3000009_5_0 := ((blk_cell hb_ 5).trans rfl : _ = some (.int .i64 t285))
                have hz3000009_6_0 := ((blk_cell hb_ 6).trans rfl : _ = some (.bool t286))
                have hz3000009_7_0 := ((blk_cell hb_ 7).trans rfl : _ = some (.slice A1_7 l1_7.length c1_7))
                clear hb_
                refine hG_.out ?_
                try simp only [c43b0]
                go_wp2_with (first | ((with_reducible refine gate_dst (N := 67) rfl ?_); refine wpList_plain rfl (fun K_ hK_ => ?_); refine op_rowR (K := inn35) (n := 2) (S := S) 35 (⟨t280, t207⟩ : S35) [.int .i64 t280, .slice Az3000010 t207.length cz3000010] (HF.out.keep HK.out) (SL.get2 HS.out) (fun _ _ h_ => ⟨_, rfl, h_⟩) (fun _ _ => ⟨rfl, by simp [Value.oneCell']⟩) y287 Ny287.out (by first | (go_simp; done) | (go_simp; rfl)) ?_; intro Az3000016 cz3000016 w45 hs_ hk_; refine hK_ _ _ ?_; clear hK_ K_; replace HS := Aside0.mk ((show SL (rows inn35 2 35 (.slice Az3000016 1 cz3000016) y287 :: _) _ _ from hs_)); replace HK := Aside0.mk (HK.out.trans hk_); (try clear hz3000009_0_0 hz3000009_1_0 hz3000009_2_0 hz3000009_3_0 hz3000009_4_0 hz3000009_5_0 hz3000009_6_0 hz3000009_7_0)) | ((with_reducible refine gate_dst (N := 68) rfl ?_); refine goesL_ (some 68) rfl rfl Try.func28 (by kernel_rfl) rfl #[.slice Az3000014 t278.length cz3000014, .int .i64 (t278.length : Int), .slice Az3000016 1 cz3000016] rfl (by (try simp only [List.map_toArray, List.map_cons, List.map_nil]); first | done | rfl | (simp; done)) ?_; have el3000016_ := Aside0.mk (rows_c (d := k35) reads_inn35 sz35 HS.out).1; refine calls_of_args (args' := #[.slice Az3000014 t278.length cz3000014, .int .i64 (t278.length : Int), .slice Az3000016 y287.length cz3000016]) (by rw [← el3000016_.out]) ?_; have hs0_ := (SL.back1 (rows_len (SL.get1 (SL.get1 HS.out)))); (with_reducible refine (slices_Insert.slcalls _ _ _ _ _ _ _ _ _ _ _ (HF.out.keep HK.out) hs0_  Hc44.out).mono ?_); rintro e_ w46 ⟨Az3000017, cz3000017, rfl, hsr_, hkr_⟩; refine ⟨_, rfl, ?_⟩; replace HS := Aside0.mk (hsr_); replace HK := Aside0.mk (HK.out.trans hkr_)))
                go_ret2
                replace HS := Aside0.mk (SL.tail (SL.get1 HS.out))
                unfold cool_Use.Post
                exact ⟨Az3000017, cz3000017, by first | rfl | (simp; done) | (simp [*]; done) | (simp at c43b0 ⊢; first | exact c43b0 | (simp [c43b0]; done)), HS.out, HK.out⟩
              · rw [if_neg c43] at H
                have c43b0 : decide (t279 < 0) = false := decide_eq_false c43
                clear c43
                replace H := Option.bind_eq_some_iff.1 H
                obtain ⟨y289, hy2890, H⟩ := H
                try dsimp only at H
                have hy289 := Option.some.inj hy2890
                clear hy2890
                have Ny289 := Aside0.mk hy289
                clear hy289
                replace H := Option.bind_eq_some_iff.1 H
                obtain ⟨t290, Hc470, H⟩ := H
                try dsimp only at H
                have Hc47 := Aside0.mk Hc470
                clear Hc470
                simp only [Option.some.injEq, Prod.mk.injEq] at H
                obtain ⟨rfl, rfl⟩ := H
                have hb_ := SL.at_ (SL.get1 HS.out)
                have hz3000009_0_0 := ((blk_cell hb_ 0).trans rfl : _ = some (.int .i64 t280))
                have hz3000009_1_0 := ((blk_cell hb_ 1).trans rfl : _ = some (.int .i64 t281))
                have hz3000009_2_0 := ((blk_cell hb_ 2).trans rfl : _ = some (.int .i64 t282))
                have hz3000009_3_0 := ((blk_cell hb_ 3).trans rfl : _ = some (.int .i64 t283))
                have hz3000009_4_0 := ((blk_cell hb_ 4).trans rfl : _ = some (.int .i64 t284))
                have hz3000009_5_0 := ((blk_cell hb_ 5).trans rfl : _ = some (.int .i64 t285))
                have hz3000009_6_0 := ((blk_cell hb_ 6).trans rfl : _ = some (.bool t286))
                have hz3000009_7_0 := ((blk_cell hb_ 7).trans rfl : _ = some (.slice A1_7 l1_7.length c1_7))
                clear hb_
                refine hG_.out ?_
                try simp only [c43b0]
                go_wp2_with (first | ((with_reducible refine gate_dst (N := 67) rfl ?_); refine wpList_plain rfl (fun K_ hK_ => ?_); refine op_rowR (K := inn35) (n := 2) (S := S) 35 (⟨t280, t207⟩ : S35) [.int .i64 t280, .slice Az3000010 t207.length cz3000010] (HF.out.keep HK.out) (SL.get2 HS.out) (fun _ _ h_ => ⟨_, rfl, h_⟩) (fun _ _ => ⟨rfl, by simp [Value.oneCell']⟩) y289 Ny289.out (by first | (go_simp; done) | (go_simp; rfl)) ?_; intro Az3000016 cz3000016 w48 hs_ hk_; refine hK_ _ _ ?_; clear hK_ K_; replace HS := Aside0.mk ((show SL (rows inn35 2 35 (.slice Az3000016 1 cz3000016) y289 :: _) _ _ from hs_)); replace HK := Aside0.mk (HK.out.trans hk_); (try clear hz3000009_0_0 hz3000009_1_0 hz3000009_2_0 hz3000009_3_0 hz3000009_4_0 hz3000009_5_0 hz3000009_6_0 hz3000009_7_0)) | ((with_reducible refine gate_dst (N := 68) rfl ?_); refine goesL_ (some 68) rfl rfl Try.func28 (by kernel_rfl) rfl #[.slice Az3000014 t278.length cz3000014, .int .i64 t279, .slice Az3000016 1 cz3000016] rfl (by (try simp only [List.map_toArray, List.map_cons, List.map_nil]); first | done | rfl | (simp; done)) ?_; have el3000016_ := Aside0.mk (rows_c (d := k35) reads_inn35 sz35 HS.out).1; refine calls_of_args (args' := #[.slice Az3000014 t278.length cz3000014, .int .i64 t279, .slice Az3000016 y289.length cz3000016]) (by rw [← el3000016_.out]) ?_; have hs0_ := (SL.back1 (rows_len (SL.get1 (SL.get1 HS.out)))); (with_reducible refine (slices_Insert.slcalls _ _ _ _ _ _ _ _ _ _ _ (HF.out.keep HK.out) hs0_  Hc47.out).mono ?_); rintro e_ w49 ⟨Az3000017, cz3000017, rfl, hsr_, hkr_⟩; refine ⟨_, rfl, ?_⟩; replace HS := Aside0.mk (hsr_); replace HK := Aside0.mk (HK.out.trans hkr_)))
                go_ret2
                replace HS := Aside0.mk (SL.tail (SL.get1 HS.out))
                unfold cool_Use.Post
                exact ⟨Az3000017, cz3000017, by first | rfl | (simp; done) | (simp [*]; done) | (simp at c43b0 ⊢; first | exact c43b0 | (simp [c43b0]; done)), HS.out, HK.out⟩
  · replace c6 := Bool.eq_false_iff.mpr c6
    subst c6
    rw [if_neg (show ¬ (false = true) by decide)] at H
    replace H := Option.bind_eq_some_iff.1 H
    obtain ⟨t291, Hc500, H⟩ := H
    try dsimp only at H
    have Hc50 := Aside0.mk Hc500
    clear Hc500
    simp only [Option.some.injEq, Prod.mk.injEq] at H
    obtain ⟨rfl, rfl⟩ := H
    refine hG_.out ?_
    go_wp2_with (first | ((with_reducible refine gate_dst (N := 37) rfl ?_); refine goesL_ (some 37) rfl rfl Try.func24 (by kernel_rfl) rfl #[.slice A0 l0.length c0] rfl (by (try simp only [List.map_toArray, List.map_cons, List.map_nil]); first | done | rfl | (simp; done)) ?_; have hs0_ := HS.out; (with_reducible refine (cool_copied.slcalls _ _ _ _ _ _ _ (HF.out.keep HK.out) hs0_ (HR0.out.keep HK.out) HC0.out Hc50.out).mono ?_); rintro e_ w51 ⟨Az3000011, cz3000011, rfl, hsr_, hkr_⟩; refine ⟨_, rfl, ?_⟩; replace HS := Aside0.mk (hsr_); replace HK := Aside0.mk (HK.out.trans hkr_)))
    go_ret2
    replace HS := Aside0.mk (SL.tail (SL.get1 (SL.tail (SL.get1 HS.out))))
    unfold cool_Use.Post
    exact ⟨Az3000011, cz3000011, by first | rfl | (simp; done) | (simp [*]; done), HS.out, HK.out⟩

end Go.Proofs.Ytbhgohomgfjjfaa.XCO
