-- Written by xprint.py (a program of this session) for this claim
import Derived.Test.YtiadhonhjnbliaaXZNx0
import Derived.Test.YtiadhonhjnbliaaXZNx9
import Derived.Test.YtiadhonhjnbliaaXZNx10
import Derived.Test.YtiadhonhjnbliaaXZNx19
import Derived.Test.YtiadhonhjnbliaaXZNx20
import Derived.Test.YtiadhonhjnbliaaXZNx26
namespace Go.Proofs.Ytiadhonhjnbliaa.XZN
open Go.Proofs.YtiadhonhjnbliaaV Go.Proofs.YtiadhonhjnbliaaS
open Go.RowKit Go.Proofs.YtiadhonhjnbliaaW.PrintWords Go.Proofs.YtiadhonhjnbliaaW.PrintLast Go.Proofs.YtiadhonhjnbliaaW.PrintMore
attribute [local go_sem] max2_int min2_int max_two min_two max_three min_three max_four min_four   -- for this text's walks alone
set_option linter.unusedVariables false
set_option linter.unusedSimpArgs false

/-! ### barrowlaw33_ZoneTicks: function 3 -/
mutual
def barrowlaw33_ZoneTicks.l0 : Nat → (List (S37)) → Int → (List (S37)) → Bool → (List (S37)) → (List (S37)) → Bool → Option (Bool)
  | 0, _, _, _, _, _, _, _ => none
  | k + 1, l0, x14_0, y3000056_0, t496, y498, t501, t506 => if x14_0 < (t501.length : Int) then (if 0 ≤ x14_0 then ((some (y3000056_0.set (x14_0).toNat (⟨(-7), (⟨(rd_T37 y3000056_0 x14_0).f1.f0, (⟨(rd_T37 y3000056_0 x14_0).f1.f1.f0, (rd_T37 y3000056_0 x14_0).f1.f1.f1⟩ : S31), (⟨(rd_T37 y3000056_0 x14_0).f1.f2.f0, (rd_T37 y3000056_0 x14_0).f1.f2.f1⟩ : S31), (rd_T37 y3000056_0 x14_0).f1.f3, (rd_T37 y3000056_0 x14_0).f1.f4⟩ : S33), (rd_T37 y3000056_0 x14_0).f2, (rd_T37 y3000056_0 x14_0).f3, (rd_T37 y3000056_0 x14_0).f4, (⟨(rd_T37 y3000056_0 x14_0).f5.f0, (rd_T37 y3000056_0 x14_0).f5.f1, (rd_T37 y3000056_0 x14_0).f5.f2⟩ : S35), (rd_T37 y3000056_0 x14_0).f6, (rd_T37 y3000056_0 x14_0).f7⟩ : S37) : List (S37))).bind fun y508 => (barrowlaw33_ZoneTicks.l0 k l0 (wrap64 (x14_0 + 1)) y508 t496 y498 t501 t506)) else (none)) else (if t496 = true then (if t506 = true then ((barrowref33_Same.f k y498 l0).bind fun t509 => (some t509)) else (none)) else (none))
def barrowlaw33_ZoneTicks.l100 : Nat → Bool → (List (S37)) → (List (S37)) → Int → Option (Bool)
  | 0, _, _, _, _ => none
  | k + 1, t496, t501, y3000056_100, x14_100 => if x14_100 < (t501.length : Int) then (if 0 ≤ x14_100 then ((some (y3000056_100.set (x14_100).toNat (⟨(-7), (⟨(rd_T37 y3000056_100 x14_100).f1.f0, (⟨(rd_T37 y3000056_100 x14_100).f1.f1.f0, (rd_T37 y3000056_100 x14_100).f1.f1.f1⟩ : S31), (⟨(rd_T37 y3000056_100 x14_100).f1.f2.f0, (rd_T37 y3000056_100 x14_100).f1.f2.f1⟩ : S31), (rd_T37 y3000056_100 x14_100).f1.f3, (rd_T37 y3000056_100 x14_100).f1.f4⟩ : S33), (rd_T37 y3000056_100 x14_100).f2, (rd_T37 y3000056_100 x14_100).f3, (rd_T37 y3000056_100 x14_100).f4, (⟨(rd_T37 y3000056_100 x14_100).f5.f0, (rd_T37 y3000056_100 x14_100).f5.f1, (rd_T37 y3000056_100 x14_100).f5.f2⟩ : S35), (rd_T37 y3000056_100 x14_100).f6, (rd_T37 y3000056_100 x14_100).f7⟩ : S37) : List (S37))).bind fun y511 => (barrowlaw33_ZoneTicks.l100 k t496 t501 y511 (wrap64 (x14_100 + 1)))) else (none)) else (if t496 = true then (none) else (none))
end
def barrowlaw33_ZoneTicks.f (k : Nat) (l0 : List (S37)) (l1 : List (S44)) (a2 : Int) : Option (Bool) := (barrowlaw33_small.f k).bind fun t496 => (if (l0.length : Int) > 60 then (some t496) else (if (l1.length : Int) > 60 then (some t496) else ((some (([] : List (S37)) : List (S37))).bind fun y497 => (if y497.length + l0.length < 1099511627776 then ((some (y497 ++ l0 : List (S37))).bind fun y498 => ((zone_Tick.f k y498 l1 a2).bind fun bt501 => ((barrowref33_Tick.f k l0 l1 a2).bind fun bt503 => ((barrowref33_Same.f k bt501.1 bt503.1).bind fun t505 => (if t505 = true then ((barrowref33_SameHits.f k bt501.2 bt503.2).bind fun t506 => (barrowlaw33_ZoneTicks.l0 k l0 0 bt501.1 t496 y498 bt501.1 t506)) else (barrowlaw33_ZoneTicks.l100 k t496 bt501.1 bt501.1 0)))))) else (none)))))
theorem barrowlaw33_ZoneTicks.mono_l : ∀ k, (∀ y0 y1 y2 y3 y4 y5 y6, LeO (barrowlaw33_ZoneTicks.l0 k y0 y1 y2 y3 y4 y5 y6) (barrowlaw33_ZoneTicks.l0 (k + 1) y0 y1 y2 y3 y4 y5 y6)) ∧ (∀ y0 y1 y2 y3, LeO (barrowlaw33_ZoneTicks.l100 k y0 y1 y2 y3) (barrowlaw33_ZoneTicks.l100 (k + 1) y0 y1 y2 y3))
  | 0 => ⟨fun _ _ _ _ _ _ _ r h => by simp [barrowlaw33_ZoneTicks.l0] at h, fun _ _ _ _ r h => by simp [barrowlaw33_ZoneTicks.l100] at h⟩
  | k + 1 => by
    obtain ⟨ih0, ih1⟩ := barrowlaw33_ZoneTicks.mono_l k
    refine ⟨?_, ?_⟩
    · intro y0 y1 y2 y3 y4 y5 y6
      unfold barrowlaw33_ZoneTicks.l0
      repeat' first
      | (with_reducible exact ih0 _ _ _ _ _ _ _)
      | (with_reducible exact ih1 _ _ _ _)
      | (with_reducible exact barrowlaw33_small.mono _)
      | (with_reducible exact barrowref33_Same.mono _ _ _)
      | (with_reducible exact barrowref33_SameHits.mono _ _ _)
      | (with_reducible exact barrowref33_Tick.mono _ _ _ _)
      | (with_reducible exact zone_Tick.mono _ _ _ _)
      | (with_reducible exact LeO.refl _)
      | (with_reducible exact LeO.none _)
      | (with_reducible refine LeO.ite ?_ ?_)
      | (with_reducible refine LeO.bind ?_ (fun _ => ?_))
      | exact ih0 _ _ _ _ _ _ _
      | exact ih1 _ _ _ _
      | exact barrowlaw33_small.mono _
      | exact barrowref33_Same.mono _ _ _
      | exact barrowref33_SameHits.mono _ _ _
      | exact barrowref33_Tick.mono _ _ _ _
      | exact zone_Tick.mono _ _ _ _
      | exact LeO.none _
      | refine LeO.ite ?_ ?_
      | refine LeO.bind ?_ (fun _ => ?_)
    · intro y0 y1 y2 y3
      unfold barrowlaw33_ZoneTicks.l100
      repeat' first
      | (with_reducible exact ih0 _ _ _ _ _ _ _)
      | (with_reducible exact ih1 _ _ _ _)
      | (with_reducible exact barrowlaw33_small.mono _)
      | (with_reducible exact barrowref33_Same.mono _ _ _)
      | (with_reducible exact barrowref33_SameHits.mono _ _ _)
      | (with_reducible exact barrowref33_Tick.mono _ _ _ _)
      | (with_reducible exact zone_Tick.mono _ _ _ _)
      | (with_reducible exact LeO.refl _)
      | (with_reducible exact LeO.none _)
      | (with_reducible refine LeO.ite ?_ ?_)
      | (with_reducible refine LeO.bind ?_ (fun _ => ?_))
      | exact ih0 _ _ _ _ _ _ _
      | exact ih1 _ _ _ _
      | exact barrowlaw33_small.mono _
      | exact barrowref33_Same.mono _ _ _
      | exact barrowref33_SameHits.mono _ _ _
      | exact barrowref33_Tick.mono _ _ _ _
      | exact zone_Tick.mono _ _ _ _
      | exact LeO.none _
      | refine LeO.ite ?_ ?_
      | refine LeO.bind ?_ (fun _ => ?_)
theorem barrowlaw33_ZoneTicks.mono : ∀ a0 a1 a2 k, LeO (barrowlaw33_ZoneTicks.f k a0 a1 a2) (barrowlaw33_ZoneTicks.f (k + 1) a0 a1 a2) := by
  intro a0 a1 a2 k
  obtain ⟨ih0, ih1⟩ := barrowlaw33_ZoneTicks.mono_l k
  unfold barrowlaw33_ZoneTicks.f
  repeat' first
      | (with_reducible exact ih0 _ _ _ _ _ _ _)
      | (with_reducible exact ih1 _ _ _ _)
      | (with_reducible exact barrowlaw33_small.mono _)
      | (with_reducible exact barrowref33_Same.mono _ _ _)
      | (with_reducible exact barrowref33_SameHits.mono _ _ _)
      | (with_reducible exact barrowref33_Tick.mono _ _ _ _)
      | (with_reducible exact zone_Tick.mono _ _ _ _)
      | (with_reducible exact LeO.refl _)
      | (with_reducible exact LeO.none _)
      | (with_reducible refine LeO.ite ?_ ?_)
      | (with_reducible refine LeO.bind ?_ (fun _ => ?_))
      | exact ih0 _ _ _ _ _ _ _
      | exact ih1 _ _ _ _
      | exact barrowlaw33_small.mono _
      | exact barrowref33_Same.mono _ _ _
      | exact barrowref33_SameHits.mono _ _ _
      | exact barrowref33_Tick.mono _ _ _ _
      | exact zone_Tick.mono _ _ _ _
      | exact LeO.none _
      | refine LeO.ite ?_ ?_
      | refine LeO.bind ?_ (fun _ => ?_)
def barrowlaw33_ZoneTicks.Post (r : Bool) (S : Nat → Prop) (L : List Asr) (w : World) (e : Ending) (w' : World) : Prop := e = .returned (.bool r) ∧ SL (L) w' S ∧ Keep S w w'
set_option maxHeartbeats 8000000 in
set_option maxRecDepth 100000 in
theorem barrowlaw33_ZoneTicks.slcalls (k : Nat) (A0 : Option Addr) (c0 : Nat) (l0 : List (S37)) (A1 : Option Addr) (c1 : Nat) (l1 : List (S44)) (a2 : Int) (r : Bool) (S : Nat → Prop) (L : List Asr) (w : World) (hf : Fresh S w) (hs : SL (L) w S) (hr0 : RO S w (fun w_ => Kd.C k37 w_ A0 l0.length l0)) (hc0 : l0.length ≤ c0) (hr1 : RO S w (fun w_ => Kd.C k44 w_ A1 l1.length l1)) (hc1 : l1.length ≤ c1) (h : barrowlaw33_ZoneTicks.f k l0 l1 a2 = some r) :
    Calls Try.prog 3 #[.slice A0 l0.length c0, .slice A1 l1.length c1, .int .i64 a2] w (barrowlaw33_ZoneTicks.Post r S L w) := by
  have HR0 := Aside0.mk hr0
  have HC0 := Aside0.mk hc0
  clear hr0 hc0
  have HR1 := Aside0.mk hr1
  have HC1 := Aside0.mk hc1
  clear hr1 hc1
  have HF := Aside0.mk hf
  have HS := Aside0.mk hs
  have HK := Aside0.mk (Keep.refl S w)
  clear hf hs
  have H : ((barrowlaw33_small.f k).bind fun t496 => (if (l0.length : Int) > 60 then (some t496) else (if (l1.length : Int) > 60 then (some t496) else ((some (([] : List (S37)) : List (S37))).bind fun y497 => (if y497.length + l0.length < 1099511627776 then ((some (y497 ++ l0 : List (S37))).bind fun y498 => ((zone_Tick.f k y498 l1 a2).bind fun bt501 => ((barrowref33_Tick.f k l0 l1 a2).bind fun bt503 => ((barrowref33_Same.f k bt501.1 bt503.1).bind fun t505 => (if t505 = true then ((barrowref33_SameHits.f k bt501.2 bt503.2).bind fun t506 => (barrowlaw33_ZoneTicks.l0 k l0 0 bt501.1 t496 y498 bt501.1 t506)) else (barrowlaw33_ZoneTicks.l100 k t496 bt501.1 bt501.1 0)))))) else (none)))))) = some r := h
  clear h
  replace H := Option.bind_eq_some_iff.1 H
  obtain ⟨t496, Hc10, H⟩ := H
  try dsimp only at H
  have Hc1 := Aside0.mk Hc10
  clear Hc10
  by_cases c2 : (l0.length : Int) > 60
  · rw [if_pos c2] at H
    have c2b0 : decide (60 < (l0.length : Int)) = true := decide_eq_true c2
    have c2b1 : decide (60 < l0.length) = true := decide_eq_true (by omega)
    clear c2
    obtain rfl := Option.some.inj H
    go_enter Try.func3, Try.ntmps3
    go_wp2_with (first | ((with_reducible refine gate_dst (N := 15) rfl ?_); refine goesL_ (some 15) rfl rfl Try.func7 (by kernel_rfl) rfl #[] rfl (by (try simp only [List.map_toArray, List.map_cons, List.map_nil]); first | done | rfl | (simp; done)) ?_; (with_reducible refine (barrowlaw33_small.calls k _ _  Hc1.out).mono ?_); rintro e_ w3 ⟨rfl, hb_⟩; refine ⟨_, rfl, ?_⟩; replace HS := Aside0.mk (HS.out.below hb_); replace HK := Aside0.mk (HK.out.trans (Keep.below hb_))))
    go_ret
    unfold barrowlaw33_ZoneTicks.Post
    exact ⟨by first | rfl | (simp; done) | (simp [*]; done), HS.out, HK.out⟩
  · rw [if_neg c2] at H
    have c2b0 : decide (60 < (l0.length : Int)) = false := decide_eq_false c2
    have c2b1 : decide (60 < l0.length) = false := decide_eq_false (by omega)
    clear c2
    by_cases c4 : (l1.length : Int) > 60
    · rw [if_pos c4] at H
      have c4b0 : decide (60 < (l1.length : Int)) = true := decide_eq_true c4
      have c4b1 : decide (60 < l1.length) = true := decide_eq_true (by omega)
      clear c4
      obtain rfl := Option.some.inj H
      go_enter Try.func3, Try.ntmps3
      go_wp2_with (first | ((with_reducible refine gate_dst (N := 15) rfl ?_); refine goesL_ (some 15) rfl rfl Try.func7 (by kernel_rfl) rfl #[] rfl (by (try simp only [List.map_toArray, List.map_cons, List.map_nil]); first | done | rfl | (simp; done)) ?_; (with_reducible refine (barrowlaw33_small.calls k _ _  Hc1.out).mono ?_); rintro e_ w5 ⟨rfl, hb_⟩; refine ⟨_, rfl, ?_⟩; replace HS := Aside0.mk (HS.out.below hb_); replace HK := Aside0.mk (HK.out.trans (Keep.below hb_))))
      go_ret
      unfold barrowlaw33_ZoneTicks.Post
      exact ⟨by first | rfl | (simp; done) | (simp [*]; done), HS.out, HK.out⟩
    · rw [if_neg c4] at H
      have c4b0 : decide (60 < (l1.length : Int)) = false := decide_eq_false c4
      have c4b1 : decide (60 < l1.length) = false := decide_eq_false (by omega)
      clear c4
      replace H := Option.bind_eq_some_iff.1 H
      obtain ⟨y497, hy4970, H⟩ := H
      try dsimp only at H
      have hy497 := Option.some.inj hy4970
      clear hy4970
      have Ny497 := Aside0.mk hy497
      clear hy497
      by_cases c6 : y497.length + l0.length < 1099511627776
      · rw [if_pos c6] at H
        have LMc6 := Aside0.mk c6
        clear c6
        replace H := Option.bind_eq_some_iff.1 H
        obtain ⟨y498, hy4980, H⟩ := H
        try dsimp only at H
        have hy498 := Option.some.inj hy4980
        clear hy4980
        have Ny498 := Aside0.mk hy498
        clear hy498
        replace H := Option.bind_eq_some_iff.1 H
        obtain ⟨⟨t501, t502⟩, Hc70, H⟩ := H
        try dsimp only at H
        have Hc7 := Aside0.mk Hc70
        clear Hc70
        replace H := Option.bind_eq_some_iff.1 H
        obtain ⟨⟨t503, t504⟩, Hc80, H⟩ := H
        try dsimp only at H
        have Hc8 := Aside0.mk Hc80
        clear Hc80
        replace H := Option.bind_eq_some_iff.1 H
        obtain ⟨t505, Hc90, H⟩ := H
        try dsimp only at H
        have Hc9 := Aside0.mk Hc90
        clear Hc90
        have H' := Aside0.mk H
        clear H
        go_enter Try.func3, Try.ntmps3
        go_wp2_with (first | ((with_reducible refine gate_dst (N := 15) rfl ?_); refine goesL_ (some 15) rfl rfl Try.func7 (by kernel_rfl) rfl #[] rfl (by (try simp only [List.map_toArray, List.map_cons, List.map_nil]); first | done | rfl | (simp; done)) ?_; (with_reducible refine (barrowlaw33_small.calls k _ _  Hc1.out).mono ?_); rintro e_ w10 ⟨rfl, hb_⟩; refine ⟨_, rfl, ?_⟩; replace HS := Aside0.mk (HS.out.below hb_); replace HK := Aside0.mk (HK.out.trans (Keep.below hb_))) | ((with_reducible refine gate_dst (N := 25) rfl ?_); refine wpList_plain rfl (fun K_ hK_ => ?_); refine op_rowF (S := S) (d := k37) ⟨fun h_ => h_⟩ 37 y497 #[] 0 (by rw [← Ny497.out]; exact Reps.none _ _) (by rw [← Ny497.out]; rfl) (by decide) (HF.out.keep HK.out) HS.out (by first | (go_simp; done) | (go_simp; rfl)) ?_; intro Az3000055 cz3000055 w11 hs_ hk_; refine hK_ _ _ ?_; clear hK_ K_; replace HS := Aside0.mk ((show SL (row k37 37 (.slice Az3000055 0 cz3000055) y497 :: _) _ _ from hs_)); replace HK := Aside0.mk (HK.out.trans hk_)) | ((with_reducible refine gate_dst (N := 27) rfl ?_); refine wpList_plain rfl (fun K_ hK_ => ?_); refine op_appendF (S := S) (d := k37) ⟨fun h_ => h_⟩ (.tmp 25) (.tmp 26) 22 37 (.agg #[(.int .i64 0), (.int .i64 0), (.int .i64 0), (.int .i64 0), (.int .i64 0), (.int .i64 0), (.int .i64 0), (.int .i64 0), (.int .i64 0), (.int .i64 0), (.int .i64 0), (.int .i64 0), (.int .i64 0), (.int .i64 0), (.int .i64 0), (.int .i64 0)]) 128 rfl Try.underlying22 info37 rfl (by decide) (by decide) (.slice Az3000055 0 cz3000055) rfl rfl (HF.out.keep HK.out) HS.out (RO.at_ HR0.out HK.out) (by have := LMc6.out; omega) y498 Ny498.out ?_; intro A499 c500 w12 hs_ hk_; refine hK_ _ _ ?_; clear hK_ K_; replace HS := Aside0.mk ((show SL (row k37 37 (.slice A499 y498.length c500) y498 :: _) _ _ from hs_)); replace HK := Aside0.mk (HK.out.trans hk_)) | ((with_reducible refine gate_dst (N := 32) rfl ?_); refine goesL_ (some 32) rfl rfl Try.func8 (by kernel_rfl) rfl #[.slice A499 y498.length c500, .slice A1 l1.length c1, .int .i64 a2] rfl (by (try simp only [List.map_toArray, List.map_cons, List.map_nil]); first | done | rfl | (simp; done)) ?_; have hs0_ := HS.out; obtain ⟨U1_, hfU1_, hsub1_, hs1_, hro1_, hback1_⟩ := SL.lend (HF.out.keep HK.out) hs0_ (p := fun w_ => Kd.C k37 w_ A499 y498.length y498) (fun w_ T_ h_ => (Qs_c h_).2.2); (with_reducible refine (zone_Tick.slcalls k _ _ _ _ _ _ _ _ _ _ _ _ hfU1_ hs1_ hro1_ (SL.row_c HS.out).2.1 (RO.sub (HR1.out.keep HK.out) (fun k_ h_ => hsub1_ k_ h_)) HC1.out Hc7.out).mono ?_); rintro e_ w13 ⟨Az3000056, cz3000056, Az3000057, cz3000057, rfl, hsr_, hkr_⟩; refine ⟨_, rfl, ?_⟩; replace HS := Aside0.mk ((hback1_ _ _ hkr_ hsr_)); replace HK := Aside0.mk (HK.out.trans (Keep.sub hkr_ (fun k_ h_ => hsub1_ k_ h_)))) | ((with_reducible refine gate_dst (N := 39) rfl ?_); refine goesL_ (some 39) rfl rfl Try.func9 (by kernel_rfl) rfl #[.slice A0 l0.length c0, .slice A1 l1.length c1, .int .i64 a2] rfl (by (try simp only [List.map_toArray, List.map_cons, List.map_nil]); first | done | rfl | (simp; done)) ?_; have hs0_ := HS.out; (with_reducible refine (barrowref33_Tick.slcalls k _ _ _ _ _ _ _ _ _ _ _ _ (HF.out.keep HK.out) hs0_ (HR0.out.keep HK.out) HC0.out (HR1.out.keep HK.out) HC1.out Hc8.out).mono ?_); rintro e_ w14 ⟨Az3000058, cz3000058, Az3000059, cz3000059, rfl, hsr_, hkr_⟩; refine ⟨_, rfl, ?_⟩; replace HS := Aside0.mk (hsr_); replace HK := Aside0.mk (HK.out.trans hkr_)) | ((with_reducible refine gate_dst (N := 44) rfl ?_); refine goesL_ (some 44) rfl rfl Try.func10 (by kernel_rfl) rfl #[.slice Az3000056 t501.length cz3000056, .slice Az3000058 t503.length cz3000058] rfl (by (try simp only [List.map_toArray, List.map_cons, List.map_nil]); first | done | rfl | (simp; done)) ?_; (with_reducible refine (barrowref33_Same.calls k _ _ _ _ _ _ _ _ (SL.row_c (SL.get3 HS.out)).2.2 (SL.row_c (SL.get3 HS.out)).2.1 (SL.row_c HS.out).2.2 (SL.row_c HS.out).2.1 Hc9.out).mono ?_); rintro e_ w15 ⟨rfl, hb_⟩; refine ⟨_, rfl, ?_⟩; replace hb_ := Drawn0.below hb_; replace HS := Aside0.mk (HS.out.below hb_); replace HK := Aside0.mk (HK.out.trans (Keep.below hb_)); refine stop_ ?_; intro G_ hG_))
        have H := H'.out
        clear H'
        by_cases c16 : t505 = true
        · subst c16
          rw [if_pos rfl] at H
          replace H := Option.bind_eq_some_iff.1 H
          obtain ⟨t506, Hc170, H⟩ := H
          try dsimp only at H
          have Hc17 := Aside0.mk Hc170
          clear Hc170
          have H' := Aside0.mk H
          clear H
          refine hG_.out ?_
          go_wp2_with (first | ((with_reducible refine gate_dst (N := 48) rfl ?_); (try (refine gate_guard (by rfl) ?_; dsimp only)); refine goesL_ (some 48) rfl rfl Try.func11 (by kernel_rfl) rfl #[.slice Az3000057 t502.length cz3000057, .slice Az3000059 t504.length cz3000059] rfl (by (try simp only [List.map_toArray, List.map_cons, List.map_nil]); first | done | rfl | (simp; done)) ?_; (with_reducible refine (barrowref33_SameHits.calls k _ _ _ _ _ _ _ _ (SL.row_c (SL.get4 HS.out)).2.2 (SL.row_c (SL.get4 HS.out)).2.1 (SL.row_c (SL.get1 HS.out)).2.2 (SL.row_c (SL.get1 HS.out)).2.1 Hc17.out).mono ?_); rintro e_ w18 ⟨rfl, hb_⟩; refine ⟨_, rfl, ?_⟩; replace hb_ := Drawn0.below hb_; replace HS := Aside0.mk (HS.out.below hb_); replace HK := Aside0.mk (HK.out.trans (Keep.below hb_))))
          go_loopg [14] k (fun kq v14 w' => ∃ (y3000056_0 : List (S37)) (x14_0 : Int), v14 = .int .i64 x14_0 ∧ Aside0 (barrowlaw33_ZoneTicks.l0 kq l0 x14_0 y3000056_0 t496 y498 t501 t506 = some r) ∧ Aside0 (kq ≤ k) ∧ Aside0 (SL (row k37 37 (.slice Az3000058 t503.length cz3000058) t503 :: row k56 56 (.slice Az3000059 t504.length cz3000059) t504 :: row k37 37 (.slice A499 y498.length c500) y498 :: row k37 37 (.slice Az3000056 t501.length cz3000056) y3000056_0 :: row k56 56 (.slice Az3000057 t502.length cz3000057) t502 :: L) w' S) ∧ Aside0 (Keep S w w'))
          case atStart => exact ⟨(t501), (0), (by first | rfl | (simp; done) | (simp [*]; done)), H', ⟨Nat.le_refl _⟩, HS, HK⟩
          case round =>
            clear H' HS HK
            obtain ⟨y3000056_0, x14_0, rfl, HA, HQ1, HS, HK⟩ := hrel
            cases gk with
            | zero => exact absurd HA.out (by simp [barrowlaw33_ZoneTicks.l0])
            | succ k1 =>
              have H := HA.out
              clear HA
              simp only [barrowlaw33_ZoneTicks.l0] at H
              by_cases c19 : x14_0 < (t501.length : Int)
              · rw [if_pos c19] at H
                have c19b0 : decide (x14_0 < (t501.length : Int)) = true := decide_eq_true c19
                clear c19
                by_cases c20 : 0 ≤ x14_0
                · rw [if_pos c20] at H
                  have c20b0 : decide (0 ≤ x14_0) = true := decide_eq_true c20
                  clear c20
                  replace H := Option.bind_eq_some_iff.1 H
                  obtain ⟨y508, hy5080, H⟩ := H
                  try dsimp only at H
                  have hy508 := Option.some.inj hy5080
                  clear hy5080
                  have Ny508 := Aside0.mk hy508
                  clear hy508
                  have H' := Aside0.mk H
                  clear H
                  have pq507 : 0 ≤ (x14_0 : Int) := of_decide_eq_true (by first | (with_reducible assumption) | assumption)
                  have qq507 : x14_0 < ((t501.length : Int) : Int) := of_decide_eq_true (by first | (with_reducible assumption) | assumption)
                  obtain ⟨adq507, eq507, hxq507_0, hxq507_1, hxq507_2, hxq507_3, hxq507_4, hxq507_5, hxq507_6, hxq507_7, hxq507_8, hxq507_9, hxq507_10, hxq507_11, hxq507_12, hxq507_13, hxq507_14, hxq507_15⟩ := at_T37 (SL.row_c (SL.get3 HS.out)).2.2 x14_0 pq507 qq507
                  cases eq507
                  replace pq507 := eq_true pq507
                  replace qq507 := eq_true qq507
                  go_wp2_with (first | ((with_reducible refine gate_store (t := 3) (p := 59) (v := (.const (.int .i64 (-7)))) rfl ?_); refine wpList_plain rfl (fun K_ hK_ => ?_); refine op_setF (S := S) (d := k37) ⟨fun h_ => h_⟩ 3 (.tmp 59) (.const (.int .i64 (-7))) rfl adq507 (x14_0) z37 0 [.int .i64 (-7)] (.int .i64 (-7)) (SL.get3 HS.out) _ (by intro g_ o_ h_; subst h_; first | rfl | (simp [Go.Addr.add]; done) | (simp [Go.Addr.add]; rfl) | (simp [Go.Addr.add]; constructor <;> split <;> simp_all [show k37.sz = 16 from rfl]) | (simp [Go.Addr.add]; split <;> simp_all [show k37.sz = 16 from rfl])) rfl (by rfl) rfl (by kernel_rfl) (by simp [Value.oneCell']) (of_decide_eq_true (by first | (with_reducible assumption) | assumption)) (of_decide_eq_true (by first | (with_reducible assumption) | assumption)) (Nat.le_of_ble_eq_true rfl) (⟨(-7), (⟨(rd_T37 y3000056_0 x14_0).f1.f0, (⟨(rd_T37 y3000056_0 x14_0).f1.f1.f0, (rd_T37 y3000056_0 x14_0).f1.f1.f1⟩ : S31), (⟨(rd_T37 y3000056_0 x14_0).f1.f2.f0, (rd_T37 y3000056_0 x14_0).f1.f2.f1⟩ : S31), (rd_T37 y3000056_0 x14_0).f1.f3, (rd_T37 y3000056_0 x14_0).f1.f4⟩ : S33), (rd_T37 y3000056_0 x14_0).f2, (rd_T37 y3000056_0 x14_0).f3, (rd_T37 y3000056_0 x14_0).f4, (⟨(rd_T37 y3000056_0 x14_0).f5.f0, (rd_T37 y3000056_0 x14_0).f5.f1, (rd_T37 y3000056_0 x14_0).f5.f2⟩ : S35), (rd_T37 y3000056_0 x14_0).f6, (rd_T37 y3000056_0 x14_0).f7⟩ : S37) (fun c_ h_ => by obtain rfl := k37_open h_; exact k37_mk _ _) y508 Ny508.out ?_; intro w21 hs_ hk_; refine hK_ _ _ ?_; clear hK_ K_; replace HS := Aside0.mk ((SL.back3 (show SL (row k37 37 (.slice (some adq507) t501.length cz3000056) y508 :: _) _ _ from hs_))); replace HK := Aside0.mk (HK.out.trans hk_)))
                  go_roundg k1
                  case measure => have := HQ1.out; omega
                  case rel => exact ⟨(y508), (wrap64 (x14_0 + 1)), (by first | rfl | (simp; done) | (simp [*]; done)), H', ⟨by have := HQ1.out; omega⟩, HS, HK⟩
                · rw [if_neg c20] at H
                  exact absurd H (by simp)
              · rw [if_neg c19] at H
                have c19b0 : decide (x14_0 < (t501.length : Int)) = false := decide_eq_false c19
                clear c19
                by_cases c22 : t496 = true
                · subst c22
                  rw [if_pos rfl] at H
                  by_cases c23 : t506 = true
                  · subst c23
                    rw [if_pos rfl] at H
                    replace H := Option.bind_eq_some_iff.1 H
                    obtain ⟨t509, Hc240, H⟩ := H
                    try dsimp only at H
                    have Hc24 := Aside0.mk Hc240
                    clear Hc240
                    obtain rfl := Option.some.inj H
                    go_wp2_with (first | ((with_reducible refine gate_dst (N := 67) rfl ?_); (try (refine gate_guard (by rfl) ?_; dsimp only)); refine goesL_ (some 67) rfl rfl Try.func10 (by kernel_rfl) rfl #[.slice A499 y498.length c500, .slice A0 l0.length c0] rfl (by (try simp only [List.map_toArray, List.map_cons, List.map_nil]); first | done | rfl | (simp; done)) ?_; (with_reducible refine (barrowref33_Same.calls k1 _ _ _ _ _ _ _ _ (SL.row_c (SL.get2 HS.out)).2.2 (SL.row_c (SL.get2 HS.out)).2.1 (RO.at_ HR0.out HK.out) HC0.out Hc24.out).mono ?_); rintro e_ w25 ⟨rfl, hb_⟩; refine ⟨_, rfl, ?_⟩; replace hb_ := Drawn0.below hb_; replace HS := Aside0.mk (HS.out.below hb_); replace HK := Aside0.mk (HK.out.trans (Keep.below hb_))))
                    go_ret
                    replace HS := Aside0.mk (SL.tail (SL.tail (SL.tail (SL.tail (SL.tail HS.out)))))
                    unfold barrowlaw33_ZoneTicks.Post
                    exact ⟨by first | rfl | (simp; done) | (simp [*]; done), HS.out, HK.out⟩
                  · replace c23 := Bool.eq_false_iff.mpr c23
                    subst c23
                    rw [if_neg (show ¬ (false = true) by decide)] at H
                    exact absurd H (by simp)
                · replace c22 := Bool.eq_false_iff.mpr c22
                  subst c22
                  rw [if_neg (show ¬ (false = true) by decide)] at H
                  exact absurd H (by simp)
        · replace c16 := Bool.eq_false_iff.mpr c16
          subst c16
          rw [if_neg (show ¬ (false = true) by decide)] at H
          have H' := Aside0.mk H
          clear H
          refine hG_.out ?_
          go_wp2
          go_loopg [14] k (fun kq v14 w' => ∃ (y3000056_100 : List (S37)) (x14_100 : Int), v14 = .int .i64 x14_100 ∧ Aside0 (barrowlaw33_ZoneTicks.l100 kq t496 t501 y3000056_100 x14_100 = some r) ∧ Aside0 (kq ≤ k) ∧ Aside0 (SL (row k37 37 (.slice Az3000058 t503.length cz3000058) t503 :: row k56 56 (.slice Az3000059 t504.length cz3000059) t504 :: row k37 37 (.slice A499 y498.length c500) y498 :: row k37 37 (.slice Az3000056 t501.length cz3000056) y3000056_100 :: row k56 56 (.slice Az3000057 t502.length cz3000057) t502 :: L) w' S) ∧ Aside0 (Keep S w w'))
          case atStart => exact ⟨(t501), (0), (by first | rfl | (simp; done) | (simp [*]; done)), H', ⟨Nat.le_refl _⟩, HS, HK⟩
          case round =>
            clear H' HS HK
            obtain ⟨y3000056_100, x14_100, rfl, HA, HQ1, HS, HK⟩ := hrel
            cases gk with
            | zero => exact absurd HA.out (by simp [barrowlaw33_ZoneTicks.l100])
            | succ k1 =>
              have H := HA.out
              clear HA
              simp only [barrowlaw33_ZoneTicks.l100] at H
              by_cases c26 : x14_100 < (t501.length : Int)
              · rw [if_pos c26] at H
                have c26b0 : decide (x14_100 < (t501.length : Int)) = true := decide_eq_true c26
                clear c26
                by_cases c27 : 0 ≤ x14_100
                · rw [if_pos c27] at H
                  have c27b0 : decide (0 ≤ x14_100) = true := decide_eq_true c27
                  clear c27
                  replace H := Option.bind_eq_some_iff.1 H
                  obtain ⟨y511, hy5110, H⟩ := H
                  try dsimp only at H
                  have hy511 := Option.some.inj hy5110
                  clear hy5110
                  have Ny511 := Aside0.mk hy511
                  clear hy511
                  have H' := Aside0.mk H
                  clear H
                  have pq510 : 0 ≤ (x14_100 : Int) := of_decide_eq_true (by first | (with_reducible assumption) | assumption)
                  have qq510 : x14_100 < ((t501.length : Int) : Int) := of_decide_eq_true (by first | (with_reducible assumption) | assumption)
                  obtain ⟨adq510, eq510, hxq510_0, hxq510_1, hxq510_2, hxq510_3, hxq510_4, hxq510_5, hxq510_6, hxq510_7, hxq510_8, hxq510_9, hxq510_10, hxq510_11, hxq510_12, hxq510_13, hxq510_14, hxq510_15⟩ := at_T37 (SL.row_c (SL.get3 HS.out)).2.2 x14_100 pq510 qq510
                  cases eq510
                  replace pq510 := eq_true pq510
                  replace qq510 := eq_true qq510
                  go_wp2_with (first | ((with_reducible refine gate_store (t := 3) (p := 59) (v := (.const (.int .i64 (-7)))) rfl ?_); refine wpList_plain rfl (fun K_ hK_ => ?_); refine op_setF (S := S) (d := k37) ⟨fun h_ => h_⟩ 3 (.tmp 59) (.const (.int .i64 (-7))) rfl adq510 (x14_100) z37 0 [.int .i64 (-7)] (.int .i64 (-7)) (SL.get3 HS.out) _ (by intro g_ o_ h_; subst h_; first | rfl | (simp [Go.Addr.add]; done) | (simp [Go.Addr.add]; rfl) | (simp [Go.Addr.add]; constructor <;> split <;> simp_all [show k37.sz = 16 from rfl]) | (simp [Go.Addr.add]; split <;> simp_all [show k37.sz = 16 from rfl])) rfl (by rfl) rfl (by kernel_rfl) (by simp [Value.oneCell']) (of_decide_eq_true (by first | (with_reducible assumption) | assumption)) (of_decide_eq_true (by first | (with_reducible assumption) | assumption)) (Nat.le_of_ble_eq_true rfl) (⟨(-7), (⟨(rd_T37 y3000056_100 x14_100).f1.f0, (⟨(rd_T37 y3000056_100 x14_100).f1.f1.f0, (rd_T37 y3000056_100 x14_100).f1.f1.f1⟩ : S31), (⟨(rd_T37 y3000056_100 x14_100).f1.f2.f0, (rd_T37 y3000056_100 x14_100).f1.f2.f1⟩ : S31), (rd_T37 y3000056_100 x14_100).f1.f3, (rd_T37 y3000056_100 x14_100).f1.f4⟩ : S33), (rd_T37 y3000056_100 x14_100).f2, (rd_T37 y3000056_100 x14_100).f3, (rd_T37 y3000056_100 x14_100).f4, (⟨(rd_T37 y3000056_100 x14_100).f5.f0, (rd_T37 y3000056_100 x14_100).f5.f1, (rd_T37 y3000056_100 x14_100).f5.f2⟩ : S35), (rd_T37 y3000056_100 x14_100).f6, (rd_T37 y3000056_100 x14_100).f7⟩ : S37) (fun c_ h_ => by obtain rfl := k37_open h_; exact k37_mk _ _) y511 Ny511.out ?_; intro w28 hs_ hk_; refine hK_ _ _ ?_; clear hK_ K_; replace HS := Aside0.mk ((SL.back3 (show SL (row k37 37 (.slice (some adq510) t501.length cz3000056) y511 :: _) _ _ from hs_))); replace HK := Aside0.mk (HK.out.trans hk_)))
                  go_roundg k1
                  case measure => have := HQ1.out; omega
                  case rel => exact ⟨(y511), (wrap64 (x14_100 + 1)), (by first | rfl | (simp; done) | (simp [*]; done)), H', ⟨by have := HQ1.out; omega⟩, HS, HK⟩
                · rw [if_neg c27] at H
                  exact absurd H (by simp)
              · rw [if_neg c26] at H
                have c26b0 : decide (x14_100 < (t501.length : Int)) = false := decide_eq_false c26
                clear c26
                by_cases c29 : t496 = true
                · subst c29
                  rw [if_pos rfl] at H
                  exact absurd H (by simp)
                · replace c29 := Bool.eq_false_iff.mpr c29
                  subst c29
                  rw [if_neg (show ¬ (false = true) by decide)] at H
                  exact absurd H (by simp)
      · rw [if_neg c6] at H
        exact absurd H (by simp)
theorem barrowlaw33_ZoneTicks.calls (k : Nat) (A0 : Option Addr) (c0 : Nat) (l0 : List (S37)) (A1 : Option Addr) (c1 : Nat) (l1 : List (S44)) (a2 : Int) (r : Bool) (w : World) (hr0 : Kd.C k37 w A0 l0.length l0) (hc0 : l0.length ≤ c0) (hr1 : Kd.C k44 w A1 l1.length l1) (hc1 : l1.length ≤ c1) (h : barrowlaw33_ZoneTicks.f k l0 l1 a2 = some r) :
    Calls Try.prog 3 #[.slice A0 l0.length c0, .slice A1 l1.length c1, .int .i64 a2] w fun e w' => e = .returned (.bool r) ∧ Below w.heap.size w w' :=
  (barrowlaw33_ZoneTicks.slcalls k A0 c0 l0 A1 c1 l1 a2 r (news w) [] w (fresh_news w) trivial (RO.top hr0) hc0 (RO.top hr1) hc1 h).mono fun _ _ h => ⟨h.1, h.2.2.to_below⟩

/-- THE ONE PURE STATEMENT of barrowlaw33_ZoneTicks. -/
def barrowlaw33_ZoneTicks.Pure : Prop := ∀ (l0 : List (S37)) (l1 : List (S44)) (a2 : Int), (l0.length ≤ maxLen ∧ l0.length * 128 ≤ 140737488351232 ∧ ∀ x512_ ∈ l0, ((Lit.int .i64 x512_.f0).wf = true) ∧ (((Lit.int .i64 x512_.f1.f0).wf = true) ∧ (((Lit.int .i64 x512_.f1.f1.f0).wf = true) ∧ ((Lit.int .i64 x512_.f1.f1.f1).wf = true)) ∧ (((Lit.int .i64 x512_.f1.f2.f0).wf = true) ∧ ((Lit.int .i64 x512_.f1.f2.f1).wf = true)) ∧ ((Lit.int .i64 x512_.f1.f3).wf = true) ∧ ((Lit.int .i64 x512_.f1.f4).wf = true)) ∧ ((Lit.int .i64 x512_.f2).wf = true) ∧ ((Lit.int .i64 x512_.f3).wf = true) ∧ ((Lit.int .i64 x512_.f4).wf = true) ∧ (((Lit.int .i64 x512_.f5.f0).wf = true) ∧ ((Lit.int .i64 x512_.f5.f1).wf = true) ∧ ((Lit.int .i64 x512_.f5.f2).wf = true)) ∧ ((Lit.int .i64 x512_.f6).wf = true) ∧ ((Lit.int .i64 x512_.f7).wf = true)) → (l1.length ≤ maxLen ∧ l1.length * 80 ≤ 140737488351232 ∧ ∀ x513_ ∈ l1, ((Lit.int .i64 x513_.f0).wf = true) ∧ ((Lit.int .i64 x513_.f1).wf = true) ∧ ((Lit.int .i64 x513_.f2).wf = true) ∧ ((Lit.int .i64 x513_.f3).wf = true) ∧ ((Lit.int .i64 x513_.f4).wf = true) ∧ ((Lit.int .i64 x513_.f5).wf = true) ∧ ((Lit.int .i64 x513_.f6).wf = true) ∧ (((Lit.int .i64 x513_.f7.f0).wf = true) ∧ ((Lit.int .i64 x513_.f7.f1).wf = true)) ∧ ((Lit.int .i64 x513_.f8).wf = true)) → ((Lit.int .i64 a2).wf = true) → ∃ k, barrowlaw33_ZoneTicks.f k l0 l1 a2 = some true

end Go.Proofs.Ytiadhonhjnbliaa.XZN
