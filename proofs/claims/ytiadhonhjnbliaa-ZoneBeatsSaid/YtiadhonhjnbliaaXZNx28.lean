-- Written by xprint.py (a program of this session) for this claim
import Derived.Test.YtiadhonhjnbliaaXZNx0
import Derived.Test.YtiadhonhjnbliaaXZNx9
import Derived.Test.YtiadhonhjnbliaaXZNx11
import Derived.Test.YtiadhonhjnbliaaXZNx12
import Derived.Test.YtiadhonhjnbliaaXZNx25
import Derived.Test.YtiadhonhjnbliaaXZNx26
namespace Go.Proofs.Ytiadhonhjnbliaa.XZN
open Go.Proofs.YtiadhonhjnbliaaV Go.Proofs.YtiadhonhjnbliaaS
open Go.RowKit Go.Proofs.YtiadhonhjnbliaaW.PrintWords Go.Proofs.YtiadhonhjnbliaaW.PrintLast Go.Proofs.YtiadhonhjnbliaaW.PrintMore
attribute [local go_sem] max2_int min2_int max_two min_two max_three min_three max_four min_four   -- for this text's walks alone
set_option linter.unusedVariables false
set_option linter.unusedSimpArgs false

/-! ### barrowlaw33_ZoneBeats: function 4 -/
def barrowlaw33_ZoneBeats.l0 : Nat → Int → Int → Int → Int → Bool → (List (S44)) → (List (S37)) → Int → Int → Option (Bool)
  | 0, _, _, _, _, _, _, _, _, _ => none
  | k + 1, a0, a1, a2, a3, t531, y551, x10_0, x13_0, x15_0 => if x15_0 ≤ (wrap64 (a2 + a1)) then ((zone_Tick.f k x10_0 y551 x15_0).bind fun bt552 => ((zone_Right.f k bt552.1).bind fun t554 => (if t554 = true then (if (((bt552.1.length : Int) == 1) != (decide (x15_0 < (wrap64 (a2 + a1))))) = true then (none) else (barrowlaw33_ZoneBeats.l0 k a0 a1 a2 a3 t531 y551 bt552.1 (wrap64 (x13_0 + (bt552.2.length : Int))) (wrap64 (x15_0 + 1)))) else (none)))) else (if a3 ≥ (-3) then (if a3 ≤ 3 then (if a0 = 0 then (none) else (if t531 = true then (if x13_0 = (wrap64 (Int.tdiv a1 a0)) then (some true) else (none)) else (none))) else (if t531 = true then (if x13_0 = 0 then (some true) else (none)) else (none))) else (if t531 = true then (if x13_0 = 0 then (some true) else (none)) else (none)))
def barrowlaw33_ZoneBeats.f (k : Nat) (a0 : Int) (a1 : Int) (a2 : Int) (a3 : Int) : Option (Bool) := (barrowlaw33_small.f k).bind fun t531 => (if a0 < 1 then (some t531) else (if a0 > 50 then (some t531) else (if a1 < 1 then (some t531) else (if a1 > 100 then (some t531) else (if a2 < 0 then (some t531) else (if a2 > 1048576 then (some t531) else ((barrowlaw33_circle.f 0 3 a0).bind fun bt532 => ((zone_Add.f k ([] : List (S37)) bt532.1 bt532.2.1 bt532.2.2.1 bt532.2.2.2.1 bt532.2.2.2.2.1 bt532.2.2.2.2.2.1 bt532.2.2.2.2.2.2.1 bt532.2.2.2.2.2.2.2.1 bt532.2.2.2.2.2.2.2.2.1 bt532.2.2.2.2.2.2.2.2.2.1 bt532.2.2.2.2.2.2.2.2.2.2.1 bt532.2.2.2.2.2.2.2.2.2.2.2.1 bt532.2.2.2.2.2.2.2.2.2.2.2.2.1 bt532.2.2.2.2.2.2.2.2.2.2.2.2.2.1 bt532.2.2.2.2.2.2.2.2.2.2.2.2.2.2.1 bt532.2.2.2.2.2.2.2.2.2.2.2.2.2.2.2 a2 a1).bind fun bt548 => (if bt548.2.2 = 0 then (if bt548.2.1 = 1 then ((some (([(⟨5, 1, 0, 1, 0, 0, 0, (⟨a3, 0⟩ : S31), 0⟩ : S44)] : List (S44)) : List (S44))).bind fun y551 => (barrowlaw33_ZoneBeats.l0 k a0 a1 a2 a3 t531 y551 bt548.1 0 a2)) else (none)) else (none))))))))))
theorem barrowlaw33_ZoneBeats.mono_l : ∀ k, (∀ y0 y1 y2 y3 y4 y5 y6 y7 y8, LeO (barrowlaw33_ZoneBeats.l0 k y0 y1 y2 y3 y4 y5 y6 y7 y8) (barrowlaw33_ZoneBeats.l0 (k + 1) y0 y1 y2 y3 y4 y5 y6 y7 y8))
  | 0 => fun _ _ _ _ _ _ _ _ _ r h => by simp [barrowlaw33_ZoneBeats.l0] at h
  | k + 1 => by
    have ih0 := barrowlaw33_ZoneBeats.mono_l k
    · intro y0 y1 y2 y3 y4 y5 y6 y7 y8
      unfold barrowlaw33_ZoneBeats.l0
      repeat' first
      | (with_reducible exact ih0 _ _ _ _ _ _ _ _ _)
      | (with_reducible exact barrowlaw33_small.mono _)
      | (with_reducible exact zone_Add.mono _ _ _ _ _ _ _ _ _ _ _ _ _ _ _ _ _ _ _ _)
      | (with_reducible exact zone_Right.mono _ _)
      | (with_reducible exact zone_Tick.mono _ _ _ _)
      | (with_reducible exact LeO.refl _)
      | (with_reducible exact LeO.none _)
      | (with_reducible refine LeO.ite ?_ ?_)
      | (with_reducible refine LeO.bind ?_ (fun _ => ?_))
      | exact ih0 _ _ _ _ _ _ _ _ _
      | exact barrowlaw33_small.mono _
      | exact zone_Add.mono _ _ _ _ _ _ _ _ _ _ _ _ _ _ _ _ _ _ _ _
      | exact zone_Right.mono _ _
      | exact zone_Tick.mono _ _ _ _
      | exact LeO.none _
      | refine LeO.ite ?_ ?_
      | refine LeO.bind ?_ (fun _ => ?_)
theorem barrowlaw33_ZoneBeats.mono : ∀ a0 a1 a2 a3 k, LeO (barrowlaw33_ZoneBeats.f k a0 a1 a2 a3) (barrowlaw33_ZoneBeats.f (k + 1) a0 a1 a2 a3) := by
  intro a0 a1 a2 a3 k
  have ih0 := barrowlaw33_ZoneBeats.mono_l k
  unfold barrowlaw33_ZoneBeats.f
  repeat' first
      | (with_reducible exact ih0 _ _ _ _ _ _ _ _ _)
      | (with_reducible exact barrowlaw33_small.mono _)
      | (with_reducible exact zone_Add.mono _ _ _ _ _ _ _ _ _ _ _ _ _ _ _ _ _ _ _ _)
      | (with_reducible exact zone_Right.mono _ _)
      | (with_reducible exact zone_Tick.mono _ _ _ _)
      | (with_reducible exact LeO.refl _)
      | (with_reducible exact LeO.none _)
      | (with_reducible refine LeO.ite ?_ ?_)
      | (with_reducible refine LeO.bind ?_ (fun _ => ?_))
      | exact ih0 _ _ _ _ _ _ _ _ _
      | exact barrowlaw33_small.mono _
      | exact zone_Add.mono _ _ _ _ _ _ _ _ _ _ _ _ _ _ _ _ _ _ _ _
      | exact zone_Right.mono _ _
      | exact zone_Tick.mono _ _ _ _
      | exact LeO.none _
      | refine LeO.ite ?_ ?_
      | refine LeO.bind ?_ (fun _ => ?_)
def barrowlaw33_ZoneBeats.Post (r : Bool) (S : Nat → Prop) (L : List Asr) (w : World) (e : Ending) (w' : World) : Prop := e = .returned (.bool r) ∧ SL (L) w' S ∧ Keep S w w'
set_option maxHeartbeats 8000000 in
set_option maxRecDepth 100000 in
theorem barrowlaw33_ZoneBeats.slcalls (k : Nat) (a0 : Int) (a1 : Int) (a2 : Int) (a3 : Int) (r : Bool) (S : Nat → Prop) (L : List Asr) (w : World) (hf : Fresh S w) (hs : SL (L) w S) (h : barrowlaw33_ZoneBeats.f k a0 a1 a2 a3 = some r) :
    Calls Try.prog 4 #[.int .i64 a0, .int .i64 a1, .int .i64 a2, .int .i64 a3] w (barrowlaw33_ZoneBeats.Post r S L w) := by
  have HF := Aside0.mk hf
  have HS := Aside0.mk hs
  have HK := Aside0.mk (Keep.refl S w)
  clear hf hs
  have hu31 := Try.underlying31
  have hu44 := Try.underlying44
  have H : ((barrowlaw33_small.f k).bind fun t531 => (if a0 < 1 then (some t531) else (if a0 > 50 then (some t531) else (if a1 < 1 then (some t531) else (if a1 > 100 then (some t531) else (if a2 < 0 then (some t531) else (if a2 > 1048576 then (some t531) else ((barrowlaw33_circle.f 0 3 a0).bind fun bt532 => ((zone_Add.f k ([] : List (S37)) bt532.1 bt532.2.1 bt532.2.2.1 bt532.2.2.2.1 bt532.2.2.2.2.1 bt532.2.2.2.2.2.1 bt532.2.2.2.2.2.2.1 bt532.2.2.2.2.2.2.2.1 bt532.2.2.2.2.2.2.2.2.1 bt532.2.2.2.2.2.2.2.2.2.1 bt532.2.2.2.2.2.2.2.2.2.2.1 bt532.2.2.2.2.2.2.2.2.2.2.2.1 bt532.2.2.2.2.2.2.2.2.2.2.2.2.1 bt532.2.2.2.2.2.2.2.2.2.2.2.2.2.1 bt532.2.2.2.2.2.2.2.2.2.2.2.2.2.2.1 bt532.2.2.2.2.2.2.2.2.2.2.2.2.2.2.2 a2 a1).bind fun bt548 => (if bt548.2.2 = 0 then (if bt548.2.1 = 1 then ((some (([(⟨5, 1, 0, 1, 0, 0, 0, (⟨a3, 0⟩ : S31), 0⟩ : S44)] : List (S44)) : List (S44))).bind fun y551 => (barrowlaw33_ZoneBeats.l0 k a0 a1 a2 a3 t531 y551 bt548.1 0 a2)) else (none)) else (none))))))))))) = some r := h
  clear h
  replace H := Option.bind_eq_some_iff.1 H
  obtain ⟨t531, Hc10, H⟩ := H
  try dsimp only at H
  have Hc1 := Aside0.mk Hc10
  clear Hc10
  by_cases c2 : a0 < 1
  · rw [if_pos c2] at H
    have c2b0 : decide (a0 < 1) = true := decide_eq_true c2
    clear c2
    obtain rfl := Option.some.inj H
    go_enter Try.func4, Try.ntmps4
    go_wp2_with (first | ((with_reducible refine gate_dst (N := 19) rfl ?_); refine goesL_ (some 19) rfl rfl Try.func7 (by kernel_rfl) rfl #[] rfl (by (try simp only [List.map_toArray, List.map_cons, List.map_nil]); first | done | rfl | (simp; done)) ?_; (with_reducible refine (barrowlaw33_small.calls k _ _  Hc1.out).mono ?_); rintro e_ w3 ⟨rfl, hb_⟩; refine ⟨_, rfl, ?_⟩; replace HS := Aside0.mk (HS.out.below hb_); replace HK := Aside0.mk (HK.out.trans (Keep.below hb_))))
    go_ret
    unfold barrowlaw33_ZoneBeats.Post
    exact ⟨by first | rfl | (simp; done) | (simp [*]; done), HS.out, HK.out⟩
  · rw [if_neg c2] at H
    have c2b0 : decide (a0 < 1) = false := decide_eq_false c2
    clear c2
    by_cases c4 : a0 > 50
    · rw [if_pos c4] at H
      have c4b0 : decide (50 < a0) = true := decide_eq_true c4
      clear c4
      obtain rfl := Option.some.inj H
      go_enter Try.func4, Try.ntmps4
      go_wp2_with (first | ((with_reducible refine gate_dst (N := 19) rfl ?_); refine goesL_ (some 19) rfl rfl Try.func7 (by kernel_rfl) rfl #[] rfl (by (try simp only [List.map_toArray, List.map_cons, List.map_nil]); first | done | rfl | (simp; done)) ?_; (with_reducible refine (barrowlaw33_small.calls k _ _  Hc1.out).mono ?_); rintro e_ w5 ⟨rfl, hb_⟩; refine ⟨_, rfl, ?_⟩; replace HS := Aside0.mk (HS.out.below hb_); replace HK := Aside0.mk (HK.out.trans (Keep.below hb_))))
      go_ret
      unfold barrowlaw33_ZoneBeats.Post
      exact ⟨by first | rfl | (simp; done) | (simp [*]; done), HS.out, HK.out⟩
    · rw [if_neg c4] at H
      have c4b0 : decide (50 < a0) = false := decide_eq_false c4
      clear c4
      by_cases c6 : a1 < 1
      · rw [if_pos c6] at H
        have c6b0 : decide (a1 < 1) = true := decide_eq_true c6
        clear c6
        obtain rfl := Option.some.inj H
        go_enter Try.func4, Try.ntmps4
        go_wp2_with (first | ((with_reducible refine gate_dst (N := 19) rfl ?_); refine goesL_ (some 19) rfl rfl Try.func7 (by kernel_rfl) rfl #[] rfl (by (try simp only [List.map_toArray, List.map_cons, List.map_nil]); first | done | rfl | (simp; done)) ?_; (with_reducible refine (barrowlaw33_small.calls k _ _  Hc1.out).mono ?_); rintro e_ w7 ⟨rfl, hb_⟩; refine ⟨_, rfl, ?_⟩; replace HS := Aside0.mk (HS.out.below hb_); replace HK := Aside0.mk (HK.out.trans (Keep.below hb_))))
        go_ret
        unfold barrowlaw33_ZoneBeats.Post
        exact ⟨by first | rfl | (simp; done) | (simp [*]; done), HS.out, HK.out⟩
      · rw [if_neg c6] at H
        have c6b0 : decide (a1 < 1) = false := decide_eq_false c6
        clear c6
        by_cases c8 : a1 > 100
        · rw [if_pos c8] at H
          have c8b0 : decide (100 < a1) = true := decide_eq_true c8
          clear c8
          obtain rfl := Option.some.inj H
          go_enter Try.func4, Try.ntmps4
          go_wp2_with (first | ((with_reducible refine gate_dst (N := 19) rfl ?_); refine goesL_ (some 19) rfl rfl Try.func7 (by kernel_rfl) rfl #[] rfl (by (try simp only [List.map_toArray, List.map_cons, List.map_nil]); first | done | rfl | (simp; done)) ?_; (with_reducible refine (barrowlaw33_small.calls k _ _  Hc1.out).mono ?_); rintro e_ w9 ⟨rfl, hb_⟩; refine ⟨_, rfl, ?_⟩; replace HS := Aside0.mk (HS.out.below hb_); replace HK := Aside0.mk (HK.out.trans (Keep.below hb_))))
          go_ret
          unfold barrowlaw33_ZoneBeats.Post
          exact ⟨by first | rfl | (simp; done) | (simp [*]; done), HS.out, HK.out⟩
        · rw [if_neg c8] at H
          have c8b0 : decide (100 < a1) = false := decide_eq_false c8
          clear c8
          by_cases c10 : a2 < 0
          · rw [if_pos c10] at H
            have c10b0 : decide (a2 < 0) = true := decide_eq_true c10
            clear c10
            obtain rfl := Option.some.inj H
            go_enter Try.func4, Try.ntmps4
            go_wp2_with (first | ((with_reducible refine gate_dst (N := 19) rfl ?_); refine goesL_ (some 19) rfl rfl Try.func7 (by kernel_rfl) rfl #[] rfl (by (try simp only [List.map_toArray, List.map_cons, List.map_nil]); first | done | rfl | (simp; done)) ?_; (with_reducible refine (barrowlaw33_small.calls k _ _  Hc1.out).mono ?_); rintro e_ w11 ⟨rfl, hb_⟩; refine ⟨_, rfl, ?_⟩; replace HS := Aside0.mk (HS.out.below hb_); replace HK := Aside0.mk (HK.out.trans (Keep.below hb_))))
            go_ret
            unfold barrowlaw33_ZoneBeats.Post
            exact ⟨by first | rfl | (simp; done) | (simp [*]; done), HS.out, HK.out⟩
          · rw [if_neg c10] at H
            have c10b0 : decide (a2 < 0) = false := decide_eq_false c10
            clear c10
            by_cases c12 : a2 > 1048576
            · rw [if_pos c12] at H
              have c12b0 : decide (1048576 < a2) = true := decide_eq_true c12
              clear c12
              obtain rfl := Option.some.inj H
              go_enter Try.func4, Try.ntmps4
              go_wp2_with (first | ((with_reducible refine gate_dst (N := 19) rfl ?_); refine goesL_ (some 19) rfl rfl Try.func7 (by kernel_rfl) rfl #[] rfl (by (try simp only [List.map_toArray, List.map_cons, List.map_nil]); first | done | rfl | (simp; done)) ?_; (with_reducible refine (barrowlaw33_small.calls k _ _  Hc1.out).mono ?_); rintro e_ w13 ⟨rfl, hb_⟩; refine ⟨_, rfl, ?_⟩; replace HS := Aside0.mk (HS.out.below hb_); replace HK := Aside0.mk (HK.out.trans (Keep.below hb_))))
              go_ret
              unfold barrowlaw33_ZoneBeats.Post
              exact ⟨by first | rfl | (simp; done) | (simp [*]; done), HS.out, HK.out⟩
            · rw [if_neg c12] at H
              have c12b0 : decide (1048576 < a2) = false := decide_eq_false c12
              clear c12
              replace H := Option.bind_eq_some_iff.1 H
              obtain ⟨⟨t532, t533, t534, t535, t536, t537, t538, t539, t540, t541, t542, t543, t544, t545, t546, t547⟩, Hc140, H⟩ := H
              try dsimp only at H
              have Hc14 := Aside0.mk Hc140
              clear Hc140
              replace H := Option.bind_eq_some_iff.1 H
              obtain ⟨⟨t548, t549, t550⟩, Hc150, H⟩ := H
              try dsimp only at H
              have Hc15 := Aside0.mk Hc150
              clear Hc150
              by_cases c16 : t550 = 0
              · rw [if_pos c16] at H
                have c16b0 : (t550 == 0) = true := beq_iff_eq.mpr c16
                have c16b1 : (t550 != 0) = false := bne_eq_false_iff_eq.mpr c16
                clear c16
                by_cases c17 : t549 = 1
                · rw [if_pos c17] at H
                  have c17b0 : (t549 == 1) = true := beq_iff_eq.mpr c17
                  have c17b1 : (t549 != 1) = false := bne_eq_false_iff_eq.mpr c17
                  clear c17
                  replace H := Option.bind_eq_some_iff.1 H
                  obtain ⟨y551, hy5510, H⟩ := H
                  try dsimp only at H
                  have hy551 := Option.some.inj hy5510
                  clear hy5510
                  have Ny551 := Aside0.mk hy551
                  clear hy551
                  have H' := Aside0.mk H
                  clear H
                  go_enter Try.func4, Try.ntmps4
                  go_wp2_with (first | ((with_reducible refine gate_dst (N := 19) rfl ?_); refine goesL_ (some 19) rfl rfl Try.func7 (by kernel_rfl) rfl #[] rfl (by (try simp only [List.map_toArray, List.map_cons, List.map_nil]); first | done | rfl | (simp; done)) ?_; (with_reducible refine (barrowlaw33_small.calls k _ _  Hc1.out).mono ?_); rintro e_ w18 ⟨rfl, hb_⟩; refine ⟨_, rfl, ?_⟩; replace HS := Aside0.mk (HS.out.below hb_); replace HK := Aside0.mk (HK.out.trans (Keep.below hb_))) | ((with_reducible refine gate_dst (N := 45) rfl ?_); refine goesL_ (some 45) rfl rfl Try.func13 (by kernel_rfl) rfl #[.int .i64 0, .int .i64 3, .int .i64 a0] rfl (by (try simp only [List.map_toArray, List.map_cons, List.map_nil]); first | done | rfl | (simp; done)) ?_; (with_reducible refine (barrowlaw33_circle.calls _ _ _ _ _ _ _ _ _ _ _ _ _ _ _ _ _ _ _ _  Hc14.out).mono ?_); rintro e_ w19 ⟨rfl, hb_⟩; refine ⟨_, rfl, ?_⟩; replace HS := Aside0.mk (HS.out.below hb_); replace HK := Aside0.mk (HK.out.trans (Keep.below hb_))) | ((with_reducible refine gate_dst (N := 48) rfl ?_); refine goesL_ (some 48) rfl rfl Try.func12 (by kernel_rfl) rfl #[.slice none 0 0, .agg #[.int .i64 t532, .int .i64 t533, .int .i64 t534, .int .i64 t535, .int .i64 t536, .int .i64 t537, .int .i64 t538, .int .i64 t539, .int .i64 t540, .int .i64 t541, .int .i64 t542, .int .i64 t543, .int .i64 t544, .int .i64 t545, .int .i64 t546, .int .i64 t547], .int .i64 a2, .int .i64 a1] rfl (by (try simp only [List.map_toArray, List.map_cons, List.map_nil]); first | done | rfl | (simp; done)) ?_; have hs0_ := HS.out; (refine (zone_Add.slcalls k _ _ _ _ _ _ _ _ _ _ _ _ _ _ _ _ _ _ _ _ _ _ _ _ _ _ _ (HF.out.keep HK.out) hs0_ (fun w_ _ => Kd.C_nil _ _) (Nat.le_refl _) Hc15.out).mono ?_); rintro e_ w20 ⟨Az3000060, cz3000060, rfl, hsr_, hkr_⟩; refine ⟨_, rfl, ?_⟩; replace HS := Aside0.mk (hsr_); replace HK := Aside0.mk (HK.out.trans hkr_)) | ((with_reducible refine gate_dst (N := 61) rfl ?_); refine wpList_plain rfl (fun K_ hK_ => ?_); refine op_rowF (S := S) (d := k44) ⟨fun h_ => h_⟩ 44 y551 #[.int .i64 5, .int .i64 1, .int .i64 0, .int .i64 1, .int .i64 0, .int .i64 0, .int .i64 0, .int .i64 a3, .int .i64 0, .int .i64 0] 1 (by rw [← Ny551.out]; exact reps_cons (k44_mkM _ 0 _ (⟨5, 1, 0, 1, 0, 0, 0, (⟨a3, 0⟩ : S31), 0⟩ : S44)) rfl (Reps.none _ _)) (by rw [← Ny551.out]; rfl) (by decide) (HF.out.keep HK.out) HS.out (by first | (go_simp; done) | (go_simp; rfl)) ?_; intro Az3000061 cz3000061 w21 hs_ hk_; refine hK_ _ _ ?_; clear hK_ K_; replace HS := Aside0.mk ((show SL (row k44 44 (.slice Az3000061 1 cz3000061) y551 :: _) _ _ from hs_)); replace HK := Aside0.mk (HK.out.trans hk_)))
                  replace HS := Aside0.mk (SL.get1 HS.out)
                  go_loopg [10, 13, 15] k (fun kq v10 v13 v15 w' => ∃ (x10_0 : List (S37)) (Ax10_0 : Option Addr) (cx10_0 : Nat) (x13_0 : Int) (x15_0 : Int), v10 = .slice Ax10_0 x10_0.length cx10_0 ∧ v13 = .int .i64 x13_0 ∧ v15 = .int .i64 x15_0 ∧ Aside0 (barrowlaw33_ZoneBeats.l0 kq a0 a1 a2 a3 t531 y551 x10_0 x13_0 x15_0 = some r) ∧ Aside0 (kq ≤ k) ∧ Aside0 (SL (row k37 37 (.slice Ax10_0 x10_0.length cx10_0) x10_0 :: row k44 44 (.slice Az3000061 1 cz3000061) y551 :: L) w' S) ∧ Aside0 (Keep S w w'))
                  case atStart => exact ⟨(t548), (Az3000060), (cz3000060), (0), (a2), (by first | rfl | (simp; done) | (simp [*]; done)), (by first | rfl | (simp; done) | (simp [*]; done)), (by first | rfl | (simp; done) | (simp [*]; done)), H', ⟨Nat.le_refl _⟩, HS, HK⟩
                  case round =>
                    clear H' HS HK
                    obtain ⟨x10_0, Ax10_0, cx10_0, x13_0, x15_0, rfl, rfl, rfl, HA, HQ1, HS, HK⟩ := hrel
                    cases gk with
                    | zero => exact absurd HA.out (by simp [barrowlaw33_ZoneBeats.l0])
                    | succ k1 =>
                      have H := HA.out
                      clear HA
                      simp only [barrowlaw33_ZoneBeats.l0] at H
                      by_cases c22 : x15_0 ≤ (wrap64 (a2 + a1))
                      · rw [if_pos c22] at H
                        have c22b0 : decide (x15_0 ≤ (wrap64 (a2 + a1))) = true := decide_eq_true c22
                        clear c22
                        replace H := Option.bind_eq_some_iff.1 H
                        obtain ⟨⟨t552, t553⟩, Hc230, H⟩ := H
                        try dsimp only at H
                        have Hc23 := Aside0.mk Hc230
                        clear Hc230
                        replace H := Option.bind_eq_some_iff.1 H
                        obtain ⟨t554, Hc240, H⟩ := H
                        try dsimp only at H
                        have Hc24 := Aside0.mk Hc240
                        clear Hc240
                        by_cases c25 : t554 = true
                        · subst c25
                          rw [if_pos rfl] at H
                          by_cases c26 : (((t552.length : Int) == 1) != (decide (x15_0 < (wrap64 (a2 + a1))))) = true
                          · rw [if_pos c26] at H
                            exact absurd H (by simp)
                          · rw [if_neg c26] at H
                            have c26b0 : (((t552.length : Int) == 1) != (decide (x15_0 < (wrap64 (a2 + a1))))) = false := by simpa using c26
                            (try (have c26b1 : decide (((t552.length : Int) == 1) = (decide (x15_0 < (wrap64 (a2 + a1))))) = true := by simpa using c26))
                            (try (have c26b2 : (((t552.length : Int) == 1) == (decide (x15_0 < (wrap64 (a2 + a1))))) = true := by simpa using c26))
                            clear c26
                            have H' := Aside0.mk H
                            clear H
                            go_wp2_with (first | ((with_reducible refine gate_dst (N := 74) rfl ?_); refine goesL_ (some 74) rfl rfl Try.func8 (by kernel_rfl) rfl #[.slice Ax10_0 x10_0.length cx10_0, .slice Az3000061 1 cz3000061, .int .i64 x15_0] rfl (by (try simp only [List.map_toArray, List.map_cons, List.map_nil]); first | done | rfl | (simp; done)) ?_; have el3000061_ := Aside0.mk (SL.row_c (SL.get1 HS.out)).1; refine calls_of_args (args' := #[.slice Ax10_0 x10_0.length cx10_0, .slice Az3000061 y551.length cz3000061, .int .i64 x15_0]) (by rw [← el3000061_.out]) ?_; have hs0_ := (SL.get1 (SL.get1 HS.out)); obtain ⟨U1_, hfU1_, hsub1_, hs1_, hro1_, hback1_⟩ := SL.lend (HF.out.keep HK.out) hs0_ (p := fun w_ => Kd.C k37 w_ Ax10_0 x10_0.length x10_0) (fun w_ T_ h_ => (Qs_c h_).2.2); obtain ⟨U2_, hfU2_, hsub2_, hs2_, hro2_, hback2_⟩ := SL.lend hfU1_ hs1_ (p := fun w_ => Kd.C k44 w_ Az3000061 1 y551) (fun w_ T_ h_ => (Qs_c h_).2.2); (with_reducible refine (zone_Tick.slcalls k1 _ _ _ _ _ _ _ _ _ _ _ _ hfU2_ hs2_ (RO.sub hro1_ (fun k_ h_ => hsub2_ k_ (h_))) (SL.row_c HS.out).2.1 (by rw [← el3000061_.out]; exact hro2_) (by rw [← el3000061_.out]; exact (SL.row_c (SL.get1 HS.out)).2.1) Hc23.out).mono ?_); rintro e_ w27 ⟨Az3000062, cz3000062, Az3000063, cz3000063, rfl, hsr_, hkr_⟩; refine ⟨_, rfl, ?_⟩; replace HS := Aside0.mk ((hback1_ _ _ (Keep.sub hkr_ (fun k_ h_ => hsub2_ k_ (h_))) (hback2_ _ _ hkr_ hsr_))); replace HK := Aside0.mk (HK.out.trans (Keep.sub hkr_ (fun k_ h_ => hsub1_ k_ (hsub2_ k_ h_))))) | ((with_reducible refine gate_dst (N := 78) rfl ?_); refine goesL_ (some 78) rfl rfl Try.func14 (by kernel_rfl) rfl #[.slice Az3000062 t552.length cz3000062] rfl (by (try simp only [List.map_toArray, List.map_cons, List.map_nil]); first | done | rfl | (simp; done)) ?_; (with_reducible refine (zone_Right.calls k1 _ _ _ _ _ (SL.row_c (SL.get2 HS.out)).2.2 (SL.row_c (SL.get2 HS.out)).2.1 Hc24.out).mono ?_); rintro e_ w28 ⟨rfl, hb_⟩; refine ⟨_, rfl, ?_⟩; replace HS := Aside0.mk (HS.out.below hb_); replace HK := Aside0.mk (HK.out.trans (Keep.below hb_))))
                            replace HS := Aside0.mk (SL.get1 (SL.tail (SL.get2 (SL.tail HS.out))))
                            go_roundg k1
                            case measure => have := HQ1.out; omega
                            case rel => exact ⟨(t552), (Az3000062), (cz3000062), (wrap64 (x13_0 + (t553.length : Int))), (wrap64 (x15_0 + 1)), (by first | rfl | (simp; done) | (simp [*]; done)), (by first | rfl | (simp; done) | (simp [*]; done)), (by first | rfl | (simp; done) | (simp [*]; done)), H', ⟨by have := HQ1.out; omega⟩, HS, HK⟩
                        · replace c25 := Bool.eq_false_iff.mpr c25
                          subst c25
                          rw [if_neg (show ¬ (false = true) by decide)] at H
                          exact absurd H (by simp)
                      · rw [if_neg c22] at H
                        have c22b0 : decide (x15_0 ≤ (wrap64 (a2 + a1))) = false := decide_eq_false c22
                        clear c22
                        by_cases c29 : a3 ≥ (-3)
                        · rw [if_pos c29] at H
                          have c29b0 : decide ((-3) ≤ a3) = true := decide_eq_true c29
                          clear c29
                          by_cases c30 : a3 ≤ 3
                          · rw [if_pos c30] at H
                            have c30b0 : decide (a3 ≤ 3) = true := decide_eq_true c30
                            clear c30
                            by_cases c31 : a0 = 0
                            · rw [if_pos c31] at H
                              exact absurd H (by simp)
                            · rw [if_neg c31] at H
                              have c31b0 : (a0 == 0) = false := beq_eq_false_iff_ne.mpr c31
                              have c31b1 : (a0 != 0) = true := bne_iff_ne.mpr c31
                              by_cases c32 : t531 = true
                              · subst c32
                                rw [if_pos rfl] at H
                                by_cases c33 : x13_0 = (wrap64 (Int.tdiv a1 a0))
                                · rw [if_pos c33] at H
                                  have c33b0 : (x13_0 == (wrap64 (Int.tdiv a1 a0))) = true := beq_iff_eq.mpr c33
                                  have c33b1 : (x13_0 != (wrap64 (Int.tdiv a1 a0))) = false := bne_eq_false_iff_eq.mpr c33
                                  clear c33
                                  obtain rfl := Option.some.inj H
                                  go_wp2
                                  go_ret
                                  replace HS := Aside0.mk (SL.tail (SL.tail HS.out))
                                  unfold barrowlaw33_ZoneBeats.Post
                                  exact ⟨by first | rfl | (simp; done) | (simp [*]; done), HS.out, HK.out⟩
                                · rw [if_neg c33] at H
                                  exact absurd H (by simp)
                              · replace c32 := Bool.eq_false_iff.mpr c32
                                subst c32
                                rw [if_neg (show ¬ (false = true) by decide)] at H
                                exact absurd H (by simp)
                          · rw [if_neg c30] at H
                            have c30b0 : decide (a3 ≤ 3) = false := decide_eq_false c30
                            clear c30
                            by_cases c34 : t531 = true
                            · subst c34
                              rw [if_pos rfl] at H
                              by_cases c35 : x13_0 = 0
                              · rw [if_pos c35] at H
                                have c35b0 : (x13_0 == 0) = true := beq_iff_eq.mpr c35
                                have c35b1 : (x13_0 != 0) = false := bne_eq_false_iff_eq.mpr c35
                                clear c35
                                obtain rfl := Option.some.inj H
                                go_wp2
                                go_ret
                                replace HS := Aside0.mk (SL.tail (SL.tail HS.out))
                                unfold barrowlaw33_ZoneBeats.Post
                                exact ⟨by first | rfl | (simp; done) | (simp [*]; done), HS.out, HK.out⟩
                              · rw [if_neg c35] at H
                                exact absurd H (by simp)
                            · replace c34 := Bool.eq_false_iff.mpr c34
                              subst c34
                              rw [if_neg (show ¬ (false = true) by decide)] at H
                              exact absurd H (by simp)
                        · rw [if_neg c29] at H
                          have c29b0 : decide ((-3) ≤ a3) = false := decide_eq_false c29
                          clear c29
                          by_cases c36 : t531 = true
                          · subst c36
                            rw [if_pos rfl] at H
                            by_cases c37 : x13_0 = 0
                            · rw [if_pos c37] at H
                              have c37b0 : (x13_0 == 0) = true := beq_iff_eq.mpr c37
                              have c37b1 : (x13_0 != 0) = false := bne_eq_false_iff_eq.mpr c37
                              clear c37
                              obtain rfl := Option.some.inj H
                              go_wp2
                              go_ret
                              replace HS := Aside0.mk (SL.tail (SL.tail HS.out))
                              unfold barrowlaw33_ZoneBeats.Post
                              exact ⟨by first | rfl | (simp; done) | (simp [*]; done), HS.out, HK.out⟩
                            · rw [if_neg c37] at H
                              exact absurd H (by simp)
                          · replace c36 := Bool.eq_false_iff.mpr c36
                            subst c36
                            rw [if_neg (show ¬ (false = true) by decide)] at H
                            exact absurd H (by simp)
                · rw [if_neg c17] at H
                  exact absurd H (by simp)
              · rw [if_neg c16] at H
                exact absurd H (by simp)
theorem barrowlaw33_ZoneBeats.calls (k : Nat) (a0 : Int) (a1 : Int) (a2 : Int) (a3 : Int) (r : Bool) (w : World) (h : barrowlaw33_ZoneBeats.f k a0 a1 a2 a3 = some r) :
    Calls Try.prog 4 #[.int .i64 a0, .int .i64 a1, .int .i64 a2, .int .i64 a3] w fun e w' => e = .returned (.bool r) ∧ Below w.heap.size w w' :=
  (barrowlaw33_ZoneBeats.slcalls k a0 a1 a2 a3 r (news w) [] w (fresh_news w) trivial h).mono fun _ _ h => ⟨h.1, h.2.2.to_below⟩

/-- THE ONE PURE STATEMENT of barrowlaw33_ZoneBeats. -/
def barrowlaw33_ZoneBeats.Pure : Prop := ∀ (a0 : Int) (a1 : Int) (a2 : Int) (a3 : Int), ((Lit.int .i64 a0).wf = true) → ((Lit.int .i64 a1).wf = true) → ((Lit.int .i64 a2).wf = true) → ((Lit.int .i64 a3).wf = true) → ∃ k, barrowlaw33_ZoneBeats.f k a0 a1 a2 a3 = some true

end Go.Proofs.Ytiadhonhjnbliaa.XZN
