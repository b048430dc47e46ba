-- Written by xprint.py (a program of this session) for this claim
import Derived.Test.YtdlpijeceigbnaaXFRx0
import Derived.Test.YtdlpijeceigbnaaXFRx1
import Derived.Test.YtdlpijeceigbnaaXFRx2
import Derived.Test.YtdlpijeceigbnaaXFRx4
import Derived.Test.YtdlpijeceigbnaaXFRx5
import Derived.Test.YtdlpijeceigbnaaXFRx6
namespace Go.Proofs.Ytdlpijeceigbnaa.XFR
open Go.Proofs.YtdlpijeceigbnaaV Go.Proofs.YtdlpijeceigbnaaS
open Go.RowKit Go.Proofs.YtdlpijeceigbnaaW.PrintWords Go.Proofs.YtdlpijeceigbnaaW.PrintLast Go.Proofs.YtdlpijeceigbnaaW.PrintMore
attribute [local go_sem] max2_int min2_int max_two min_two max_three min_three max_four min_four   -- for this text's walks alone
set_option linter.unusedVariables false
set_option linter.unusedSimpArgs false

/-! ### barrowlaw04_FrameParts: function 4 -/
def barrowlaw04_FrameParts.l0 : Nat → (List (List Int)) → Bool → (List Int) → Bool → (List Int) → (List (List Int)) → Int → Int → (List Int) → Bool → Option (Bool)
  | 0, _, _, _, _, _, _, _, _, _, _ => none
  | k + 1, l0, t497, t501, t502, x7_0, x8_0, x9_0, x10_0, y3000039_0, x3000038_1_0 => if x10_0 < (l0.length : Int) then (if 0 ≤ x10_0 then ((some (rd_L1 l0 x10_0 : List Int)).bind fun y563 => ((frame_Feed_Push.f k y3000039_0 x3000038_1_0 y563).bind fun bt564 => (if bt564.2.1 = 14 then (if x9_0 = 0 then (none) else (if x8_0.length + bt564.1.length < 5864062014805 then ((some (x8_0 ++ bt564.1 : List (List Int))).bind fun y570 => ((some (rd_L1 l0 x10_0 : List Int)).bind fun y574 => (if x7_0.length + y574.length < 140737488355328 then ((some (x7_0 ++ y574 : List Int)).bind fun y575 => (barrowlaw04_FrameParts.l0 k l0 t497 t501 t502 y575 y570 x9_0 (wrap64 (x10_0 + 1)) bt564.2.2.1 bt564.2.2.2)) else (none)))) else (none))) else (if x9_0 = 0 then (if x8_0.length + bt564.1.length < 5864062014805 then ((some (x8_0 ++ bt564.1 : List (List Int))).bind fun y578 => ((some (rd_L1 l0 x10_0 : List Int)).bind fun y582 => (if x7_0.length + y582.length < 140737488355328 then ((some (x7_0 ++ y582 : List Int)).bind fun y583 => (barrowlaw04_FrameParts.l0 k l0 t497 t501 t502 y583 y578 bt564.2.1 (wrap64 (x10_0 + 1)) bt564.2.2.1 bt564.2.2.2)) else (none)))) else (none)) else (if x8_0.length + bt564.1.length < 5864062014805 then ((some (x8_0 ++ bt564.1 : List (List Int))).bind fun y586 => ((some (rd_L1 l0 x10_0 : List Int)).bind fun y590 => (if x7_0.length + y590.length < 140737488355328 then ((some (x7_0 ++ y590 : List Int)).bind fun y591 => (barrowlaw04_FrameParts.l0 k l0 t497 t501 t502 y591 y586 x9_0 (wrap64 (x10_0 + 1)) bt564.2.2.1 bt564.2.2.2)) else (none)))) else (none)))))) else (none)) else ((frame_Feed_Push.f k t501 t502 x7_0).bind fun bt594 => (if t497 = true then ((barrowref04_Same.f k x8_0 bt594.1).bind fun t600 => (if t600 = true then (if x9_0 = bt594.2.1 then ((frame_Feed_Waits.f y3000039_0 x3000038_1_0).bind fun bt601 => ((frame_Feed_Waits.f bt594.2.2.1 bt594.2.2.2).bind fun bt606 => (if bt601.1 = bt606.1 then ((frame_Feed_Dead.f bt601.2.1 bt601.2.2).bind fun bt611 => ((frame_Feed_Dead.f bt606.2.1 bt606.2.2).bind fun bt616 => (if (bt611.1 == bt616.1) = true then (some true) else (none)))) else (none)))) else (none)) else (none))) else (none)))
def barrowlaw04_FrameParts.f (k : Nat) (l0 : List (List Int)) : Option (Bool) := (barrowlaw04_small.f k).bind fun t497 => ((barrowlaw04_few.f k l0).bind fun t498 => ((frame_New.f).bind fun bt499 => ((frame_New.f).bind fun bt501 => (if t498 = true then (barrowlaw04_FrameParts.l0 k l0 t497 bt501.1 bt501.2 ([] : List Int) ([] : List (List Int)) 0 0 bt499.1 bt499.2) else (if t497 = true then (some true) else (none))))))
theorem barrowlaw04_FrameParts.mono_l : ∀ k, (∀ y0 y1 y2 y3 y4 y5 y6 y7 y8 y9, LeO (barrowlaw04_FrameParts.l0 k y0 y1 y2 y3 y4 y5 y6 y7 y8 y9) (barrowlaw04_FrameParts.l0 (k + 1) y0 y1 y2 y3 y4 y5 y6 y7 y8 y9))
  | 0 => fun _ _ _ _ _ _ _ _ _ _ r h => by simp [barrowlaw04_FrameParts.l0] at h
  | k + 1 => by
    have ih0 := barrowlaw04_FrameParts.mono_l k
    · intro y0 y1 y2 y3 y4 y5 y6 y7 y8 y9
      unfold barrowlaw04_FrameParts.l0
      repeat' first
      | (with_reducible exact ih0 _ _ _ _ _ _ _ _ _ _)
      | (with_reducible exact barrowlaw04_few.mono _ _)
      | (with_reducible exact barrowlaw04_small.mono _)
      | (with_reducible exact barrowref04_Same.mono _ _ _)
      | (with_reducible exact frame_Feed_Push.mono _ _ _ _)
      | (with_reducible exact LeO.refl _)
      | (with_reducible exact LeO.none _)
      | (with_reducible refine LeO.ite ?_ ?_)
      | (with_reducible refine LeO.bind ?_ (fun _ => ?_))
      | exact ih0 _ _ _ _ _ _ _ _ _ _
      | exact barrowlaw04_few.mono _ _
      | exact barrowlaw04_small.mono _
      | exact barrowref04_Same.mono _ _ _
      | exact frame_Feed_Push.mono _ _ _ _
      | exact LeO.none _
      | refine LeO.ite ?_ ?_
      | refine LeO.bind ?_ (fun _ => ?_)
theorem barrowlaw04_FrameParts.mono : ∀ a0 k, LeO (barrowlaw04_FrameParts.f k a0) (barrowlaw04_FrameParts.f (k + 1) a0) := by
  intro a0 k
  have ih0 := barrowlaw04_FrameParts.mono_l k
  unfold barrowlaw04_FrameParts.f
  repeat' first
      | (with_reducible exact ih0 _ _ _ _ _ _ _ _ _ _)
      | (with_reducible exact barrowlaw04_few.mono _ _)
      | (with_reducible exact barrowlaw04_small.mono _)
      | (with_reducible exact barrowref04_Same.mono _ _ _)
      | (with_reducible exact frame_Feed_Push.mono _ _ _ _)
      | (with_reducible exact LeO.refl _)
      | (with_reducible exact LeO.none _)
      | (with_reducible refine LeO.ite ?_ ?_)
      | (with_reducible refine LeO.bind ?_ (fun _ => ?_))
      | exact ih0 _ _ _ _ _ _ _ _ _ _
      | exact barrowlaw04_few.mono _ _
      | exact barrowlaw04_small.mono _
      | exact barrowref04_Same.mono _ _ _
      | exact frame_Feed_Push.mono _ _ _ _
      | exact LeO.none _
      | refine LeO.ite ?_ ?_
      | refine LeO.bind ?_ (fun _ => ?_)
def barrowlaw04_FrameParts.Post (r : Bool) (S : Nat → Prop) (L : List Asr) (w : World) (e : Ending) (w' : World) : Prop := e = .returned (.bool r) ∧ SL (L) w' S ∧ Keep S w w'
set_option maxHeartbeats 8000000 in
set_option maxRecDepth 100000 in
theorem barrowlaw04_FrameParts.slcalls (k : Nat) (A0 : Option Addr) (c0 : Nat) (l0 : List (List Int)) (r : Bool) (S : Nat → Prop) (L : List Asr) (w : World) (hf : Fresh S w) (hs : SL (L) w S) (hr0 : RO S w (fun w_ => Kd.C (Kd.slice 5 (Kd.int .u8)) w_ A0 l0.length l0)) (hc0 : l0.length ≤ c0) (h : barrowlaw04_FrameParts.f k l0 = some r) :
    Calls Try.prog 4 #[.slice A0 l0.length c0] w (barrowlaw04_FrameParts.Post r S L w) := by
  have HR0 := Aside0.mk hr0
  have HC0 := Aside0.mk hc0
  clear hr0 hc0
  have HF := Aside0.mk hf
  have HS := Aside0.mk hs
  have HK := Aside0.mk (Keep.refl S w)
  clear hf hs
  have H : ((barrowlaw04_small.f k).bind fun t497 => ((barrowlaw04_few.f k l0).bind fun t498 => ((frame_New.f).bind fun bt499 => ((frame_New.f).bind fun bt501 => (if t498 = true then (barrowlaw04_FrameParts.l0 k l0 t497 bt501.1 bt501.2 ([] : List Int) ([] : List (List Int)) 0 0 bt499.1 bt499.2) else (if t497 = true then (some true) else (none))))))) = some r := h
  clear h
  replace H := Option.bind_eq_some_iff.1 H
  obtain ⟨t497, Hc10, H⟩ := H
  try dsimp only at H
  have Hc1 := Aside0.mk Hc10
  clear Hc10
  replace H := Option.bind_eq_some_iff.1 H
  obtain ⟨t498, Hc20, H⟩ := H
  try dsimp only at H
  have Hc2 := Aside0.mk Hc20
  clear Hc20
  replace H := Option.bind_eq_some_iff.1 H
  obtain ⟨⟨t499, t500⟩, Hc30, H⟩ := H
  try dsimp only at H
  have Hc3 := Aside0.mk Hc30
  clear Hc30
  replace H := Option.bind_eq_some_iff.1 H
  obtain ⟨⟨t501, t502⟩, Hc40, H⟩ := H
  try dsimp only at H
  have Hc4 := Aside0.mk Hc40
  clear Hc40
  by_cases c5 : t498 = true
  · subst c5
    rw [if_pos rfl] at H
    have H' := Aside0.mk H
    clear H
    go_enter Try.func4, Try.ntmps4
    go_wp2_with (first | ((with_reducible refine gate_dst (N := 15) rfl ?_); refine goesL_ (some 15) rfl rfl Try.func7 (by kernel_rfl) rfl #[] rfl (by (try simp only [List.map_toArray, List.map_cons, List.map_nil]); first | done | rfl | (simp; done)) ?_; have hs0_ := HS.out; (with_reducible refine (barrowlaw04_small.slcalls k _ _ _ _ (HF.out.keep HK.out) hs0_  Hc1.out).mono ?_); rintro e_ w6 ⟨rfl, hsr_, hkr_⟩; refine ⟨_, rfl, ?_⟩; have n1_ := Aside0.mk (HK.out.trans hkr_); have n2_ := Aside0.mk (hsr_); clear HK HS; have HK := n1_; have HS := n2_; clear n1_ n2_) | ((with_reducible refine gate_dst (N := 17) rfl ?_); refine goesL_ (some 17) rfl rfl Try.func8 (by kernel_rfl) rfl #[.slice A0 l0.length c0] rfl (by (try simp only [List.map_toArray, List.map_cons, List.map_nil]); first | done | rfl | (simp; done)) ?_; (with_reducible refine (barrowlaw04_few.calls k _ _ _ _ _ (RO.at_ HR0.out HK.out) HC0.out Hc2.out).mono ?_); rintro e_ w7 ⟨rfl, hb_⟩; refine ⟨_, rfl, ?_⟩; replace hb_ := Drawn0.below hb_; have n1_ := Aside0.mk (HK.out.trans (Keep.below hb_)); have n2_ := Aside0.mk (HS.out.below hb_); clear HK HS; have HK := n1_; have HS := n2_; clear n1_ n2_) | ((with_reducible refine gate_dst (N := 18) rfl ?_); refine goesL_ (some 18) rfl rfl Try.func9 (by kernel_rfl) rfl #[] rfl (by (try simp only [List.map_toArray, List.map_cons, List.map_nil]); first | done | rfl | (simp; done)) ?_; have hs0_ := HS.out; (with_reducible refine (frame_New.slcalls _ _ _ _ _ (HF.out.keep HK.out) hs0_  Hc3.out).mono ?_); rintro e_ w8 ⟨Az3000039, cz3000039, g3000038, rfl, hsr_, hkr_⟩; refine ⟨_, rfl, ?_⟩; have n1_ := Aside0.mk (HK.out.trans hkr_); have n2_ := Aside0.mk (hsr_); clear HK HS; have HK := n1_; have HS := n2_; clear n1_ n2_) | ((with_reducible refine gate_dst (N := 19) rfl ?_); refine goesL_ (some 19) rfl rfl Try.func9 (by kernel_rfl) rfl #[] rfl (by (try simp only [List.map_toArray, List.map_cons, List.map_nil]); first | done | rfl | (simp; done)) ?_; have hs0_ := HS.out; (with_reducible refine (frame_New.slcalls _ _ _ _ _ (HF.out.keep HK.out) hs0_  Hc4.out).mono ?_); rintro e_ w9 ⟨Az3000041, cz3000041, g3000040, rfl, hsr_, hkr_⟩; refine ⟨_, rfl, ?_⟩; have n1_ := Aside0.mk (HK.out.trans hkr_); have n2_ := Aside0.mk (hsr_); clear HK HS; have HK := n1_; have HS := n2_; clear n1_ n2_; have n2_ := Aside0.mk (SL.nil_row (Kd.int .u8) 5 HS.out); clear HS; have HS := n2_; clear n2_; have n2_ := Aside0.mk (rows_nil (inn (Kd.int .u8) 5) 1 23 HS.out); clear HS; have HS := n2_; clear n2_))
    have n2_ := Aside0.mk (SL.get5 (SL.get5 (SL.get5 (SL.get5 (SL.get5 (SL.get5 HS.out))))))
    clear HS
    have HS := n2_
    clear n2_
    go_loopg [7, 8, 9, 10] k (fun kq v7 v8 v9 v10 w' => ∃ (x8_0 : List (List Int)) (Ax8_0 : Option Addr) (cx8_0 : Nat) (x7_0 : List Int) (Ax7_0 : Option Addr) (cx7_0 : Nat) (y3000039_0 : List Int) (x3000038_1_0 : Bool) (A3000039_0 : Option Addr) (c3000039_0 : Nat) (x9_0 : Int) (x10_0 : Int), v7 = .slice Ax7_0 x7_0.length cx7_0 ∧ v8 = .slice Ax8_0 x8_0.length cx8_0 ∧ v9 = .int .i64 x9_0 ∧ v10 = .int .i64 x10_0 ∧ Aside0 (barrowlaw04_FrameParts.l0 kq l0 t497 t501 t502 x7_0 x8_0 x9_0 x10_0 y3000039_0 x3000038_1_0 = some r) ∧ Aside0 (kq ≤ k) ∧ Aside0 (SL (rows (inn (Kd.int .u8) 5) 1 23 (.slice Ax8_0 x8_0.length cx8_0) x8_0 :: row (Kd.int .u8) 5 (.slice Ax7_0 x7_0.length cx7_0) x7_0 :: cells g3000040 41 [.slice Az3000041 t501.length cz3000041, .bool t502].toArray :: row (Kd.int .u8) 5 (.slice Az3000041 t501.length cz3000041) t501 :: cells g3000038 41 [.slice A3000039_0 y3000039_0.length c3000039_0, .bool x3000038_1_0].toArray :: row (Kd.int .u8) 5 (.slice A3000039_0 y3000039_0.length c3000039_0) y3000039_0 :: L) w' S) ∧ Aside0 (Keep S w w'))
    case atStart => exact ⟨(([] : List (List Int))), (none), (0), (([] : List Int)), (none), (0), (t499), (t500), (Az3000039), (cz3000039), (0), (0), (by first | rfl | (simp; done) | (simp [*]; done)), (by first | rfl | (simp; done) | (simp [*]; done)), (by first | rfl | (simp; done) | (simp [*]; done)), (by first | rfl | (simp; done) | (simp [*]; done)), H', ⟨Nat.le_refl _⟩, HS, HK⟩
    case round =>
      clear H' HS HK
      obtain ⟨x8_0, Ax8_0, cx8_0, x7_0, Ax7_0, cx7_0, y3000039_0, x3000038_1_0, A3000039_0, c3000039_0, x9_0, x10_0, rfl, rfl, rfl, rfl, HA, HQ1, HS, HK⟩ := hrel
      cases gk with
      | zero => exact absurd HA.out (by simp [barrowlaw04_FrameParts.l0])
      | succ k1 =>
        have H := HA.out
        clear HA
        simp only [barrowlaw04_FrameParts.l0] at H
        by_cases c10 : x10_0 < (l0.length : Int)
        · rw [if_pos c10] at H
          have c10b0 : decide (x10_0 < (l0.length : Int)) = true := decide_eq_true c10
          clear c10
          by_cases c11 : 0 ≤ x10_0
          · rw [if_pos c11] at H
            have c11b0 : decide (0 ≤ x10_0) = true := decide_eq_true c11
            clear c11
            replace H := Option.bind_eq_some_iff.1 H
            obtain ⟨y563, hy5630, H⟩ := H
            try dsimp only at H
            have hy563 := Option.some.inj hy5630
            clear hy5630
            have Ny563 := Aside0.mk hy563
            clear hy563
            replace H := Option.bind_eq_some_iff.1 H
            obtain ⟨⟨t564, t565, t566, t569⟩, Hc120, H⟩ := H
            try dsimp only at H
            have Hc12 := Aside0.mk Hc120
            clear Hc120
            by_cases c13 : t565 = 14
            · rw [if_pos c13] at H
              have c13b0 : (t565 == 14) = true := beq_iff_eq.mpr c13
              have c13b1 : (t565 != 14) = false := bne_eq_false_iff_eq.mpr c13
              clear c13
              by_cases c14 : x9_0 = 0
              · rw [if_pos c14] at H
                exact absurd H (by simp)
              · rw [if_neg c14] at H
                have c14b0 : (x9_0 == 0) = false := beq_eq_false_iff_ne.mpr c14
                have c14b1 : (x9_0 != 0) = true := bne_iff_ne.mpr c14
                by_cases c15 : x8_0.length + t564.length < 5864062014805
                · rw [if_pos c15] at H
                  have LMc15 := Aside0.mk c15
                  clear c15
                  replace H := Option.bind_eq_some_iff.1 H
                  obtain ⟨y570, hy5700, H⟩ := H
                  try dsimp only at H
                  have hy570 := Option.some.inj hy5700
                  clear hy5700
                  have Ny570 := Aside0.mk hy570
                  clear hy570
                  replace H := Option.bind_eq_some_iff.1 H
                  obtain ⟨y574, hy5740, H⟩ := H
                  try dsimp only at H
                  have hy574 := Option.some.inj hy5740
                  clear hy5740
                  have Ny574 := Aside0.mk hy574
                  clear hy574
                  by_cases c16 : x7_0.length + y574.length < 140737488355328
                  · rw [if_pos c16] at H
                    have LMc16 := Aside0.mk c16
                    clear c16
                    replace H := Option.bind_eq_some_iff.1 H
                    obtain ⟨y575, hy5750, H⟩ := H
                    try dsimp only at H
                    have hy575 := Option.some.inj hy5750
                    clear hy5750
                    have Ny575 := Aside0.mk hy575
                    clear hy575
                    have H' := Aside0.mk H
                    clear H
                    have pq562 : 0 ≤ (x10_0 : Int) := of_decide_eq_true (by first | (with_reducible assumption) | assumption)
                    have qq562 : x10_0 < ((l0.length : Int) : Int) := of_decide_eq_true (by first | (with_reducible assumption) | assumption)
                    obtain ⟨adq562, Aq562_0, cq562_0, eq562, hxxq562, hiq562, hlq562⟩ := RO.inner HR0.out x10_0 pq562 qq562 y563 Ny563.out
                    have hxq562_0 := hxxq562 _ HK.out
                    clear hxxq562
                    have HRq562_0 := Aside0.mk hiq562
                    have HCq562_0 := Aside0.mk hlq562
                    clear hiq562 hlq562
                    cases eq562
                    replace pq562 := eq_true pq562
                    replace qq562 := eq_true qq562
                    go_wp2_with (first | ((with_reducible refine gate_dst (N := 51) rfl ?_); refine goesL_ (some 51) rfl rfl Try.func10 (by kernel_rfl) rfl #[.pointer (some ⟨g3000038, 0, none⟩), .slice Aq562_0 y563.length cq562_0] rfl (by (try simp only [List.map_toArray, List.map_cons, List.map_nil]); first | done | rfl | (simp; done)) ?_; have hs0_ := (SL.get5 (SL.get5 HS.out)); (with_reducible refine (frame_Feed_Push.slcalls k1 _ _ _ _ _ _ _ _ _ _ _ _ _ _ _ (HF.out.keep HK.out) hs0_ (HRq562_0.out.keep HK.out) HCq562_0.out Hc12.out).mono ?_); rintro e_ w17 ⟨Az3000042, cz3000042, A567, c568, rfl, hsr_, hkr_⟩; refine ⟨_, rfl, ?_⟩; have n1_ := Aside0.mk (HK.out.trans hkr_); have n2_ := Aside0.mk (hsr_); clear HK HS; have HK := n1_; have HS := n2_; clear n1_ n2_) | ((with_reducible refine gate_dst (N := 65) rfl ?_); have hs2_ := (SL.get3 (SL.get2 HS.out)); have e2_ := (rows_c (d := (Kd.slice 5 (Kd.int .u8))) reads_inn rfl (SL.tail hs2_)).1; refine wpList_plain rfl (fun K_ hK_ => ?_); refine op_appendR (S := S) (.tmp 63) (.tmp 64) 22 23 (.slice none 0 0) 24 rfl Try.underlying22 info23 rfl (by decide) (by decide) (.slice Ax8_0 x8_0.length cx8_0) rfl rfl (HF.out.keep HK.out) hs2_ (by have := LMc15.out; omega) y570 Ny570.out ?_; intro A571 c572 w18 hs_ hk_; refine hK_ _ _ ?_; clear hK_ K_; clear hs2_ e2_; have n1_ := Aside0.mk (HK.out.trans hk_); have n2_ := Aside0.mk ((SL.back2 (show SL (rows (inn (Kd.int .u8) 5) 1 23 (.slice A571 y570.length c572) y570 :: _) _ _ from hs_))); clear HK HS; have HK := n1_; have HS := n2_; clear n1_ n2_; have pq573 : 0 ≤ (x10_0 : Int) := of_decide_eq_true (by first | (with_reducible assumption) | assumption); have qq573 : x10_0 < ((l0.length : Int) : Int) := of_decide_eq_true (by first | (with_reducible assumption) | assumption); obtain ⟨adq573, Aq573_0, cq573_0, eq573, hxxq573, hiq573, hlq573⟩ := RO.inner HR0.out x10_0 pq573 qq573 y574 Ny574.out; have hxq573_0 := hxxq573 _ HK.out; clear hxxq573; have HRq573_0 := Aside0.mk hiq573; have HCq573_0 := Aside0.mk hlq573; clear hiq573 hlq573; obtain rfl : adq562 = adq573 := (by injection eq573); replace pq573 := eq_true pq573; replace qq573 := eq_true qq573) | ((with_reducible refine gate_dst (N := 71) rfl ?_); refine wpList_plain rfl (fun K_ hK_ => ?_); refine op_append (S := S) (enc := Value.int .u8) (h1 := fun _ => rfl) 0 (.tmp 66) (.tmp 70) 23 5 (.int .u8 0) 1 rfl Try.underlying23 info5 rfl (by decide) (.slice Ax7_0 x7_0.length cx7_0) rfl rfl (HF.out.keep HK.out) (SL.get3 HS.out) (RO.at_ HRq573_0.out HK.out) (by have := LMc16.out; omega) y575 Ny575.out ?_; intro A576 c577 w19 hs_ hk_; refine hK_ _ _ ?_; clear hK_ K_; have n1_ := Aside0.mk (HK.out.trans hk_); have n2_ := Aside0.mk ((SL.back3 (show SL (row (Kd.int .u8) 5 (.slice A576 y575.length c577) y575 :: _) _ _ from hs_))); clear HK HS; have HK := n1_; have HS := n2_; clear n1_ n2_))
                    have n2_ := Aside0.mk (SL.get5 (SL.get5 (SL.get5 (SL.get5 (SL.get1 (SL.get1 HS.out))))))
                    clear HS
                    have HS := n2_
                    clear n2_
                    go_roundg k1
                    case measure => have := HQ1.out; omega
                    case rel => exact ⟨(y570), (A571), (c572), (y575), (A576), (c577), (t566), (t569), (A567), (c568), (x9_0), (wrap64 (x10_0 + 1)), (by first | rfl | (simp; done) | (simp [*]; done)), (by first | rfl | (simp; done) | (simp [*]; done)), (by first | rfl | (simp; done) | (simp [*]; done)), (by first | rfl | (simp; done) | (simp [*]; done)), H', ⟨by have := HQ1.out; omega⟩, HS, HK⟩
                  · rw [if_neg c16] at H
                    exact absurd H (by simp)
                · rw [if_neg c15] at H
                  exact absurd H (by simp)
            · rw [if_neg c13] at H
              have c13b0 : (t565 == 14) = false := beq_eq_false_iff_ne.mpr c13
              have c13b1 : (t565 != 14) = true := bne_iff_ne.mpr c13
              by_cases c20 : x9_0 = 0
              · rw [if_pos c20] at H
                have c20b0 : (x9_0 == 0) = true := beq_iff_eq.mpr c20
                have c20b1 : (x9_0 != 0) = false := bne_eq_false_iff_eq.mpr c20
                clear c20
                by_cases c21 : x8_0.length + t564.length < 5864062014805
                · rw [if_pos c21] at H
                  have LMc21 := Aside0.mk c21
                  clear c21
                  replace H := Option.bind_eq_some_iff.1 H
                  obtain ⟨y578, hy5780, H⟩ := H
                  try dsimp only at H
                  have hy578 := Option.some.inj hy5780
                  clear hy5780
                  have Ny578 := Aside0.mk hy578
                  clear hy578
                  replace H := Option.bind_eq_some_iff.1 H
                  obtain ⟨y582, hy5820, H⟩ := H
                  try dsimp only at H
                  have hy582 := Option.some.inj hy5820
                  clear hy5820
                  have Ny582 := Aside0.mk hy582
                  clear hy582
                  by_cases c22 : x7_0.length + y582.length < 140737488355328
                  · rw [if_pos c22] at H
                    have LMc22 := Aside0.mk c22
                    clear c22
                    replace H := Option.bind_eq_some_iff.1 H
                    obtain ⟨y583, hy5830, H⟩ := H
                    try dsimp only at H
                    have hy583 := Option.some.inj hy5830
                    clear hy5830
                    have Ny583 := Aside0.mk hy583
                    clear hy583
                    have H' := Aside0.mk H
                    clear H
                    have pq562 : 0 ≤ (x10_0 : Int) := of_decide_eq_true (by first | (with_reducible assumption) | assumption)
                    have qq562 : x10_0 < ((l0.length : Int) : Int) := of_decide_eq_true (by first | (with_reducible assumption) | assumption)
                    obtain ⟨adq562, Aq562_0, cq562_0, eq562, hxxq562, hiq562, hlq562⟩ := RO.inner HR0.out x10_0 pq562 qq562 y563 Ny563.out
                    have hxq562_0 := hxxq562 _ HK.out
                    clear hxxq562
                    have HRq562_0 := Aside0.mk hiq562
                    have HCq562_0 := Aside0.mk hlq562
                    clear hiq562 hlq562
                    cases eq562
                    replace pq562 := eq_true pq562
                    replace qq562 := eq_true qq562
                    go_wp2_with (first | ((with_reducible refine gate_dst (N := 51) rfl ?_); refine goesL_ (some 51) rfl rfl Try.func10 (by kernel_rfl) rfl #[.pointer (some ⟨g3000038, 0, none⟩), .slice Aq562_0 y563.length cq562_0] rfl (by (try simp only [List.map_toArray, List.map_cons, List.map_nil]); first | done | rfl | (simp; done)) ?_; have hs0_ := (SL.get5 (SL.get5 HS.out)); (with_reducible refine (frame_Feed_Push.slcalls k1 _ _ _ _ _ _ _ _ _ _ _ _ _ _ _ (HF.out.keep HK.out) hs0_ (HRq562_0.out.keep HK.out) HCq562_0.out Hc12.out).mono ?_); rintro e_ w23 ⟨Az3000042, cz3000042, A567, c568, rfl, hsr_, hkr_⟩; refine ⟨_, rfl, ?_⟩; have n1_ := Aside0.mk (HK.out.trans hkr_); have n2_ := Aside0.mk (hsr_); clear HK HS; have HK := n1_; have HS := n2_; clear n1_ n2_) | ((with_reducible refine gate_dst (N := 65) rfl ?_); have hs2_ := (SL.get3 (SL.get2 HS.out)); have e2_ := (rows_c (d := (Kd.slice 5 (Kd.int .u8))) reads_inn rfl (SL.tail hs2_)).1; refine wpList_plain rfl (fun K_ hK_ => ?_); refine op_appendR (S := S) (.tmp 63) (.tmp 64) 22 23 (.slice none 0 0) 24 rfl Try.underlying22 info23 rfl (by decide) (by decide) (.slice Ax8_0 x8_0.length cx8_0) rfl rfl (HF.out.keep HK.out) hs2_ (by have := LMc21.out; omega) y578 Ny578.out ?_; intro A579 c580 w24 hs_ hk_; refine hK_ _ _ ?_; clear hK_ K_; clear hs2_ e2_; have n1_ := Aside0.mk (HK.out.trans hk_); have n2_ := Aside0.mk ((SL.back2 (show SL (rows (inn (Kd.int .u8) 5) 1 23 (.slice A579 y578.length c580) y578 :: _) _ _ from hs_))); clear HK HS; have HK := n1_; have HS := n2_; clear n1_ n2_; have pq581 : 0 ≤ (x10_0 : Int) := of_decide_eq_true (by first | (with_reducible assumption) | assumption); have qq581 : x10_0 < ((l0.length : Int) : Int) := of_decide_eq_true (by first | (with_reducible assumption) | assumption); obtain ⟨adq581, Aq581_0, cq581_0, eq581, hxxq581, hiq581, hlq581⟩ := RO.inner HR0.out x10_0 pq581 qq581 y582 Ny582.out; have hxq581_0 := hxxq581 _ HK.out; clear hxxq581; have HRq581_0 := Aside0.mk hiq581; have HCq581_0 := Aside0.mk hlq581; clear hiq581 hlq581; obtain rfl : adq562 = adq581 := (by injection eq581); replace pq581 := eq_true pq581; replace qq581 := eq_true qq581) | ((with_reducible refine gate_dst (N := 71) rfl ?_); refine wpList_plain rfl (fun K_ hK_ => ?_); refine op_append (S := S) (enc := Value.int .u8) (h1 := fun _ => rfl) 0 (.tmp 66) (.tmp 70) 23 5 (.int .u8 0) 1 rfl Try.underlying23 info5 rfl (by decide) (.slice Ax7_0 x7_0.length cx7_0) rfl rfl (HF.out.keep HK.out) (SL.get3 HS.out) (RO.at_ HRq581_0.out HK.out) (by have := LMc22.out; omega) y583 Ny583.out ?_; intro A584 c585 w25 hs_ hk_; refine hK_ _ _ ?_; clear hK_ K_; have n1_ := Aside0.mk (HK.out.trans hk_); have n2_ := Aside0.mk ((SL.back3 (show SL (row (Kd.int .u8) 5 (.slice A584 y583.length c585) y583 :: _) _ _ from hs_))); clear HK HS; have HK := n1_; have HS := n2_; clear n1_ n2_))
                    have n2_ := Aside0.mk (SL.get5 (SL.get5 (SL.get5 (SL.get5 (SL.get1 (SL.get1 HS.out))))))
                    clear HS
                    have HS := n2_
                    clear n2_
                    go_roundg k1
                    case measure => have := HQ1.out; omega
                    case rel => exact ⟨(y578), (A579), (c580), (y583), (A584), (c585), (t566), (t569), (A567), (c568), (t565), (wrap64 (x10_0 + 1)), (by first | rfl | (simp; done) | (simp [*]; done)), (by first | rfl | (simp; done) | (simp [*]; done)), (by first | rfl | (simp; done) | (simp [*]; done)), (by first | rfl | (simp; done) | (simp [*]; done)), H', ⟨by have := HQ1.out; omega⟩, HS, HK⟩
                  · rw [if_neg c22] at H
                    exact absurd H (by simp)
                · rw [if_neg c21] at H
                  exact absurd H (by simp)
              · rw [if_neg c20] at H
                have c20b0 : (x9_0 == 0) = false := beq_eq_false_iff_ne.mpr c20
                have c20b1 : (x9_0 != 0) = true := bne_iff_ne.mpr c20
                by_cases c26 : x8_0.length + t564.length < 5864062014805
                · rw [if_pos c26] at H
                  have LMc26 := Aside0.mk c26
                  clear c26
                  replace H := Option.bind_eq_some_iff.1 H
                  obtain ⟨y586, hy5860, H⟩ := H
                  try dsimp only at H
                  have hy586 := Option.some.inj hy5860
                  clear hy5860
                  have Ny586 := Aside0.mk hy586
                  clear hy586
                  replace H := Option.bind_eq_some_iff.1 H
                  obtain ⟨y590, hy5900, H⟩ := H
                  try dsimp only at H
                  have hy590 := Option.some.inj hy5900
                  clear hy5900
                  have Ny590 := Aside0.mk hy590
                  clear hy590
                  by_cases c27 : x7_0.length + y590.length < 140737488355328
                  · rw [if_pos c27] at H
                    have LMc27 := Aside0.mk c27
                    clear c27
                    replace H := Option.bind_eq_some_iff.1 H
                    obtain ⟨y591, hy5910, H⟩ := H
                    try dsimp only at H
                    have hy591 := Option.some.inj hy5910
                    clear hy5910
                    have Ny591 := Aside0.mk hy591
                    clear hy591
                    have H' := Aside0.mk H
                    clear H
                    have pq562 : 0 ≤ (x10_0 : Int) := of_decide_eq_true (by first | (with_reducible assumption) | assumption)
                    have qq562 : x10_0 < ((l0.length : Int) : Int) := of_decide_eq_true (by first | (with_reducible assumption) | assumption)
                    obtain ⟨adq562, Aq562_0, cq562_0, eq562, hxxq562, hiq562, hlq562⟩ := RO.inner HR0.out x10_0 pq562 qq562 y563 Ny563.out
                    have hxq562_0 := hxxq562 _ HK.out
                    clear hxxq562
                    have HRq562_0 := Aside0.mk hiq562
                    have HCq562_0 := Aside0.mk hlq562
                    clear hiq562 hlq562
                    cases eq562
                    replace pq562 := eq_true pq562
                    replace qq562 := eq_true qq562
                    go_wp2_with (first | ((with_reducible refine gate_dst (N := 51) rfl ?_); refine goesL_ (some 51) rfl rfl Try.func10 (by kernel_rfl) rfl #[.pointer (some ⟨g3000038, 0, none⟩), .slice Aq562_0 y563.length cq562_0] rfl (by (try simp only [List.map_toArray, List.map_cons, List.map_nil]); first | done | rfl | (simp; done)) ?_; have hs0_ := (SL.get5 (SL.get5 HS.out)); (with_reducible refine (frame_Feed_Push.slcalls k1 _ _ _ _ _ _ _ _ _ _ _ _ _ _ _ (HF.out.keep HK.out) hs0_ (HRq562_0.out.keep HK.out) HCq562_0.out Hc12.out).mono ?_); rintro e_ w28 ⟨Az3000042, cz3000042, A567, c568, rfl, hsr_, hkr_⟩; refine ⟨_, rfl, ?_⟩; have n1_ := Aside0.mk (HK.out.trans hkr_); have n2_ := Aside0.mk (hsr_); clear HK HS; have HK := n1_; have HS := n2_; clear n1_ n2_) | ((with_reducible refine gate_dst (N := 65) rfl ?_); have hs2_ := (SL.get3 (SL.get2 HS.out)); have e2_ := (rows_c (d := (Kd.slice 5 (Kd.int .u8))) reads_inn rfl (SL.tail hs2_)).1; refine wpList_plain rfl (fun K_ hK_ => ?_); refine op_appendR (S := S) (.tmp 63) (.tmp 64) 22 23 (.slice none 0 0) 24 rfl Try.underlying22 info23 rfl (by decide) (by decide) (.slice Ax8_0 x8_0.length cx8_0) rfl rfl (HF.out.keep HK.out) hs2_ (by have := LMc26.out; omega) y586 Ny586.out ?_; intro A587 c588 w29 hs_ hk_; refine hK_ _ _ ?_; clear hK_ K_; clear hs2_ e2_; have n1_ := Aside0.mk (HK.out.trans hk_); have n2_ := Aside0.mk ((SL.back2 (show SL (rows (inn (Kd.int .u8) 5) 1 23 (.slice A587 y586.length c588) y586 :: _) _ _ from hs_))); clear HK HS; have HK := n1_; have HS := n2_; clear n1_ n2_; have pq589 : 0 ≤ (x10_0 : Int) := of_decide_eq_true (by first | (with_reducible assumption) | assumption); have qq589 : x10_0 < ((l0.length : Int) : Int) := of_decide_eq_true (by first | (with_reducible assumption) | assumption); obtain ⟨adq589, Aq589_0, cq589_0, eq589, hxxq589, hiq589, hlq589⟩ := RO.inner HR0.out x10_0 pq589 qq589 y590 Ny590.out; have hxq589_0 := hxxq589 _ HK.out; clear hxxq589; have HRq589_0 := Aside0.mk hiq589; have HCq589_0 := Aside0.mk hlq589; clear hiq589 hlq589; obtain rfl : adq562 = adq589 := (by injection eq589); replace pq589 := eq_true pq589; replace qq589 := eq_true qq589) | ((with_reducible refine gate_dst (N := 71) rfl ?_); refine wpList_plain rfl (fun K_ hK_ => ?_); refine op_append (S := S) (enc := Value.int .u8) (h1 := fun _ => rfl) 0 (.tmp 66) (.tmp 70) 23 5 (.int .u8 0) 1 rfl Try.underlying23 info5 rfl (by decide) (.slice Ax7_0 x7_0.length cx7_0) rfl rfl (HF.out.keep HK.out) (SL.get3 HS.out) (RO.at_ HRq589_0.out HK.out) (by have := LMc27.out; omega) y591 Ny591.out ?_; intro A592 c593 w30 hs_ hk_; refine hK_ _ _ ?_; clear hK_ K_; have n1_ := Aside0.mk (HK.out.trans hk_); have n2_ := Aside0.mk ((SL.back3 (show SL (row (Kd.int .u8) 5 (.slice A592 y591.length c593) y591 :: _) _ _ from hs_))); clear HK HS; have HK := n1_; have HS := n2_; clear n1_ n2_))
                    have n2_ := Aside0.mk (SL.get5 (SL.get5 (SL.get5 (SL.get5 (SL.get1 (SL.get1 HS.out))))))
                    clear HS
                    have HS := n2_
                    clear n2_
                    go_roundg k1
                    case measure => have := HQ1.out; omega
                    case rel => exact ⟨(y586), (A587), (c588), (y591), (A592), (c593), (t566), (t569), (A567), (c568), (x9_0), (wrap64 (x10_0 + 1)), (by first | rfl | (simp; done) | (simp [*]; done)), (by first | rfl | (simp; done) | (simp [*]; done)), (by first | rfl | (simp; done) | (simp [*]; done)), (by first | rfl | (simp; done) | (simp [*]; done)), H', ⟨by have := HQ1.out; omega⟩, HS, HK⟩
                  · rw [if_neg c27] at H
                    exact absurd H (by simp)
                · rw [if_neg c26] at H
                  exact absurd H (by simp)
          · rw [if_neg c11] at H
            exact absurd H (by simp)
        · rw [if_neg c10] at H
          have c10b0 : decide (x10_0 < (l0.length : Int)) = false := decide_eq_false c10
          clear c10
          replace H := Option.bind_eq_some_iff.1 H
          obtain ⟨⟨t594, t595, t596, t599⟩, Hc310, H⟩ := H
          try dsimp only at H
          have Hc31 := Aside0.mk Hc310
          clear Hc310
          by_cases c32 : t497 = true
          · subst c32
            rw [if_pos rfl] at H
            replace H := Option.bind_eq_some_iff.1 H
            obtain ⟨t600, Hc330, H⟩ := H
            try dsimp only at H
            have Hc33 := Aside0.mk Hc330
            clear Hc330
            by_cases c34 : t600 = true
            · subst c34
              rw [if_pos rfl] at H
              by_cases c35 : x9_0 = t595
              · rw [if_pos c35] at H
                have c35b0 : (x9_0 == t595) = true := beq_iff_eq.mpr c35
                have c35b1 : (x9_0 != t595) = false := bne_eq_false_iff_eq.mpr c35
                clear c35
                replace H := Option.bind_eq_some_iff.1 H
                obtain ⟨⟨t601, t602, t605⟩, Hc360, H⟩ := H
                try dsimp only at H
                have Hc36 := Aside0.mk Hc360
                clear Hc360
                replace H := Option.bind_eq_some_iff.1 H
                obtain ⟨⟨t606, t607, t610⟩, Hc370, H⟩ := H
                try dsimp only at H
                have Hc37 := Aside0.mk Hc370
                clear Hc370
                by_cases c38 : t601 = t606
                · rw [if_pos c38] at H
                  have c38b0 : (t601 == t606) = true := beq_iff_eq.mpr c38
                  have c38b1 : (t601 != t606) = false := bne_eq_false_iff_eq.mpr c38
                  clear c38
                  replace H := Option.bind_eq_some_iff.1 H
                  obtain ⟨⟨t611, t612, t615⟩, Hc390, H⟩ := H
                  try dsimp only at H
                  have Hc39 := Aside0.mk Hc390
                  clear Hc390
                  replace H := Option.bind_eq_some_iff.1 H
                  obtain ⟨⟨t616, t617, t620⟩, Hc400, H⟩ := H
                  try dsimp only at H
                  have Hc40 := Aside0.mk Hc400
                  clear Hc400
                  by_cases c41 : (t611 == t616) = true
                  · rw [if_pos c41] at H
                    have c41b0 : (t611 == t616) = true := c41
                    (try (have c41b1 : decide (t611 = t616) = true := by simpa using c41))
                    (try (have c41b2 : (t611 == t616) = true := by simpa using c41))
                    clear c41
                    obtain rfl := Option.some.inj H
                    go_wp2_with (first | ((with_reducible refine gate_dst (N := 75) rfl ?_); refine goesL_ (some 75) rfl rfl Try.func10 (by kernel_rfl) rfl #[.pointer (some ⟨g3000040, 0, none⟩), .slice Ax7_0 x7_0.length cx7_0] rfl (by (try simp only [List.map_toArray, List.map_cons, List.map_nil]); first | done | rfl | (simp; done)) ?_; have hs0_ := (SL.get3 (SL.get3 (SL.get3 HS.out))); obtain ⟨U1_, hfU1_, hsub1_, hs1_, hro1_, hback1_⟩ := SL.lend (HF.out.keep HK.out) hs0_ (p := fun w_ => Kd.C (Kd.int .u8) w_ Ax7_0 x7_0.length x7_0) (fun w_ T_ h_ => (Qs_c h_).2.2); (with_reducible refine (frame_Feed_Push.slcalls k1 _ _ _ _ _ _ _ _ _ _ _ _ _ _ _ hfU1_ hs1_ hro1_ (SL.row_c (SL.get1 HS.out)).2.1 Hc31.out).mono ?_); rintro e_ w42 ⟨Az3000043, cz3000043, A597, c598, rfl, hsr_, hkr_⟩; refine ⟨_, rfl, ?_⟩; have n1_ := Aside0.mk (HK.out.trans (Keep.sub hkr_ (fun k_ h_ => hsub1_ k_ h_))); have n2_ := Aside0.mk ((hback1_ _ _ hkr_ hsr_)); clear HK HS; have HK := n1_; have HS := n2_; clear n1_ n2_) | ((with_reducible refine gate_dst (N := 82) rfl ?_); (try (refine gate_guard (by rfl) ?_; dsimp only)); refine goesL_ (some 82) rfl rfl Try.func12 (by kernel_rfl) rfl #[.slice Ax8_0 x8_0.length cx8_0, .slice Az3000043 t594.length cz3000043] rfl (by (try simp only [List.map_toArray, List.map_cons, List.map_nil]); first | done | rfl | (simp; done)) ?_; (with_reducible refine (barrowref04_Same.calls k1 _ _ _ _ _ _ _ _ (rows_c (d := (Kd.slice 5 (Kd.int .u8))) reads_inn rfl (SL.get4 HS.out)).2.2 (rows_c (d := (Kd.slice 5 (Kd.int .u8))) reads_inn rfl (SL.get4 HS.out)).2.1 (rows_c (d := (Kd.slice 5 (Kd.int .u8))) reads_inn rfl (SL.get3 HS.out)).2.2 (rows_c (d := (Kd.slice 5 (Kd.int .u8))) reads_inn rfl (SL.get3 HS.out)).2.1 Hc33.out).mono ?_); rintro e_ w43 ⟨rfl, hb_⟩; refine ⟨_, rfl, ?_⟩; replace hb_ := Drawn0.below hb_; have n1_ := Aside0.mk (HK.out.trans (Keep.below hb_)); have n2_ := Aside0.mk (HS.out.below hb_); clear HK HS; have HK := n1_; have HS := n2_; clear n1_ n2_) | ((with_reducible refine gate_dst (N := 91) rfl ?_); (try (refine gate_guard (by rfl) ?_; dsimp only)); refine goesL_ (some 91) rfl rfl Try.func13 (by kernel_rfl) rfl #[.pointer (some ⟨g3000038, 0, none⟩)] rfl (by (try simp only [List.map_toArray, List.map_cons, List.map_nil]); first | done | rfl | (simp; done)) ?_; have hs0_ := (SL.get6 (SL.get6 HS.out)); (with_reducible refine (frame_Feed_Waits.slcalls _ _ _ _ _ _ _ _ _ _ _ (HF.out.keep HK.out) hs0_  Hc36.out).mono ?_); rintro e_ w44 ⟨A603, c604, rfl, hsr_, hkr_⟩; refine ⟨_, rfl, ?_⟩; have n1_ := Aside0.mk (HK.out.trans hkr_); have n2_ := Aside0.mk (hsr_); clear HK HS; have HK := n1_; have HS := n2_; clear n1_ n2_) | ((with_reducible refine gate_dst (N := 93) rfl ?_); (try (refine gate_guard (by rfl) ?_; dsimp only)); refine goesL_ (some 93) rfl rfl Try.func13 (by kernel_rfl) rfl #[.pointer (some ⟨g3000040, 0, none⟩)] rfl (by (try simp only [List.map_toArray, List.map_cons, List.map_nil]); first | done | rfl | (simp; done)) ?_; have hs0_ := (SL.get4 (SL.get4 HS.out)); (with_reducible refine (frame_Feed_Waits.slcalls _ _ _ _ _ _ _ _ _ _ _ (HF.out.keep HK.out) hs0_  Hc37.out).mono ?_); rintro e_ w45 ⟨A608, c609, rfl, hsr_, hkr_⟩; refine ⟨_, rfl, ?_⟩; have n1_ := Aside0.mk (HK.out.trans hkr_); have n2_ := Aside0.mk (hsr_); clear HK HS; have HK := n1_; have HS := n2_; clear n1_ n2_) | ((with_reducible refine gate_dst (N := 98) rfl ?_); (try (refine gate_guard (by rfl) ?_; dsimp only)); refine goesL_ (some 98) rfl rfl Try.func14 (by kernel_rfl) rfl #[.pointer (some ⟨g3000038, 0, none⟩)] rfl (by (try simp only [List.map_toArray, List.map_cons, List.map_nil]); first | done | rfl | (simp; done)) ?_; have hs0_ := (SL.get3 (SL.get3 HS.out)); (with_reducible refine (frame_Feed_Dead.slcalls _ _ _ _ _ _ _ _ _ _ _ (HF.out.keep HK.out) hs0_  Hc39.out).mono ?_); rintro e_ w46 ⟨A613, c614, rfl, hsr_, hkr_⟩; refine ⟨_, rfl, ?_⟩; have n1_ := Aside0.mk (HK.out.trans hkr_); have n2_ := Aside0.mk (hsr_); clear HK HS; have HK := n1_; have HS := n2_; clear n1_ n2_) | ((with_reducible refine gate_dst (N := 100) rfl ?_); (try (refine gate_guard (by rfl) ?_; dsimp only)); refine goesL_ (some 100) rfl rfl Try.func14 (by kernel_rfl) rfl #[.pointer (some ⟨g3000040, 0, none⟩)] rfl (by (try simp only [List.map_toArray, List.map_cons, List.map_nil]); first | done | rfl | (simp; done)) ?_; have hs0_ := (SL.get3 (SL.get3 HS.out)); (with_reducible refine (frame_Feed_Dead.slcalls _ _ _ _ _ _ _ _ _ _ _ (HF.out.keep HK.out) hs0_  Hc40.out).mono ?_); rintro e_ w47 ⟨A618, c619, rfl, hsr_, hkr_⟩; refine ⟨_, rfl, ?_⟩; have n1_ := Aside0.mk (HK.out.trans hkr_); have n2_ := Aside0.mk (hsr_); clear HK HS; have HK := n1_; have HS := n2_; clear n1_ n2_))
                    go_ret
                    have n2_ := Aside0.mk (SL.tail (SL.tail (SL.tail (SL.tail (SL.tail (SL.tail (SL.tail HS.out)))))))
                    clear HS
                    have HS := n2_
                    clear n2_
                    unfold barrowlaw04_FrameParts.Post
                    exact ⟨by first | rfl | (simp; done) | (simp [*]; done), HS.out, HK.out⟩
                  · rw [if_neg c41] at H
                    exact absurd H (by simp)
                · rw [if_neg c38] at H
                  exact absurd H (by simp)
              · rw [if_neg c35] at H
                exact absurd H (by simp)
            · replace c34 := Bool.eq_false_iff.mpr c34
              subst c34
              rw [if_neg (show ¬ (false = true) by decide)] at H
              exact absurd H (by simp)
          · replace c32 := Bool.eq_false_iff.mpr c32
            subst c32
            rw [if_neg (show ¬ (false = true) by decide)] at H
            exact absurd H (by simp)
  · replace c5 := Bool.eq_false_iff.mpr c5
    subst c5
    rw [if_neg (show ¬ (false = true) by decide)] at H
    by_cases c48 : t497 = true
    · subst c48
      rw [if_pos rfl] at H
      obtain rfl := Option.some.inj H
      go_enter Try.func4, Try.ntmps4
      go_wp2_with (first | ((with_reducible refine gate_dst (N := 15) rfl ?_); refine goesL_ (some 15) rfl rfl Try.func7 (by kernel_rfl) rfl #[] rfl (by (try simp only [List.map_toArray, List.map_cons, List.map_nil]); first | done | rfl | (simp; done)) ?_; have hs0_ := HS.out; (with_reducible refine (barrowlaw04_small.slcalls k _ _ _ _ (HF.out.keep HK.out) hs0_  Hc1.out).mono ?_); rintro e_ w49 ⟨rfl, hsr_, hkr_⟩; refine ⟨_, rfl, ?_⟩; have n1_ := Aside0.mk (HK.out.trans hkr_); have n2_ := Aside0.mk (hsr_); clear HK HS; have HK := n1_; have HS := n2_; clear n1_ n2_) | ((with_reducible refine gate_dst (N := 17) rfl ?_); refine goesL_ (some 17) rfl rfl Try.func8 (by kernel_rfl) rfl #[.slice A0 l0.length c0] rfl (by (try simp only [List.map_toArray, List.map_cons, List.map_nil]); first | done | rfl | (simp; done)) ?_; (with_reducible refine (barrowlaw04_few.calls k _ _ _ _ _ (RO.at_ HR0.out HK.out) HC0.out Hc2.out).mono ?_); rintro e_ w50 ⟨rfl, hb_⟩; refine ⟨_, rfl, ?_⟩; replace hb_ := Drawn0.below hb_; have n1_ := Aside0.mk (HK.out.trans (Keep.below hb_)); have n2_ := Aside0.mk (HS.out.below hb_); clear HK HS; have HK := n1_; have HS := n2_; clear n1_ n2_) | ((with_reducible refine gate_dst (N := 18) rfl ?_); refine goesL_ (some 18) rfl rfl Try.func9 (by kernel_rfl) rfl #[] rfl (by (try simp only [List.map_toArray, List.map_cons, List.map_nil]); first | done | rfl | (simp; done)) ?_; have hs0_ := HS.out; (with_reducible refine (frame_New.slcalls _ _ _ _ _ (HF.out.keep HK.out) hs0_  Hc3.out).mono ?_); rintro e_ w51 ⟨Az3000039, cz3000039, g3000038, rfl, hsr_, hkr_⟩; refine ⟨_, rfl, ?_⟩; have n1_ := Aside0.mk (HK.out.trans hkr_); have n2_ := Aside0.mk (hsr_); clear HK HS; have HK := n1_; have HS := n2_; clear n1_ n2_) | ((with_reducible refine gate_dst (N := 19) rfl ?_); refine goesL_ (some 19) rfl rfl Try.func9 (by kernel_rfl) rfl #[] rfl (by (try simp only [List.map_toArray, List.map_cons, List.map_nil]); first | done | rfl | (simp; done)) ?_; have hs0_ := HS.out; (with_reducible refine (frame_New.slcalls _ _ _ _ _ (HF.out.keep HK.out) hs0_  Hc4.out).mono ?_); rintro e_ w52 ⟨Az3000041, cz3000041, g3000040, rfl, hsr_, hkr_⟩; refine ⟨_, rfl, ?_⟩; have n1_ := Aside0.mk (HK.out.trans hkr_); have n2_ := Aside0.mk (hsr_); clear HK HS; have HK := n1_; have HS := n2_; clear n1_ n2_))
      go_ret
      have n2_ := Aside0.mk (SL.tail (SL.tail (SL.tail (SL.tail HS.out))))
      clear HS
      have HS := n2_
      clear n2_
      unfold barrowlaw04_FrameParts.Post
      exact ⟨by first | rfl | (simp; done) | (simp [*]; done), HS.out, HK.out⟩
    · replace c48 := Bool.eq_false_iff.mpr c48
      subst c48
      rw [if_neg (show ¬ (false = true) by decide)] at H
      exact absurd H (by simp)
theorem barrowlaw04_FrameParts.calls (k : Nat) (A0 : Option Addr) (c0 : Nat) (l0 : List (List Int)) (r : Bool) (w : World) (hr0 : Kd.C (Kd.slice 5 (Kd.int .u8)) w A0 l0.length l0) (hc0 : l0.length ≤ c0) (h : barrowlaw04_FrameParts.f k l0 = some r) :
    Calls Try.prog 4 #[.slice A0 l0.length c0] w fun e w' => e = .returned (.bool r) ∧ Below w.heap.size w w' :=
  (barrowlaw04_FrameParts.slcalls k A0 c0 l0 r (news w) [] w (fresh_news w) trivial (RO.top hr0) hc0 h).mono fun _ _ h => ⟨h.1, h.2.2.to_below⟩

/-- THE ONE PURE STATEMENT of barrowlaw04_FrameParts. -/
def barrowlaw04_FrameParts.Pure : Prop := ∀ (l0 : List (List Int)), (l0.length ≤ maxLen ∧ l0.length * 24 ≤ 140737488351232 ∧ ∀ x621_ ∈ l0, x621_.length ≤ maxLen ∧ x621_.length * 1 ≤ 140737488351232 ∧ ∀ x622_ ∈ x621_, (Lit.int .u8 x622_).wf = true) → ∃ k, barrowlaw04_FrameParts.f k l0 = some true

end Go.Proofs.Ytdlpijeceigbnaa.XFR
