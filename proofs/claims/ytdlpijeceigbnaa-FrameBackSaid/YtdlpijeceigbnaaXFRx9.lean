-- Written by xprint.py (a program of this session) for this claim
import Derived.Test.YtdlpijeceigbnaaXFRx0
import Derived.Test.YtdlpijeceigbnaaXFRx1
import Derived.Test.YtdlpijeceigbnaaXFRx2
import Derived.Test.YtdlpijeceigbnaaXFRx4
import Derived.Test.YtdlpijeceigbnaaXFRx5
import Derived.Test.YtdlpijeceigbnaaXFRx6
namespace Go.Proofs.Ytdlpijeceigbnaa.XFR
open Go.Proofs.YtdlpijeceigbnaaV Go.Proofs.YtdlpijeceigbnaaS
open Go.RowKit Go.Proofs.YtdlpijeceigbnaaW.PrintWords Go.Proofs.YtdlpijeceigbnaaW.PrintLast Go.Proofs.YtdlpijeceigbnaaW.PrintMore
attribute [local go_sem] max2_int min2_int max_two min_two max_three min_three max_four min_four   -- for this text's walks alone
set_option linter.unusedVariables false
set_option linter.unusedSimpArgs false

/-! ### barrowlaw04_FrameBack: function 5 -/
def barrowlaw04_FrameBack.l0 : Nat → (List (List Int)) → Int → Bool → (List Int) → Bool → (List Int) → Int → Option (Bool)
  | 0, _, _, _, _, _, _, _ => none
  | k + 1, l0, a1, t625, t627, t628, x8_0, x9_0 => if x9_0 < (l0.length : Int) then (if 0 ≤ x9_0 then ((some (rd_L1 l0 x9_0 : List Int)).bind fun y630 => ((frame_Wrap.f k y630).bind fun bt631 => (if bt631.2 = 0 then (if x8_0.length + bt631.1.length < 140737488355328 then ((some (x8_0 ++ bt631.1 : List Int)).bind fun y633 => (barrowlaw04_FrameBack.l0 k l0 a1 t625 t627 t628 y633 (wrap64 (x9_0 + 1)))) else (none)) else (if t625 = true then ((some (rd_L1 l0 x9_0 : List Int)).bind fun y637 => (if (y637.length : Int) > 4096 then (if (bt631.1.length : Int) = 0 then (some true) else (none)) else (none))) else (none))))) else (none)) else ((some (mx a1 0 : Int)).bind fun j638 => ((some (mn j638 (x8_0.length : Int) : Int)).bind fun j639 => (if 0 ≤ j639 then (if j639 ≤ (x8_0.length : Int) then ((some (x8_0.take (j639).toNat : List Int)).bind fun y640 => ((frame_Feed_Push.f k t627 t628 y640).bind fun bt644 => ((some (x8_0.drop (j639).toNat : List Int)).bind fun y650 => ((frame_Feed_Push.f k bt644.2.2.1 bt644.2.2.2 y650).bind fun bt654 => (if t625 = true then (if bt644.2.1 = 0 then (if bt654.2.1 = 0 then (if bt644.1.length + bt654.1.length < 5864062014805 then ((some (bt644.1 ++ bt654.1 : List (List Int))).bind fun y660 => ((barrowref04_Same.f k y660 l0).bind fun t663 => (if t663 = true then ((frame_Feed_Waits.f bt654.2.2.1 bt654.2.2.2).bind fun bt664 => (if bt664.1 = 0 then ((frame_Feed_Dead.f bt664.2.1 bt664.2.2).bind fun bt669 => (if bt669.1 = true then (none) else (some true))) else (none))) else (none)))) else (none)) else (none)) else (none)) else (none)))))) else (none)) else (none))))
def barrowlaw04_FrameBack.f (k : Nat) (l0 : List (List Int)) (a1 : Int) : Option (Bool) := (barrowlaw04_small.f k).bind fun t625 => ((barrowlaw04_few.f k l0).bind fun t626 => ((frame_New.f).bind fun bt627 => (if t626 = true then (barrowlaw04_FrameBack.l0 k l0 a1 t625 bt627.1 bt627.2 ([] : List Int) 0) else (if t625 = true then (some true) else (none)))))
theorem barrowlaw04_FrameBack.mono_l : ∀ k, (∀ y0 y1 y2 y3 y4 y5 y6, LeO (barrowlaw04_FrameBack.l0 k y0 y1 y2 y3 y4 y5 y6) (barrowlaw04_FrameBack.l0 (k + 1) y0 y1 y2 y3 y4 y5 y6))
  | 0 => fun _ _ _ _ _ _ _ r h => by simp [barrowlaw04_FrameBack.l0] at h
  | k + 1 => by
    have ih0 := barrowlaw04_FrameBack.mono_l k
    · intro y0 y1 y2 y3 y4 y5 y6
      unfold barrowlaw04_FrameBack.l0
      repeat' first
      | (with_reducible exact ih0 _ _ _ _ _ _ _)
      | (with_reducible exact barrowlaw04_few.mono _ _)
      | (with_reducible exact barrowlaw04_small.mono _)
      | (with_reducible exact barrowref04_Same.mono _ _ _)
      | (with_reducible exact frame_Feed_Push.mono _ _ _ _)
      | (with_reducible exact frame_Wrap.mono _ _)
      | (with_reducible exact LeO.refl _)
      | (with_reducible exact LeO.none _)
      | (with_reducible refine LeO.ite ?_ ?_)
      | (with_reducible refine LeO.bind ?_ (fun _ => ?_))
      | exact ih0 _ _ _ _ _ _ _
      | exact barrowlaw04_few.mono _ _
      | exact barrowlaw04_small.mono _
      | exact barrowref04_Same.mono _ _ _
      | exact frame_Feed_Push.mono _ _ _ _
      | exact frame_Wrap.mono _ _
      | exact LeO.none _
      | refine LeO.ite ?_ ?_
      | refine LeO.bind ?_ (fun _ => ?_)
theorem barrowlaw04_FrameBack.mono : ∀ a0 a1 k, LeO (barrowlaw04_FrameBack.f k a0 a1) (barrowlaw04_FrameBack.f (k + 1) a0 a1) := by
  intro a0 a1 k
  have ih0 := barrowlaw04_FrameBack.mono_l k
  unfold barrowlaw04_FrameBack.f
  repeat' first
      | (with_reducible exact ih0 _ _ _ _ _ _ _)
      | (with_reducible exact barrowlaw04_few.mono _ _)
      | (with_reducible exact barrowlaw04_small.mono _)
      | (with_reducible exact barrowref04_Same.mono _ _ _)
      | (with_reducible exact frame_Feed_Push.mono _ _ _ _)
      | (with_reducible exact frame_Wrap.mono _ _)
      | (with_reducible exact LeO.refl _)
      | (with_reducible exact LeO.none _)
      | (with_reducible refine LeO.ite ?_ ?_)
      | (with_reducible refine LeO.bind ?_ (fun _ => ?_))
      | exact ih0 _ _ _ _ _ _ _
      | exact barrowlaw04_few.mono _ _
      | exact barrowlaw04_small.mono _
      | exact barrowref04_Same.mono _ _ _
      | exact frame_Feed_Push.mono _ _ _ _
      | exact frame_Wrap.mono _ _
      | exact LeO.none _
      | refine LeO.ite ?_ ?_
      | refine LeO.bind ?_ (fun _ => ?_)
def barrowlaw04_FrameBack.Post (r : Bool) (S : Nat → Prop) (L : List Asr) (w : World) (e : Ending) (w' : World) : Prop := e = .returned (.bool r) ∧ SL (L) w' S ∧ Keep S w w'
set_option maxHeartbeats 8000000 in
set_option maxRecDepth 100000 in
theorem barrowlaw04_FrameBack.slcalls (k : Nat) (A0 : Option Addr) (c0 : Nat) (l0 : List (List Int)) (a1 : Int) (r : Bool) (S : Nat → Prop) (L : List Asr) (w : World) (hf : Fresh S w) (hs : SL (L) w S) (hr0 : RO S w (fun w_ => Kd.C (Kd.slice 5 (Kd.int .u8)) w_ A0 l0.length l0)) (hc0 : l0.length ≤ c0) (h : barrowlaw04_FrameBack.f k l0 a1 = some r) :
    Calls Try.prog 5 #[.slice A0 l0.length c0, .int .i64 a1] w (barrowlaw04_FrameBack.Post r S L w) := by
  have HR0 := Aside0.mk hr0
  have HC0 := Aside0.mk hc0
  clear hr0 hc0
  have HF := Aside0.mk hf
  have HS := Aside0.mk hs
  have HK := Aside0.mk (Keep.refl S w)
  clear hf hs
  have H : ((barrowlaw04_small.f k).bind fun t625 => ((barrowlaw04_few.f k l0).bind fun t626 => ((frame_New.f).bind fun bt627 => (if t626 = true then (barrowlaw04_FrameBack.l0 k l0 a1 t625 bt627.1 bt627.2 ([] : List Int) 0) else (if t625 = true then (some true) else (none)))))) = some r := h
  clear h
  replace H := Option.bind_eq_some_iff.1 H
  obtain ⟨t625, Hc10, H⟩ := H
  try dsimp only at H
  have Hc1 := Aside0.mk Hc10
  clear Hc10
  replace H := Option.bind_eq_some_iff.1 H
  obtain ⟨t626, Hc20, H⟩ := H
  try dsimp only at H
  have Hc2 := Aside0.mk Hc20
  clear Hc20
  replace H := Option.bind_eq_some_iff.1 H
  obtain ⟨⟨t627, t628⟩, Hc30, H⟩ := H
  try dsimp only at H
  have Hc3 := Aside0.mk Hc30
  clear Hc30
  by_cases c4 : t626 = true
  · subst c4
    rw [if_pos rfl] at H
    have H' := Aside0.mk H
    clear H
    go_enter Try.func5, Try.ntmps5
    go_wp2_with (first | ((with_reducible refine gate_dst (N := 17) rfl ?_); refine goesL_ (some 17) rfl rfl Try.func7 (by kernel_rfl) rfl #[] rfl (by (try simp only [List.map_toArray, List.map_cons, List.map_nil]); first | done | rfl | (simp; done)) ?_; have hs0_ := HS.out; (with_reducible refine (barrowlaw04_small.slcalls k _ _ _ _ (HF.out.keep HK.out) hs0_  Hc1.out).mono ?_); rintro e_ w5 ⟨rfl, hsr_, hkr_⟩; refine ⟨_, rfl, ?_⟩; have n1_ := Aside0.mk (HK.out.trans hkr_); have n2_ := Aside0.mk (hsr_); clear HK HS; have HK := n1_; have HS := n2_; clear n1_ n2_) | ((with_reducible refine gate_dst (N := 19) rfl ?_); refine goesL_ (some 19) rfl rfl Try.func8 (by kernel_rfl) rfl #[.slice A0 l0.length c0] rfl (by (try simp only [List.map_toArray, List.map_cons, List.map_nil]); first | done | rfl | (simp; done)) ?_; (with_reducible refine (barrowlaw04_few.calls k _ _ _ _ _ (RO.at_ HR0.out HK.out) HC0.out Hc2.out).mono ?_); rintro e_ w6 ⟨rfl, hb_⟩; refine ⟨_, rfl, ?_⟩; replace hb_ := Drawn0.below hb_; have n1_ := Aside0.mk (HK.out.trans (Keep.below hb_)); have n2_ := Aside0.mk (HS.out.below hb_); clear HK HS; have HK := n1_; have HS := n2_; clear n1_ n2_) | ((with_reducible refine gate_dst (N := 20) rfl ?_); refine goesL_ (some 20) rfl rfl Try.func9 (by kernel_rfl) rfl #[] rfl (by (try simp only [List.map_toArray, List.map_cons, List.map_nil]); first | done | rfl | (simp; done)) ?_; have hs0_ := HS.out; (with_reducible refine (frame_New.slcalls _ _ _ _ _ (HF.out.keep HK.out) hs0_  Hc3.out).mono ?_); rintro e_ w7 ⟨Az3000047, cz3000047, g3000046, rfl, hsr_, hkr_⟩; refine ⟨_, rfl, ?_⟩; have n1_ := Aside0.mk (HK.out.trans hkr_); have n2_ := Aside0.mk (hsr_); clear HK HS; have HK := n1_; have HS := n2_; clear n1_ n2_; have n2_ := Aside0.mk (SL.nil_row (Kd.int .u8) 5 HS.out); clear HS; have HS := n2_; clear n2_))
    have n2_ := Aside0.mk (SL.get2 (SL.get2 (SL.get2 HS.out)))
    clear HS
    have HS := n2_
    clear n2_
    go_loopg [8, 9] k (fun kq v8 v9 w' => ∃ (x8_0 : List Int) (Ax8_0 : Option Addr) (cx8_0 : Nat) (x9_0 : Int), v8 = .slice Ax8_0 x8_0.length cx8_0 ∧ v9 = .int .i64 x9_0 ∧ Aside0 (barrowlaw04_FrameBack.l0 kq l0 a1 t625 t627 t628 x8_0 x9_0 = some r) ∧ Aside0 (kq ≤ k) ∧ Aside0 (SL (row (Kd.int .u8) 5 (.slice Ax8_0 x8_0.length cx8_0) x8_0 :: cells g3000046 41 [.slice Az3000047 t627.length cz3000047, .bool t628].toArray :: row (Kd.int .u8) 5 (.slice Az3000047 t627.length cz3000047) t627 :: L) w' S) ∧ Aside0 (Keep S w w'))
    case atStart => exact ⟨(([] : List Int)), (none), (0), (0), (by first | rfl | (simp; done) | (simp [*]; done)), (by first | rfl | (simp; done) | (simp [*]; done)), H', ⟨Nat.le_refl _⟩, HS, HK⟩
    case round =>
      clear H' HS HK
      obtain ⟨x8_0, Ax8_0, cx8_0, x9_0, rfl, rfl, HA, HQ1, HS, HK⟩ := hrel
      cases gk with
      | zero => exact absurd HA.out (by simp [barrowlaw04_FrameBack.l0])
      | succ k1 =>
        have H := HA.out
        clear HA
        simp only [barrowlaw04_FrameBack.l0] at H
        by_cases c8 : x9_0 < (l0.length : Int)
        · rw [if_pos c8] at H
          have c8b0 : decide (x9_0 < (l0.length : Int)) = true := decide_eq_true c8
          clear c8
          by_cases c9 : 0 ≤ x9_0
          · rw [if_pos c9] at H
            have c9b0 : decide (0 ≤ x9_0) = true := decide_eq_true c9
            clear c9
            replace H := Option.bind_eq_some_iff.1 H
            obtain ⟨y630, hy6300, H⟩ := H
            try dsimp only at H
            have hy630 := Option.some.inj hy6300
            clear hy6300
            have Ny630 := Aside0.mk hy630
            clear hy630
            replace H := Option.bind_eq_some_iff.1 H
            obtain ⟨⟨t631, t632⟩, Hc100, H⟩ := H
            try dsimp only at H
            have Hc10 := Aside0.mk Hc100
            clear Hc100
            by_cases c11 : t632 = 0
            · rw [if_pos c11] at H
              have c11b0 : (t632 == 0) = true := beq_iff_eq.mpr c11
              have c11b1 : (t632 != 0) = false := bne_eq_false_iff_eq.mpr c11
              clear c11
              by_cases c12 : x8_0.length + t631.length < 140737488355328
              · rw [if_pos c12] at H
                have LMc12 := Aside0.mk c12
                clear c12
                replace H := Option.bind_eq_some_iff.1 H
                obtain ⟨y633, hy6330, H⟩ := H
                try dsimp only at H
                have hy633 := Option.some.inj hy6330
                clear hy6330
                have Ny633 := Aside0.mk hy633
                clear hy633
                have H' := Aside0.mk H
                clear H
                have pq629 : 0 ≤ (x9_0 : Int) := of_decide_eq_true (by first | (with_reducible assumption) | assumption)
                have qq629 : x9_0 < ((l0.length : Int) : Int) := of_decide_eq_true (by first | (with_reducible assumption) | assumption)
                obtain ⟨adq629, Aq629_0, cq629_0, eq629, hxxq629, hiq629, hlq629⟩ := RO.inner HR0.out x9_0 pq629 qq629 y630 Ny630.out
                have hxq629_0 := hxxq629 _ HK.out
                clear hxxq629
                have HRq629_0 := Aside0.mk hiq629
                have HCq629_0 := Aside0.mk hlq629
                clear hiq629 hlq629
                cases eq629
                replace pq629 := eq_true pq629
                replace qq629 := eq_true qq629
                go_wp2_with (first | ((with_reducible refine gate_dst (N := 43) rfl ?_); refine goesL_ (some 43) rfl rfl Try.func15 (by kernel_rfl) rfl #[.slice Aq629_0 y630.length cq629_0] rfl (by (try simp only [List.map_toArray, List.map_cons, List.map_nil]); first | done | rfl | (simp; done)) ?_; (with_reducible refine (frame_Wrap.calls k1 _ _ _ _ _ _ (RO.at_ HRq629_0.out HK.out) HCq629_0.out Hc10.out).mono ?_); rintro e_ w13 ⟨v3000048_, rfl, ho3000048_, hb_⟩; refine ⟨_, rfl, ?_⟩; have hs_ := (SL.new (HF.out.keep HK.out) HS.out hb_ (row_of_R ho3000048_)).1; obtain ⟨Az3000048, cz3000048, e2_, _, _⟩ := SL.row_reads hs_; subst e2_; have n1_ := Aside0.mk (HK.out.trans (Keep.below hb_)); have n2_ := Aside0.mk (hs_); clear HK HS; have HK := n1_; have HS := n2_; clear n1_ n2_) | ((with_reducible refine gate_dst (N := 64) rfl ?_); refine wpList_plain rfl (fun K_ hK_ => ?_); refine op_append (S := S) (enc := Value.int .u8) (h1 := fun _ => rfl) 0 (.tmp 62) (.tmp 63) 23 5 (.int .u8 0) 1 rfl Try.underlying23 info5 rfl (by decide) (.slice Ax8_0 x8_0.length cx8_0) rfl rfl (HF.out.keep HK.out) (SL.get1 HS.out) (SL.row_c HS.out).2.2 (by have := LMc12.out; have e_ := (SL.row_c HS.out).1; omega) y633 Ny633.out ?_; intro A634 c635 w14 hs_ hk_; refine hK_ _ _ ?_; clear hK_ K_; have n1_ := Aside0.mk (HK.out.trans hk_); have n2_ := Aside0.mk ((SL.back1 (show SL (row (Kd.int .u8) 5 (.slice A634 y633.length c635) y633 :: _) _ _ from hs_))); clear HK HS; have HK := n1_; have HS := n2_; clear n1_ n2_))
                have n2_ := Aside0.mk (SL.get2 (SL.get2 (SL.get2 (SL.tail HS.out))))
                clear HS
                have HS := n2_
                clear n2_
                go_roundg k1
                case measure => have := HQ1.out; omega
                case rel => exact ⟨(y633), (A634), (c635), (wrap64 (x9_0 + 1)), (by first | rfl | (simp; done) | (simp [*]; done)), (by first | rfl | (simp; done) | (simp [*]; done)), H', ⟨by have := HQ1.out; omega⟩, HS, HK⟩
              · rw [if_neg c12] at H
                exact absurd H (by simp)
            · rw [if_neg c11] at H
              have c11b0 : (t632 == 0) = false := beq_eq_false_iff_ne.mpr c11
              have c11b1 : (t632 != 0) = true := bne_iff_ne.mpr c11
              by_cases c15 : t625 = true
              · subst c15
                rw [if_pos rfl] at H
                replace H := Option.bind_eq_some_iff.1 H
                obtain ⟨y637, hy6370, H⟩ := H
                try dsimp only at H
                have hy637 := Option.some.inj hy6370
                clear hy6370
                have Ny637 := Aside0.mk hy637
                clear hy637
                by_cases c16 : (y637.length : Int) > 4096
                · rw [if_pos c16] at H
                  have c16b0 : decide (4096 < (y637.length : Int)) = true := decide_eq_true c16
                  have c16b1 : decide (4096 < y637.length) = true := decide_eq_true (by omega)
                  clear c16
                  by_cases c17 : (t631.length : Int) = 0
                  · rw [if_pos c17] at H
                    have c17b0 : ((t631.length : Int) == 0) = true := beq_iff_eq.mpr c17
                    have c17b1 : ((t631.length : Int) != 0) = false := bne_eq_false_iff_eq.mpr c17
                    clear c17
                    obtain rfl := Option.some.inj H
                    have pq629 : 0 ≤ (x9_0 : Int) := of_decide_eq_true (by first | (with_reducible assumption) | assumption)
                    have qq629 : x9_0 < ((l0.length : Int) : Int) := of_decide_eq_true (by first | (with_reducible assumption) | assumption)
                    obtain ⟨adq629, Aq629_0, cq629_0, eq629, hxxq629, hiq629, hlq629⟩ := RO.inner HR0.out x9_0 pq629 qq629 y630 Ny630.out
                    have hxq629_0 := hxxq629 _ HK.out
                    clear hxxq629
                    have HRq629_0 := Aside0.mk hiq629
                    have HCq629_0 := Aside0.mk hlq629
                    clear hiq629 hlq629
                    cases eq629
                    replace pq629 := eq_true pq629
                    replace qq629 := eq_true qq629
                    go_wp2_with (first | ((with_reducible refine gate_dst (N := 43) rfl ?_); refine goesL_ (some 43) rfl rfl Try.func15 (by kernel_rfl) rfl #[.slice Aq629_0 y630.length cq629_0] rfl (by (try simp only [List.map_toArray, List.map_cons, List.map_nil]); first | done | rfl | (simp; done)) ?_; (with_reducible refine (frame_Wrap.calls k1 _ _ _ _ _ _ (RO.at_ HRq629_0.out HK.out) HCq629_0.out Hc10.out).mono ?_); rintro e_ w18 ⟨v3000048_, rfl, ho3000048_, hb_⟩; refine ⟨_, rfl, ?_⟩; have hs_ := (SL.new (HF.out.keep HK.out) HS.out hb_ (row_of_R ho3000048_)).1; obtain ⟨Az3000048, cz3000048, e2_, _, _⟩ := SL.row_reads hs_; subst e2_; have n1_ := Aside0.mk (HK.out.trans (Keep.below hb_)); have n2_ := Aside0.mk (hs_); clear HK HS; have HK := n1_; have HS := n2_; clear n1_ n2_; have pq636 : 0 ≤ (x9_0 : Int) := of_decide_eq_true (by first | (with_reducible assumption) | assumption); have qq636 : x9_0 < ((l0.length : Int) : Int) := of_decide_eq_true (by first | (with_reducible assumption) | assumption); obtain ⟨adq636, Aq636_0, cq636_0, eq636, hxxq636, hiq636, hlq636⟩ := RO.inner HR0.out x9_0 pq636 qq636 y637 Ny637.out; have hxq636_0 := hxxq636 _ HK.out; clear hxxq636; have HRq636_0 := Aside0.mk hiq636; have HCq636_0 := Aside0.mk hlq636; clear hiq636 hlq636; obtain rfl : adq629 = adq636 := (by injection eq636); replace pq636 := eq_true pq636; replace qq636 := eq_true qq636))
                    go_ret
                    have n2_ := Aside0.mk (SL.tail (SL.tail (SL.tail (SL.tail HS.out))))
                    clear HS
                    have HS := n2_
                    clear n2_
                    unfold barrowlaw04_FrameBack.Post
                    exact ⟨by first | rfl | (simp; done) | (simp [*]; done), HS.out, HK.out⟩
                  · rw [if_neg c17] at H
                    exact absurd H (by simp)
                · rw [if_neg c16] at H
                  exact absurd H (by simp)
              · replace c15 := Bool.eq_false_iff.mpr c15
                subst c15
                rw [if_neg (show ¬ (false = true) by decide)] at H
                exact absurd H (by simp)
          · rw [if_neg c9] at H
            exact absurd H (by simp)
        · rw [if_neg c8] at H
          have c8b0 : decide (x9_0 < (l0.length : Int)) = false := decide_eq_false c8
          clear c8
          replace H := Option.bind_eq_some_iff.1 H
          obtain ⟨j638, hj6380, H⟩ := H
          try dsimp only at H
          have hj638 := Option.some.inj hj6380
          clear hj6380
          have hj638_ : (if a1 < 0 then 0 else a1) = j638 := hj638
          replace H := Option.bind_eq_some_iff.1 H
          obtain ⟨j639, hj6390, H⟩ := H
          try dsimp only at H
          have hj639 := Option.some.inj hj6390
          clear hj6390
          have hj639_ : (if (x8_0.length : Int) < j638 then (x8_0.length : Int) else j638) = j639 := hj639
          by_cases c19 : 0 ≤ j639
          · rw [if_pos c19] at H
            have c19b0 := eq_true c19
            have c19b1 : decide (0 ≤ j639) = true := decide_eq_true c19
            clear c19
            by_cases c20 : j639 ≤ (x8_0.length : Int)
            · rw [if_pos c20] at H
              have c20b0 := eq_true c20
              have c20b1 : decide (j639 ≤ (x8_0.length : Int)) = true := decide_eq_true c20
              clear c20
              replace H := Option.bind_eq_some_iff.1 H
              obtain ⟨y640, hy6400, H⟩ := H
              try dsimp only at H
              have hy640 := Option.some.inj hy6400
              clear hy6400
              have Ny640 := Aside0.mk hy640
              clear hy640
              replace H := Option.bind_eq_some_iff.1 H
              obtain ⟨⟨t644, t645, t646, t649⟩, Hc210, H⟩ := H
              try dsimp only at H
              have Hc21 := Aside0.mk Hc210
              clear Hc210
              replace H := Option.bind_eq_some_iff.1 H
              obtain ⟨y650, hy6500, H⟩ := H
              try dsimp only at H
              have hy650 := Option.some.inj hy6500
              clear hy6500
              have Ny650 := Aside0.mk hy650
              clear hy650
              replace H := Option.bind_eq_some_iff.1 H
              obtain ⟨⟨t654, t655, t656, t659⟩, Hc220, H⟩ := H
              try dsimp only at H
              have Hc22 := Aside0.mk Hc220
              clear Hc220
              by_cases c23 : t625 = true
              · subst c23
                rw [if_pos rfl] at H
                by_cases c24 : t645 = 0
                · rw [if_pos c24] at H
                  have c24b0 : (t645 == 0) = true := beq_iff_eq.mpr c24
                  have c24b1 : (t645 != 0) = false := bne_eq_false_iff_eq.mpr c24
                  clear c24
                  by_cases c25 : t655 = 0
                  · rw [if_pos c25] at H
                    have c25b0 : (t655 == 0) = true := beq_iff_eq.mpr c25
                    have c25b1 : (t655 != 0) = false := bne_eq_false_iff_eq.mpr c25
                    clear c25
                    by_cases c26 : t644.length + t654.length < 5864062014805
                    · rw [if_pos c26] at H
                      have LMc26 := Aside0.mk c26
                      clear c26
                      replace H := Option.bind_eq_some_iff.1 H
                      obtain ⟨y660, hy6600, H⟩ := H
                      try dsimp only at H
                      have hy660 := Option.some.inj hy6600
                      clear hy6600
                      have Ny660 := Aside0.mk hy660
                      clear hy660
                      replace H := Option.bind_eq_some_iff.1 H
                      obtain ⟨t663, Hc270, H⟩ := H
                      try dsimp only at H
                      have Hc27 := Aside0.mk Hc270
                      clear Hc270
                      by_cases c28 : t663 = true
                      · subst c28
                        rw [if_pos rfl] at H
                        replace H := Option.bind_eq_some_iff.1 H
                        obtain ⟨⟨t664, t665, t668⟩, Hc290, H⟩ := H
                        try dsimp only at H
                        have Hc29 := Aside0.mk Hc290
                        clear Hc290
                        by_cases c30 : t664 = 0
                        · rw [if_pos c30] at H
                          have c30b0 : (t664 == 0) = true := beq_iff_eq.mpr c30
                          have c30b1 : (t664 != 0) = false := bne_eq_false_iff_eq.mpr c30
                          clear c30
                          replace H := Option.bind_eq_some_iff.1 H
                          obtain ⟨⟨t669, t670, t673⟩, Hc310, H⟩ := H
                          try dsimp only at H
                          have Hc31 := Aside0.mk Hc310
                          clear Hc310
                          by_cases c32 : t669 = true
                          · subst c32
                            rw [if_pos rfl] at H
                            exact absurd H (by simp)
                          · replace c32 := Bool.eq_false_iff.mpr c32
                            subst c32
                            rw [if_neg (show ¬ (false = true) by decide)] at H
                            obtain rfl := Option.some.inj H
                            have hv_ := cut_upto (P := Try.prog) (Kd.int .u8) 23 5 .i64 .i64 Try.underlying23 (by kernel_rfl) rfl Ax8_0 x8_0.length cx8_0 x8_0 rfl (SL.row_c HS.out).2.1 j639 (of_decide_eq_true (by first | (with_reducible assumption) | assumption) : (0 : Int) ≤ (j639 : Int)) (of_decide_eq_true (by first | (with_reducible assumption) | assumption) : (j639 : Int) ≤ ((x8_0.length : Int) : Int)) y640 Ny640.out
                            obtain ⟨hcvq643, hcs_, hcc_, hcl_⟩ := hv_
                            have HVq643 := Aside0.mk (And.intro True.intro hcc_)
                            have HCq643 := Aside0.mk hcl_
                            clear hcs_ hcc_ hcl_
                            go_wp2_with (first | ((with_reducible refine gate_dst (N := 75) rfl ?_); refine goesL_ (some 75) rfl rfl Try.func10 (by kernel_rfl) rfl #[.pointer (some ⟨g3000046, 0, none⟩), .slice Ax8_0 y640.length cx8_0] rfl (by (try simp only [List.map_toArray, List.map_cons, List.map_nil]); first | done | rfl | (simp; done)) ?_; have hs0_ := (SL.get2 (SL.get2 (SL.get2 HS.out))); obtain ⟨U1_, hfU1_, hsub1_, hs1_, hro1_, hback1_⟩ := SL.lend (HF.out.keep HK.out) hs0_ (p := fun w_ => Kd.C (Kd.int .u8) w_ Ax8_0 x8_0.length x8_0) (fun w_ T_ h_ => (Qs_c h_).2.2); (with_reducible refine (frame_Feed_Push.slcalls k1 _ _ _ _ _ _ _ _ _ _ _ _ _ _ _ hfU1_ hs1_ (RO.imp hro1_ HVq643.out.2) HCq643.out Hc21.out).mono ?_); rintro e_ w33 ⟨Az3000049, cz3000049, A647, c648, rfl, hsr_, hkr_⟩; refine ⟨_, rfl, ?_⟩; have n1_ := Aside0.mk (HK.out.trans (Keep.sub hkr_ (fun k_ h_ => hsub1_ k_ h_))); have n2_ := Aside0.mk ((hback1_ _ _ hkr_ hsr_)); clear HK HS; have HK := n1_; have HS := n2_; clear n1_ n2_; obtain ⟨A651, c652, hcvq653, hcs_, hcc_, hcl_⟩ := cut_of (P := Try.prog) (Kd.int .u8) 23 5 .i64 .i64 Try.underlying23 (by kernel_rfl) rfl Ax8_0 x8_0.length cx8_0 x8_0 rfl (SL.row_c HS.out).2.1 j639 (of_decide_eq_true (by first | (with_reducible assumption) | assumption) : (0 : Int) ≤ (j639 : Int)) (of_decide_eq_true (by first | (with_reducible assumption) | assumption) : (j639 : Int) ≤ ((x8_0.length : Int) : Int)) y650 Ny650.out; have HVq653 := Aside0.mk (And.intro True.intro hcc_); have HCq653 := Aside0.mk hcl_; clear hcs_ hcc_ hcl_) | ((with_reducible refine gate_dst (N := 83) rfl ?_); refine goesL_ (some 83) rfl rfl Try.func10 (by kernel_rfl) rfl #[.pointer (some ⟨g3000046, 0, none⟩), .slice A651 y650.length c652] rfl (by (try simp only [List.map_toArray, List.map_cons, List.map_nil]); first | done | rfl | (simp; done)) ?_; have hs0_ := (SL.get2 (SL.get2 (SL.get2 HS.out))); obtain ⟨U1_, hfU1_, hsub1_, hs1_, hro1_, hback1_⟩ := SL.lend (HF.out.keep HK.out) hs0_ (p := fun w_ => Kd.C (Kd.int .u8) w_ Ax8_0 x8_0.length x8_0) (fun w_ T_ h_ => (Qs_c h_).2.2); (with_reducible refine (frame_Feed_Push.slcalls k1 _ _ _ _ _ _ _ _ _ _ _ _ _ _ _ hfU1_ hs1_ (RO.imp hro1_ HVq653.out.2) HCq653.out Hc22.out).mono ?_); rintro e_ w34 ⟨Az3000050, cz3000050, A657, c658, rfl, hsr_, hkr_⟩; refine ⟨_, rfl, ?_⟩; have n1_ := Aside0.mk (HK.out.trans (Keep.sub hkr_ (fun k_ h_ => hsub1_ k_ h_))); have n2_ := Aside0.mk ((hback1_ _ _ hkr_ hsr_)); clear HK HS; have HK := n1_; have HS := n2_; clear n1_ n2_) | ((with_reducible refine gate_dst (N := 98) rfl ?_); (try (refine gate_guard (by rfl) ?_; dsimp only)); have hs2_ := (SL.get4 (SL.get3 HS.out)); have e2_ := (rows_c (d := (Kd.slice 5 (Kd.int .u8))) reads_inn rfl (SL.tail hs2_)).1; refine wpList_plain rfl (fun K_ hK_ => ?_); refine op_appendR (S := S) (.tmp 96) (.tmp 97) 22 23 (.slice none 0 0) 24 rfl Try.underlying22 info23 rfl (by decide) (by decide) (.slice Az3000049 t644.length cz3000049) rfl rfl (HF.out.keep HK.out) hs2_ (by have := LMc26.out; omega) y660 Ny660.out ?_; intro A661 c662 w35 hs_ hk_; refine hK_ _ _ ?_; clear hK_ K_; clear hs2_ e2_; have n1_ := Aside0.mk (HK.out.trans hk_); have n2_ := Aside0.mk ((SL.back3 (show SL (rows (inn (Kd.int .u8) 5) 1 23 (.slice A661 y660.length c662) y660 :: _) _ _ from hs_))); clear HK HS; have HK := n1_; have HS := n2_; clear n1_ n2_) | ((with_reducible refine gate_dst (N := 100) rfl ?_); (try (refine gate_guard (by rfl) ?_; dsimp only)); refine goesL_ (some 100) rfl rfl Try.func12 (by kernel_rfl) rfl #[.slice A661 y660.length c662, .slice A0 l0.length c0] rfl (by (try simp only [List.map_toArray, List.map_cons, List.map_nil]); first | done | rfl | (simp; done)) ?_; (with_reducible refine (barrowref04_Same.calls k1 _ _ _ _ _ _ _ _ (rows_c (d := (Kd.slice 5 (Kd.int .u8))) reads_inn rfl (SL.get3 HS.out)).2.2 (rows_c (d := (Kd.slice 5 (Kd.int .u8))) reads_inn rfl (SL.get3 HS.out)).2.1 (RO.at_ HR0.out HK.out) HC0.out Hc27.out).mono ?_); rintro e_ w36 ⟨rfl, hb_⟩; refine ⟨_, rfl, ?_⟩; replace hb_ := Drawn0.below hb_; have n1_ := Aside0.mk (HK.out.trans (Keep.below hb_)); have n2_ := Aside0.mk (HS.out.below hb_); clear HK HS; have HK := n1_; have HS := n2_; clear n1_ n2_) | ((with_reducible refine gate_dst (N := 104) rfl ?_); (try (refine gate_guard (by rfl) ?_; dsimp only)); refine goesL_ (some 104) rfl rfl Try.func13 (by kernel_rfl) rfl #[.pointer (some ⟨g3000046, 0, none⟩)] rfl (by (try simp only [List.map_toArray, List.map_cons, List.map_nil]); first | done | rfl | (simp; done)) ?_; have hs0_ := (SL.get2 (SL.get2 HS.out)); (with_reducible refine (frame_Feed_Waits.slcalls _ _ _ _ _ _ _ _ _ _ _ (HF.out.keep HK.out) hs0_  Hc29.out).mono ?_); rintro e_ w37 ⟨A666, c667, rfl, hsr_, hkr_⟩; refine ⟨_, rfl, ?_⟩; have n1_ := Aside0.mk (HK.out.trans hkr_); have n2_ := Aside0.mk (hsr_); clear HK HS; have HK := n1_; have HS := n2_; clear n1_ n2_) | ((with_reducible refine gate_dst (N := 109) rfl ?_); (try (refine gate_guard (by rfl) ?_; dsimp only)); refine goesL_ (some 109) rfl rfl Try.func14 (by kernel_rfl) rfl #[.pointer (some ⟨g3000046, 0, none⟩)] rfl (by (try simp only [List.map_toArray, List.map_cons, List.map_nil]); first | done | rfl | (simp; done)) ?_; have hs0_ := (SL.get1 (SL.get1 HS.out)); (with_reducible refine (frame_Feed_Dead.slcalls _ _ _ _ _ _ _ _ _ _ _ (HF.out.keep HK.out) hs0_  Hc31.out).mono ?_); rintro e_ w38 ⟨A671, c672, rfl, hsr_, hkr_⟩; refine ⟨_, rfl, ?_⟩; have n1_ := Aside0.mk (HK.out.trans hkr_); have n2_ := Aside0.mk (hsr_); clear HK HS; have HK := n1_; have HS := n2_; clear n1_ n2_))
                            go_ret
                            have n2_ := Aside0.mk (SL.tail (SL.tail (SL.tail (SL.tail HS.out))))
                            clear HS
                            have HS := n2_
                            clear n2_
                            unfold barrowlaw04_FrameBack.Post
                            exact ⟨by first | rfl | (simp; done) | (simp [*]; done), HS.out, HK.out⟩
                        · rw [if_neg c30] at H
                          exact absurd H (by simp)
                      · replace c28 := Bool.eq_false_iff.mpr c28
                        subst c28
                        rw [if_neg (show ¬ (false = true) by decide)] at H
                        exact absurd H (by simp)
                    · rw [if_neg c26] at H
                      exact absurd H (by simp)
                  · rw [if_neg c25] at H
                    exact absurd H (by simp)
                · rw [if_neg c24] at H
                  exact absurd H (by simp)
              · replace c23 := Bool.eq_false_iff.mpr c23
                subst c23
                rw [if_neg (show ¬ (false = true) by decide)] at H
                exact absurd H (by simp)
            · rw [if_neg c20] at H
              exact absurd H (by simp)
          · rw [if_neg c19] at H
            exact absurd H (by simp)
  · replace c4 := Bool.eq_false_iff.mpr c4
    subst c4
    rw [if_neg (show ¬ (false = true) by decide)] at H
    by_cases c39 : t625 = true
    · subst c39
      rw [if_pos rfl] at H
      obtain rfl := Option.some.inj H
      go_enter Try.func5, Try.ntmps5
      go_wp2_with (first | ((with_reducible refine gate_dst (N := 17) rfl ?_); refine goesL_ (some 17) rfl rfl Try.func7 (by kernel_rfl) rfl #[] rfl (by (try simp only [List.map_toArray, List.map_cons, List.map_nil]); first | done | rfl | (simp; done)) ?_; have hs0_ := HS.out; (with_reducible refine (barrowlaw04_small.slcalls k _ _ _ _ (HF.out.keep HK.out) hs0_  Hc1.out).mono ?_); rintro e_ w40 ⟨rfl, hsr_, hkr_⟩; refine ⟨_, rfl, ?_⟩; have n1_ := Aside0.mk (HK.out.trans hkr_); have n2_ := Aside0.mk (hsr_); clear HK HS; have HK := n1_; have HS := n2_; clear n1_ n2_) | ((with_reducible refine gate_dst (N := 19) rfl ?_); refine goesL_ (some 19) rfl rfl Try.func8 (by kernel_rfl) rfl #[.slice A0 l0.length c0] rfl (by (try simp only [List.map_toArray, List.map_cons, List.map_nil]); first | done | rfl | (simp; done)) ?_; (with_reducible refine (barrowlaw04_few.calls k _ _ _ _ _ (RO.at_ HR0.out HK.out) HC0.out Hc2.out).mono ?_); rintro e_ w41 ⟨rfl, hb_⟩; refine ⟨_, rfl, ?_⟩; replace hb_ := Drawn0.below hb_; have n1_ := Aside0.mk (HK.out.trans (Keep.below hb_)); have n2_ := Aside0.mk (HS.out.below hb_); clear HK HS; have HK := n1_; have HS := n2_; clear n1_ n2_) | ((with_reducible refine gate_dst (N := 20) rfl ?_); refine goesL_ (some 20) rfl rfl Try.func9 (by kernel_rfl) rfl #[] rfl (by (try simp only [List.map_toArray, List.map_cons, List.map_nil]); first | done | rfl | (simp; done)) ?_; have hs0_ := HS.out; (with_reducible refine (frame_New.slcalls _ _ _ _ _ (HF.out.keep HK.out) hs0_  Hc3.out).mono ?_); rintro e_ w42 ⟨Az3000047, cz3000047, g3000046, rfl, hsr_, hkr_⟩; refine ⟨_, rfl, ?_⟩; have n1_ := Aside0.mk (HK.out.trans hkr_); have n2_ := Aside0.mk (hsr_); clear HK HS; have HK := n1_; have HS := n2_; clear n1_ n2_))
      go_ret
      have n2_ := Aside0.mk (SL.tail (SL.tail HS.out))
      clear HS
      have HS := n2_
      clear n2_
      unfold barrowlaw04_FrameBack.Post
      exact ⟨by first | rfl | (simp; done) | (simp [*]; done), HS.out, HK.out⟩
    · replace c39 := Bool.eq_false_iff.mpr c39
      subst c39
      rw [if_neg (show ¬ (false = true) by decide)] at H
      exact absurd H (by simp)
theorem barrowlaw04_FrameBack.calls (k : Nat) (A0 : Option Addr) (c0 : Nat) (l0 : List (List Int)) (a1 : Int) (r : Bool) (w : World) (hr0 : Kd.C (Kd.slice 5 (Kd.int .u8)) w A0 l0.length l0) (hc0 : l0.length ≤ c0) (h : barrowlaw04_FrameBack.f k l0 a1 = some r) :
    Calls Try.prog 5 #[.slice A0 l0.length c0, .int .i64 a1] w fun e w' => e = .returned (.bool r) ∧ Below w.heap.size w w' :=
  (barrowlaw04_FrameBack.slcalls k A0 c0 l0 a1 r (news w) [] w (fresh_news w) trivial (RO.top hr0) hc0 h).mono fun _ _ h => ⟨h.1, h.2.2.to_below⟩

/-- THE ONE PURE STATEMENT of barrowlaw04_FrameBack. -/
def barrowlaw04_FrameBack.Pure : Prop := ∀ (l0 : List (List Int)) (a1 : Int), (l0.length ≤ maxLen ∧ l0.length * 24 ≤ 140737488351232 ∧ ∀ x674_ ∈ l0, x674_.length ≤ maxLen ∧ x674_.length * 1 ≤ 140737488351232 ∧ ∀ x675_ ∈ x674_, (Lit.int .u8 x675_).wf = true) → ((Lit.int .i64 a1).wf = true) → ∃ k, barrowlaw04_FrameBack.f k l0 a1 = some true

end Go.Proofs.Ytdlpijeceigbnaa.XFR
