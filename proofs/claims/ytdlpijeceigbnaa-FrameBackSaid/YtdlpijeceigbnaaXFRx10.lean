-- Written by xprint.py (a program of this session) for this claim
import Derived.Test.YtdlpijeceigbnaaXFRx0
import Derived.Test.YtdlpijeceigbnaaXFRx1
import Derived.Test.YtdlpijeceigbnaaXFRx2
import Derived.Test.YtdlpijeceigbnaaXFRx5
import Derived.Test.YtdlpijeceigbnaaXFRx6
namespace Go.Proofs.Ytdlpijeceigbnaa.XFR
open Go.Proofs.YtdlpijeceigbnaaV Go.Proofs.YtdlpijeceigbnaaS
open Go.RowKit Go.Proofs.YtdlpijeceigbnaaW.PrintWords Go.Proofs.YtdlpijeceigbnaaW.PrintLast Go.Proofs.YtdlpijeceigbnaaW.PrintMore
attribute [local go_sem] max2_int min2_int max_two min_two max_three min_three max_four min_four   -- for this text's walks alone
set_option linter.unusedVariables false
set_option linter.unusedSimpArgs false

/-! ### barrowlaw04_FrameWaits: function 6 -/
mutual
def barrowlaw04_FrameWaits.l0 : Nat → (List (List Int)) → Bool → Int → Bool → (List Int) → Bool → Option (Bool)
  | 0, _, _, _, _, _, _ => none
  | k + 1, l0, x6_0, x7_0, t722, y3000052_0, x3000051_1_0 => if x7_0 < (l0.length : Int) then (if 0 ≤ x7_0 then ((some (rd_L1 l0 x7_0 : List Int)).bind fun y784 => ((frame_Feed_Push.f k y3000052_0 x3000051_1_0 y784).bind fun bt785 => (if x6_0 = true then (if bt785.2.1 = 14 then (if (bt785.1.length : Int) = 0 then ((frame_Feed_Dead.f bt785.2.2.1 bt785.2.2.2).bind fun bt791 => (if bt791.1 = true then ((frame_Feed_Dead.f bt791.2.1 bt791.2.2).bind fun bt796 => (if (bt796.1 != true) = true then (none) else ((frame_Feed_Waits.f bt796.2.1 bt796.2.2).bind fun bt801 => (if bt801.1 > 4104 then (none) else ((frame_Feed_Waits.f bt801.2.1 bt801.2.2).bind fun bt806 => (if bt806.1 = 0 then (barrowlaw04_FrameWaits.l1 k l0 x7_0 0 t722 bt806.2.1 bt806.2.2 bt785.1) else (none))))))) else (none))) else (none)) else (none)) else (if bt785.2.1 = 14 then (none) else (if bt785.2.1 = 0 then ((frame_Feed_Dead.f bt785.2.2.1 bt785.2.2.2).bind fun bt813 => (if (bt813.1 != false) = true then (none) else ((frame_Feed_Waits.f bt813.2.1 bt813.2.2).bind fun bt818 => (if bt818.1 > 4104 then (none) else (barrowlaw04_FrameWaits.l101 k l0 x7_0 t722 bt818.2.1 bt818.2.2 0 bt785.1))))) else ((frame_Feed_Dead.f bt785.2.2.1 bt785.2.2.2).bind fun bt825 => (if (bt825.1 != true) = true then (none) else ((frame_Feed_Waits.f bt825.2.1 bt825.2.2).bind fun bt830 => (if bt830.1 > 4104 then (none) else ((frame_Feed_Waits.f bt830.2.1 bt830.2.2).bind fun bt835 => (if bt835.1 = 0 then (barrowlaw04_FrameWaits.l1 k l0 x7_0 0 t722 bt835.2.1 bt835.2.2 bt785.1) else (none)))))))))))) else (none)) else (some t722)
def barrowlaw04_FrameWaits.l1 : Nat → (List (List Int)) → Int → Int → Bool → (List Int) → Bool → (List (List Int)) → Option (Bool)
  | 0, _, _, _, _, _, _, _ => none
  | k + 1, l0, x7_0, x10_1, t722, y3000052_1, x3000051_1_1, t785 => if x10_1 < (t785.length : Int) then (if 0 ≤ x10_1 then ((some (rd_L1 t785 x10_1 : List Int)).bind fun y812 => (if (y812.length : Int) > 4096 then (none) else (barrowlaw04_FrameWaits.l1 k l0 x7_0 (wrap64 (x10_1 + 1)) t722 y3000052_1 x3000051_1_1 t785))) else (none)) else (barrowlaw04_FrameWaits.l0 k l0 true (wrap64 (x7_0 + 1)) t722 y3000052_1 x3000051_1_1)
def barrowlaw04_FrameWaits.l101 : Nat → (List (List Int)) → Int → Bool → (List Int) → Bool → Int → (List (List Int)) → Option (Bool)
  | 0, _, _, _, _, _, _, _ => none
  | k + 1, l0, x7_0, t722, y3000052_101, x3000051_1_101, x10_101, t785 => if x10_101 < (t785.length : Int) then (if 0 ≤ x10_101 then ((some (rd_L1 t785 x10_101 : List Int)).bind fun y824 => (if (y824.length : Int) > 4096 then (none) else (barrowlaw04_FrameWaits.l101 k l0 x7_0 t722 y3000052_101 x3000051_1_101 (wrap64 (x10_101 + 1)) t785))) else (none)) else (barrowlaw04_FrameWaits.l0 k l0 false (wrap64 (x7_0 + 1)) t722 y3000052_101 x3000051_1_101)
end
def barrowlaw04_FrameWaits.f (k : Nat) (l0 : List (List Int)) : Option (Bool) := (barrowlaw04_small.f k).bind fun t722 => ((barrowlaw04_few.f k l0).bind fun t723 => ((frame_New.f).bind fun bt724 => (if t723 = true then (barrowlaw04_FrameWaits.l0 k l0 false 0 t722 bt724.1 bt724.2) else (if t722 = true then (some true) else (none)))))
theorem barrowlaw04_FrameWaits.mono_l : ∀ k, (∀ y0 y1 y2 y3 y4 y5, LeO (barrowlaw04_FrameWaits.l0 k y0 y1 y2 y3 y4 y5) (barrowlaw04_FrameWaits.l0 (k + 1) y0 y1 y2 y3 y4 y5)) ∧ (∀ y0 y1 y2 y3 y4 y5 y6, LeO (barrowlaw04_FrameWaits.l1 k y0 y1 y2 y3 y4 y5 y6) (barrowlaw04_FrameWaits.l1 (k + 1) y0 y1 y2 y3 y4 y5 y6)) ∧ (∀ y0 y1 y2 y3 y4 y5 y6, LeO (barrowlaw04_FrameWaits.l101 k y0 y1 y2 y3 y4 y5 y6) (barrowlaw04_FrameWaits.l101 (k + 1) y0 y1 y2 y3 y4 y5 y6))
  | 0 => ⟨fun _ _ _ _ _ _ r h => by simp [barrowlaw04_FrameWaits.l0] at h, fun _ _ _ _ _ _ _ r h => by simp [barrowlaw04_FrameWaits.l1] at h, fun _ _ _ _ _ _ _ r h => by simp [barrowlaw04_FrameWaits.l101] at h⟩
  | k + 1 => by
    obtain ⟨ih0, ih1, ih2⟩ := barrowlaw04_FrameWaits.mono_l k
    refine ⟨?_, ?_, ?_⟩
    · intro y0 y1 y2 y3 y4 y5
      unfold barrowlaw04_FrameWaits.l0
      repeat' first
      | (with_reducible exact ih0 _ _ _ _ _ _)
      | (with_reducible exact ih1 _ _ _ _ _ _ _)
      | (with_reducible exact ih2 _ _ _ _ _ _ _)
      | (with_reducible exact barrowlaw04_few.mono _ _)
      | (with_reducible exact barrowlaw04_small.mono _)
      | (with_reducible exact frame_Feed_Push.mono _ _ _ _)
      | (with_reducible exact LeO.refl _)
      | (with_reducible exact LeO.none _)
      | (with_reducible refine LeO.ite ?_ ?_)
      | (with_reducible refine LeO.bind ?_ (fun _ => ?_))
      | exact ih0 _ _ _ _ _ _
      | exact ih1 _ _ _ _ _ _ _
      | exact ih2 _ _ _ _ _ _ _
      | exact barrowlaw04_few.mono _ _
      | exact barrowlaw04_small.mono _
      | exact frame_Feed_Push.mono _ _ _ _
      | exact LeO.none _
      | refine LeO.ite ?_ ?_
      | refine LeO.bind ?_ (fun _ => ?_)
    · intro y0 y1 y2 y3 y4 y5 y6
      unfold barrowlaw04_FrameWaits.l1
      repeat' first
      | (with_reducible exact ih0 _ _ _ _ _ _)
      | (with_reducible exact ih1 _ _ _ _ _ _ _)
      | (with_reducible exact ih2 _ _ _ _ _ _ _)
      | (with_reducible exact barrowlaw04_few.mono _ _)
      | (with_reducible exact barrowlaw04_small.mono _)
      | (with_reducible exact frame_Feed_Push.mono _ _ _ _)
      | (with_reducible exact LeO.refl _)
      | (with_reducible exact LeO.none _)
      | (with_reducible refine LeO.ite ?_ ?_)
      | (with_reducible refine LeO.bind ?_ (fun _ => ?_))
      | exact ih0 _ _ _ _ _ _
      | exact ih1 _ _ _ _ _ _ _
      | exact ih2 _ _ _ _ _ _ _
      | exact barrowlaw04_few.mono _ _
      | exact barrowlaw04_small.mono _
      | exact frame_Feed_Push.mono _ _ _ _
      | exact LeO.none _
      | refine LeO.ite ?_ ?_
      | refine LeO.bind ?_ (fun _ => ?_)
    · intro y0 y1 y2 y3 y4 y5 y6
      unfold barrowlaw04_FrameWaits.l101
      repeat' first
      | (with_reducible exact ih0 _ _ _ _ _ _)
      | (with_reducible exact ih1 _ _ _ _ _ _ _)
      | (with_reducible exact ih2 _ _ _ _ _ _ _)
      | (with_reducible exact barrowlaw04_few.mono _ _)
      | (with_reducible exact barrowlaw04_small.mono _)
      | (with_reducible exact frame_Feed_Push.mono _ _ _ _)
      | (with_reducible exact LeO.refl _)
      | (with_reducible exact LeO.none _)
      | (with_reducible refine LeO.ite ?_ ?_)
      | (with_reducible refine LeO.bind ?_ (fun _ => ?_))
      | exact ih0 _ _ _ _ _ _
      | exact ih1 _ _ _ _ _ _ _
      | exact ih2 _ _ _ _ _ _ _
      | exact barrowlaw04_few.mono _ _
      | exact barrowlaw04_small.mono _
      | exact frame_Feed_Push.mono _ _ _ _
      | exact LeO.none _
      | refine LeO.ite ?_ ?_
      | refine LeO.bind ?_ (fun _ => ?_)
theorem barrowlaw04_FrameWaits.mono : ∀ a0 k, LeO (barrowlaw04_FrameWaits.f k a0) (barrowlaw04_FrameWaits.f (k + 1) a0) := by
  intro a0 k
  obtain ⟨ih0, ih1, ih2⟩ := barrowlaw04_FrameWaits.mono_l k
  unfold barrowlaw04_FrameWaits.f
  repeat' first
      | (with_reducible exact ih0 _ _ _ _ _ _)
      | (with_reducible exact ih1 _ _ _ _ _ _ _)
      | (with_reducible exact ih2 _ _ _ _ _ _ _)
      | (with_reducible exact barrowlaw04_few.mono _ _)
      | (with_reducible exact barrowlaw04_small.mono _)
      | (with_reducible exact frame_Feed_Push.mono _ _ _ _)
      | (with_reducible exact LeO.refl _)
      | (with_reducible exact LeO.none _)
      | (with_reducible refine LeO.ite ?_ ?_)
      | (with_reducible refine LeO.bind ?_ (fun _ => ?_))
      | exact ih0 _ _ _ _ _ _
      | exact ih1 _ _ _ _ _ _ _
      | exact ih2 _ _ _ _ _ _ _
      | exact barrowlaw04_few.mono _ _
      | exact barrowlaw04_small.mono _
      | exact frame_Feed_Push.mono _ _ _ _
      | exact LeO.none _
      | refine LeO.ite ?_ ?_
      | refine LeO.bind ?_ (fun _ => ?_)
def barrowlaw04_FrameWaits.Post (r : Bool) (S : Nat → Prop) (L : List Asr) (w : World) (e : Ending) (w' : World) : Prop := e = .returned (.bool r) ∧ SL (L) w' S ∧ Keep S w w'
set_option maxHeartbeats 8000000 in
set_option maxRecDepth 100000 in
theorem barrowlaw04_FrameWaits.slcalls (k : Nat) (A0 : Option Addr) (c0 : Nat) (l0 : List (List Int)) (r : Bool) (S : Nat → Prop) (L : List Asr) (w : World) (hf : Fresh S w) (hs : SL (L) w S) (hr0 : RO S w (fun w_ => Kd.C (Kd.slice 5 (Kd.int .u8)) w_ A0 l0.length l0)) (hc0 : l0.length ≤ c0) (h : barrowlaw04_FrameWaits.f k l0 = some r) :
    Calls Try.prog 6 #[.slice A0 l0.length c0] w (barrowlaw04_FrameWaits.Post r S L w) := by
  have HR0 := Aside0.mk hr0
  have HC0 := Aside0.mk hc0
  clear hr0 hc0
  have HF := Aside0.mk hf
  have HS := Aside0.mk hs
  have HK := Aside0.mk (Keep.refl S w)
  clear hf hs
  have H : ((barrowlaw04_small.f k).bind fun t722 => ((barrowlaw04_few.f k l0).bind fun t723 => ((frame_New.f).bind fun bt724 => (if t723 = true then (barrowlaw04_FrameWaits.l0 k l0 false 0 t722 bt724.1 bt724.2) else (if t722 = true then (some true) else (none)))))) = some r := h
  clear h
  replace H := Option.bind_eq_some_iff.1 H
  obtain ⟨t722, Hc10, H⟩ := H
  try dsimp only at H
  have Hc1 := Aside0.mk Hc10
  clear Hc10
  replace H := Option.bind_eq_some_iff.1 H
  obtain ⟨t723, Hc20, H⟩ := H
  try dsimp only at H
  have Hc2 := Aside0.mk Hc20
  clear Hc20
  replace H := Option.bind_eq_some_iff.1 H
  obtain ⟨⟨t724, t725⟩, Hc30, H⟩ := H
  try dsimp only at H
  have Hc3 := Aside0.mk Hc30
  clear Hc30
  by_cases c4 : t723 = true
  · subst c4
    rw [if_pos rfl] at H
    have H' := Aside0.mk H
    clear H
    go_enter Try.func6, Try.ntmps6
    go_wp2_with (first | ((with_reducible refine gate_dst (N := 11) rfl ?_); refine goesL_ (some 11) rfl rfl Try.func7 (by kernel_rfl) rfl #[] rfl (by (try simp only [List.map_toArray, List.map_cons, List.map_nil]); first | done | rfl | (simp; done)) ?_; have hs0_ := HS.out; (with_reducible refine (barrowlaw04_small.slcalls k _ _ _ _ (HF.out.keep HK.out) hs0_  Hc1.out).mono ?_); rintro e_ w5 ⟨rfl, hsr_, hkr_⟩; refine ⟨_, rfl, ?_⟩; have n1_ := Aside0.mk (HK.out.trans hkr_); have n2_ := Aside0.mk (hsr_); clear HK HS; have HK := n1_; have HS := n2_; clear n1_ n2_) | ((with_reducible refine gate_dst (N := 13) rfl ?_); refine goesL_ (some 13) rfl rfl Try.func8 (by kernel_rfl) rfl #[.slice A0 l0.length c0] rfl (by (try simp only [List.map_toArray, List.map_cons, List.map_nil]); first | done | rfl | (simp; done)) ?_; (with_reducible refine (barrowlaw04_few.calls k _ _ _ _ _ (RO.at_ HR0.out HK.out) HC0.out Hc2.out).mono ?_); rintro e_ w6 ⟨rfl, hb_⟩; refine ⟨_, rfl, ?_⟩; replace hb_ := Drawn0.below hb_; have n1_ := Aside0.mk (HK.out.trans (Keep.below hb_)); have n2_ := Aside0.mk (HS.out.below hb_); clear HK HS; have HK := n1_; have HS := n2_; clear n1_ n2_) | ((with_reducible refine gate_dst (N := 14) rfl ?_); refine goesL_ (some 14) rfl rfl Try.func9 (by kernel_rfl) rfl #[] rfl (by (try simp only [List.map_toArray, List.map_cons, List.map_nil]); first | done | rfl | (simp; done)) ?_; have hs0_ := HS.out; (with_reducible refine (frame_New.slcalls _ _ _ _ _ (HF.out.keep HK.out) hs0_  Hc3.out).mono ?_); rintro e_ w7 ⟨Az3000052, cz3000052, g3000051, rfl, hsr_, hkr_⟩; refine ⟨_, rfl, ?_⟩; have n1_ := Aside0.mk (HK.out.trans hkr_); have n2_ := Aside0.mk (hsr_); clear HK HS; have HK := n1_; have HS := n2_; clear n1_ n2_))
    have n2_ := Aside0.mk (SL.get1 (SL.get1 HS.out))
    clear HS
    have HS := n2_
    clear n2_
    go_loopg [6, 7] k (fun kq v6 v7 w' => ∃ (y3000052_0 : List Int) (x3000051_1_0 : Bool) (A3000052_0 : Option Addr) (c3000052_0 : Nat) (x6_0 : Bool) (x7_0 : Int), v6 = .bool x6_0 ∧ v7 = .int .i64 x7_0 ∧ Aside0 (barrowlaw04_FrameWaits.l0 kq l0 x6_0 x7_0 t722 y3000052_0 x3000051_1_0 = some r) ∧ Aside0 (kq ≤ k) ∧ Aside0 (SL (cells g3000051 41 [.slice A3000052_0 y3000052_0.length c3000052_0, .bool x3000051_1_0].toArray :: row (Kd.int .u8) 5 (.slice A3000052_0 y3000052_0.length c3000052_0) y3000052_0 :: L) w' S) ∧ Aside0 (Keep S w w'))
    case atStart => exact ⟨(t724), (t725), (Az3000052), (cz3000052), (false), (0), (by first | rfl | (simp; done) | (simp [*]; done)), (by first | rfl | (simp; done) | (simp [*]; done)), H', ⟨Nat.le_refl _⟩, HS, HK⟩
    case round =>
      clear H' HS HK
      obtain ⟨y3000052_0, x3000051_1_0, A3000052_0, c3000052_0, x6_0, x7_0, rfl, rfl, HA, HQ1, HS, HK⟩ := hrel
      cases gk with
      | zero => exact absurd HA.out (by simp [barrowlaw04_FrameWaits.l0])
      | succ k1 =>
        have H := HA.out
        clear HA
        simp only [barrowlaw04_FrameWaits.l0] at H
        by_cases c8 : x7_0 < (l0.length : Int)
        · rw [if_pos c8] at H
          have c8b0 : decide (x7_0 < (l0.length : Int)) = true := decide_eq_true c8
          clear c8
          by_cases c9 : 0 ≤ x7_0
          · rw [if_pos c9] at H
            have c9b0 : decide (0 ≤ x7_0) = true := decide_eq_true c9
            clear c9
            replace H := Option.bind_eq_some_iff.1 H
            obtain ⟨y784, hy7840, H⟩ := H
            try dsimp only at H
            have hy784 := Option.some.inj hy7840
            clear hy7840
            have Ny784 := Aside0.mk hy784
            clear hy784
            replace H := Option.bind_eq_some_iff.1 H
            obtain ⟨⟨t785, t786, t787, t790⟩, Hc100, H⟩ := H
            try dsimp only at H
            have Hc10 := Aside0.mk Hc100
            clear Hc100
            by_cases c11 : x6_0 = true
            · subst c11
              rw [if_pos rfl] at H
              by_cases c12 : t786 = 14
              · rw [if_pos c12] at H
                have c12b0 : (t786 == 14) = true := beq_iff_eq.mpr c12
                have c12b1 : (t786 != 14) = false := bne_eq_false_iff_eq.mpr c12
                clear c12
                by_cases c13 : (t785.length : Int) = 0
                · rw [if_pos c13] at H
                  have c13b0 : ((t785.length : Int) == 0) = true := beq_iff_eq.mpr c13
                  have c13b1 : ((t785.length : Int) != 0) = false := bne_eq_false_iff_eq.mpr c13
                  clear c13
                  replace H := Option.bind_eq_some_iff.1 H
                  obtain ⟨⟨t791, t792, t795⟩, Hc140, H⟩ := H
                  try dsimp only at H
                  have Hc14 := Aside0.mk Hc140
                  clear Hc140
                  by_cases c15 : t791 = true
                  · subst c15
                    rw [if_pos rfl] at H
                    replace H := Option.bind_eq_some_iff.1 H
                    obtain ⟨⟨t796, t797, t800⟩, Hc160, H⟩ := H
                    try dsimp only at H
                    have Hc16 := Aside0.mk Hc160
                    clear Hc160
                    by_cases c17 : (t796 != true) = true
                    · rw [if_pos c17] at H
                      exact absurd H (by simp)
                    · rw [if_neg c17] at H
                      have c17b0 : (t796 != true) = false := by simpa using c17
                      (try (have c17b1 : decide (t796 = true) = true := by simpa using c17))
                      (try (have c17b2 : (t796 == true) = true := by simpa using c17))
                      clear c17
                      replace H := Option.bind_eq_some_iff.1 H
                      obtain ⟨⟨t801, t802, t805⟩, Hc180, H⟩ := H
                      try dsimp only at H
                      have Hc18 := Aside0.mk Hc180
                      clear Hc180
                      by_cases c19 : t801 > 4104
                      · rw [if_pos c19] at H
                        exact absurd H (by simp)
                      · rw [if_neg c19] at H
                        have c19b0 : decide (4104 < t801) = false := decide_eq_false c19
                        clear c19
                        replace H := Option.bind_eq_some_iff.1 H
                        obtain ⟨⟨t806, t807, t810⟩, Hc200, H⟩ := H
                        try dsimp only at H
                        have Hc20 := Aside0.mk Hc200
                        clear Hc200
                        by_cases c21 : t806 = 0
                        · rw [if_pos c21] at H
                          have c21b0 : (t806 == 0) = true := beq_iff_eq.mpr c21
                          have c21b1 : (t806 != 0) = false := bne_eq_false_iff_eq.mpr c21
                          clear c21
                          have H' := Aside0.mk H
                          clear H
                          have pq783 : 0 ≤ (x7_0 : Int) := of_decide_eq_true (by first | (with_reducible assumption) | assumption)
                          have qq783 : x7_0 < ((l0.length : Int) : Int) := of_decide_eq_true (by first | (with_reducible assumption) | assumption)
                          obtain ⟨adq783, Aq783_0, cq783_0, eq783, hxxq783, hiq783, hlq783⟩ := RO.inner HR0.out x7_0 pq783 qq783 y784 Ny784.out
                          have hxq783_0 := hxxq783 _ HK.out
                          clear hxxq783
                          have HRq783_0 := Aside0.mk hiq783
                          have HCq783_0 := Aside0.mk hlq783
                          clear hiq783 hlq783
                          cases eq783
                          replace pq783 := eq_true pq783
                          replace qq783 := eq_true qq783
                          go_wp2_with (first | ((with_reducible refine gate_dst (N := 38) rfl ?_); refine goesL_ (some 38) rfl rfl Try.func10 (by kernel_rfl) rfl #[.pointer (some ⟨g3000051, 0, none⟩), .slice Aq783_0 y784.length cq783_0] rfl (by (try simp only [List.map_toArray, List.map_cons, List.map_nil]); first | done | rfl | (simp; done)) ?_; have hs0_ := (SL.get1 (SL.get1 HS.out)); (with_reducible refine (frame_Feed_Push.slcalls k1 _ _ _ _ _ _ _ _ _ _ _ _ _ _ _ (HF.out.keep HK.out) hs0_ (HRq783_0.out.keep HK.out) HCq783_0.out Hc10.out).mono ?_); rintro e_ w22 ⟨Az3000053, cz3000053, A788, c789, rfl, hsr_, hkr_⟩; refine ⟨_, rfl, ?_⟩; have n1_ := Aside0.mk (HK.out.trans hkr_); have n2_ := Aside0.mk (hsr_); clear HK HS; have HK := n1_; have HS := n2_; clear n1_ n2_) | ((with_reducible refine gate_dst (N := 52) rfl ?_); (try (refine gate_guard (by rfl) ?_; dsimp only)); refine goesL_ (some 52) rfl rfl Try.func14 (by kernel_rfl) rfl #[.pointer (some ⟨g3000051, 0, none⟩)] rfl (by (try simp only [List.map_toArray, List.map_cons, List.map_nil]); first | done | rfl | (simp; done)) ?_; have hs0_ := (SL.get1 (SL.get1 HS.out)); (with_reducible refine (frame_Feed_Dead.slcalls _ _ _ _ _ _ _ _ _ _ _ (HF.out.keep HK.out) hs0_  Hc14.out).mono ?_); rintro e_ w23 ⟨A793, c794, rfl, hsr_, hkr_⟩; refine ⟨_, rfl, ?_⟩; have n1_ := Aside0.mk (HK.out.trans hkr_); have n2_ := Aside0.mk (hsr_); clear HK HS; have HK := n1_; have HS := n2_; clear n1_ n2_) | ((with_reducible refine gate_dst (N := 70) rfl ?_); refine goesL_ (some 70) rfl rfl Try.func14 (by kernel_rfl) rfl #[.pointer (some ⟨g3000051, 0, none⟩)] rfl (by (try simp only [List.map_toArray, List.map_cons, List.map_nil]); first | done | rfl | (simp; done)) ?_; have hs0_ := (SL.get1 (SL.get1 HS.out)); (with_reducible refine (frame_Feed_Dead.slcalls _ _ _ _ _ _ _ _ _ _ _ (HF.out.keep HK.out) hs0_  Hc16.out).mono ?_); rintro e_ w24 ⟨A798, c799, rfl, hsr_, hkr_⟩; refine ⟨_, rfl, ?_⟩; have n1_ := Aside0.mk (HK.out.trans hkr_); have n2_ := Aside0.mk (hsr_); clear HK HS; have HK := n1_; have HS := n2_; clear n1_ n2_) | ((with_reducible refine gate_dst (N := 75) rfl ?_); (try (refine gate_guard (by rfl) ?_; dsimp only)); refine goesL_ (some 75) rfl rfl Try.func13 (by kernel_rfl) rfl #[.pointer (some ⟨g3000051, 0, none⟩)] rfl (by (try simp only [List.map_toArray, List.map_cons, List.map_nil]); first | done | rfl | (simp; done)) ?_; have hs0_ := (SL.get1 (SL.get1 HS.out)); (with_reducible refine (frame_Feed_Waits.slcalls _ _ _ _ _ _ _ _ _ _ _ (HF.out.keep HK.out) hs0_  Hc18.out).mono ?_); rintro e_ w25 ⟨A803, c804, rfl, hsr_, hkr_⟩; refine ⟨_, rfl, ?_⟩; have n1_ := Aside0.mk (HK.out.trans hkr_); have n2_ := Aside0.mk (hsr_); clear HK HS; have HK := n1_; have HS := n2_; clear n1_ n2_) | ((with_reducible refine gate_dst (N := 82) rfl ?_); (try (refine gate_guard (by rfl) ?_; dsimp only)); refine goesL_ (some 82) rfl rfl Try.func13 (by kernel_rfl) rfl #[.pointer (some ⟨g3000051, 0, none⟩)] rfl (by (try simp only [List.map_toArray, List.map_cons, List.map_nil]); first | done | rfl | (simp; done)) ?_; have hs0_ := (SL.get1 (SL.get1 HS.out)); (with_reducible refine (frame_Feed_Waits.slcalls _ _ _ _ _ _ _ _ _ _ _ (HF.out.keep HK.out) hs0_  Hc20.out).mono ?_); rintro e_ w26 ⟨A808, c809, rfl, hsr_, hkr_⟩; refine ⟨_, rfl, ?_⟩; have n1_ := Aside0.mk (HK.out.trans hkr_); have n2_ := Aside0.mk (hsr_); clear HK HS; have HK := n1_; have HS := n2_; clear n1_ n2_))
                          have n2_ := Aside0.mk (SL.get2 (SL.get2 (SL.get2 HS.out)))
                          clear HS
                          have HS := n2_
                          clear n2_
                          go_loopg [10] k1 (fun kq v10 w' => ∃ (y3000052_1 : List Int) (x3000051_1_1 : Bool) (A3000052_1 : Option Addr) (c3000052_1 : Nat) (x10_1 : Int), v10 = .int .i64 x10_1 ∧ Aside0 (barrowlaw04_FrameWaits.l1 kq l0 x7_0 x10_1 t722 y3000052_1 x3000051_1_1 t785 = some r) ∧ Aside0 (kq ≤ k1) ∧ Aside0 (SL (cells g3000051 41 [.slice A3000052_1 y3000052_1.length c3000052_1, .bool x3000051_1_1].toArray :: row (Kd.int .u8) 5 (.slice A3000052_1 y3000052_1.length c3000052_1) y3000052_1 :: rows (inn (Kd.int .u8) 5) 1 23 (.slice Az3000053 t785.length cz3000053) t785 :: L) w' S) ∧ Aside0 (Keep S w w'))
                          case atStart => exact ⟨(t807), (t810), (A808), (c809), (0), (by first | rfl | (simp; done) | (simp [*]; done)), H', ⟨Nat.le_refl _⟩, HS, HK⟩
                          case round =>
                            clear H' HS HK
                            obtain ⟨y3000052_1, x3000051_1_1, A3000052_1, c3000052_1, x10_1, rfl, HA, HQ2, HS, HK⟩ := hrel
                            cases gk with
                            | zero => exact absurd HA.out (by simp [barrowlaw04_FrameWaits.l1])
                            | succ k2 =>
                              have H := HA.out
                              clear HA
                              simp only [barrowlaw04_FrameWaits.l1] at H
                              by_cases c27 : x10_1 < (t785.length : Int)
                              · rw [if_pos c27] at H
                                have c27b0 : decide (x10_1 < (t785.length : Int)) = true := decide_eq_true c27
                                clear c27
                                by_cases c28 : 0 ≤ x10_1
                                · rw [if_pos c28] at H
                                  have c28b0 : decide (0 ≤ x10_1) = true := decide_eq_true c28
                                  clear c28
                                  replace H := Option.bind_eq_some_iff.1 H
                                  obtain ⟨y812, hy8120, H⟩ := H
                                  try dsimp only at H
                                  have hy812 := Option.some.inj hy8120
                                  clear hy8120
                                  have Ny812 := Aside0.mk hy812
                                  clear hy812
                                  by_cases c29 : (y812.length : Int) > 4096
                                  · rw [if_pos c29] at H
                                    exact absurd H (by simp)
                                  · rw [if_neg c29] at H
                                    have c29b0 : decide (4096 < (y812.length : Int)) = false := decide_eq_false c29
                                    have c29b1 : decide (4096 < y812.length) = false := decide_eq_false (by omega)
                                    clear c29
                                    have H' := Aside0.mk H
                                    clear H
                                    have pq811 : 0 ≤ (x10_1 : Int) := of_decide_eq_true (by first | (with_reducible assumption) | assumption)
                                    have qq811 : x10_1 < ((t785.length : Int) : Int) := of_decide_eq_true (by first | (with_reducible assumption) | assumption)
                                    obtain ⟨adq811, Aq811_0, cq811_0, eq811, hxq811_0, hiq811, hlq811⟩ := rows_at (SL.get2 HS.out) rfl x10_1 pq811 qq811 y812 Ny812.out
                                    have HVq811_0 := Aside0.mk hiq811
                                    have HCq811_0 := Aside0.mk hlq811
                                    clear hiq811 hlq811
                                    cases eq811
                                    replace pq811 := eq_true pq811
                                    replace qq811 := eq_true qq811
                                    go_wp2
                                    have n2_ := Aside0.mk (SL.get2 (SL.get2 (SL.get2 HS.out)))
                                    clear HS
                                    have HS := n2_
                                    clear n2_
                                    go_roundg k2
                                    case measure => have := HQ1.out; have := HQ2.out; omega
                                    case rel => exact ⟨(y3000052_1), (x3000051_1_1), (A3000052_1), (c3000052_1), (wrap64 (x10_1 + 1)), (by first | rfl | (simp; done) | (simp [*]; done)), H', ⟨by have := HQ1.out; have := HQ2.out; omega⟩, HS, HK⟩
                                · rw [if_neg c28] at H
                                  exact absurd H (by simp)
                              · rw [if_neg c27] at H
                                have c27b0 : decide (x10_1 < (t785.length : Int)) = false := decide_eq_false c27
                                clear c27
                                have H' := Aside0.mk H
                                clear H
                                go_wp2
                                have n2_ := Aside0.mk (SL.get1 (SL.get1 (SL.tail (SL.get2 HS.out))))
                                clear HS
                                have HS := n2_
                                clear n2_
                                go_roundg k2
                                case measure => have := HQ1.out; have := HQ2.out; omega
                                case rel => exact ⟨(y3000052_1), (x3000051_1_1), (A3000052_1), (c3000052_1), (true), (wrap64 (x7_0 + 1)), (by first | rfl | (simp; done) | (simp [*]; done)), (by first | rfl | (simp; done) | (simp [*]; done)), H', ⟨by have := HQ1.out; have := HQ2.out; omega⟩, HS, HK⟩
                        · rw [if_neg c21] at H
                          exact absurd H (by simp)
                  · replace c15 := Bool.eq_false_iff.mpr c15
                    subst c15
                    rw [if_neg (show ¬ (false = true) by decide)] at H
                    exact absurd H (by simp)
                · rw [if_neg c13] at H
                  exact absurd H (by simp)
              · rw [if_neg c12] at H
                exact absurd H (by simp)
            · replace c11 := Bool.eq_false_iff.mpr c11
              subst c11
              rw [if_neg (show ¬ (false = true) by decide)] at H
              by_cases c30 : t786 = 14
              · rw [if_pos c30] at H
                exact absurd H (by simp)
              · rw [if_neg c30] at H
                have c30b0 : (t786 == 14) = false := beq_eq_false_iff_ne.mpr c30
                have c30b1 : (t786 != 14) = true := bne_iff_ne.mpr c30
                by_cases c31 : t786 = 0
                · rw [if_pos c31] at H
                  have c31b0 : (t786 == 0) = true := beq_iff_eq.mpr c31
                  have c31b1 : (t786 != 0) = false := bne_eq_false_iff_eq.mpr c31
                  clear c31
                  replace H := Option.bind_eq_some_iff.1 H
                  obtain ⟨⟨t813, t814, t817⟩, Hc320, H⟩ := H
                  try dsimp only at H
                  have Hc32 := Aside0.mk Hc320
                  clear Hc320
                  by_cases c33 : (t813 != false) = true
                  · rw [if_pos c33] at H
                    exact absurd H (by simp)
                  · rw [if_neg c33] at H
                    have c33b0 : (t813 != false) = false := by simpa using c33
                    (try (have c33b1 : decide (t813 = false) = true := by simpa using c33))
                    (try (have c33b2 : (t813 == false) = true := by simpa using c33))
                    clear c33
                    replace H := Option.bind_eq_some_iff.1 H
                    obtain ⟨⟨t818, t819, t822⟩, Hc340, H⟩ := H
                    try dsimp only at H
                    have Hc34 := Aside0.mk Hc340
                    clear Hc340
                    by_cases c35 : t818 > 4104
                    · rw [if_pos c35] at H
                      exact absurd H (by simp)
                    · rw [if_neg c35] at H
                      have c35b0 : decide (4104 < t818) = false := decide_eq_false c35
                      clear c35
                      have H' := Aside0.mk H
                      clear H
                      have pq783 : 0 ≤ (x7_0 : Int) := of_decide_eq_true (by first | (with_reducible assumption) | assumption)
                      have qq783 : x7_0 < ((l0.length : Int) : Int) := of_decide_eq_true (by first | (with_reducible assumption) | assumption)
                      obtain ⟨adq783, Aq783_0, cq783_0, eq783, hxxq783, hiq783, hlq783⟩ := RO.inner HR0.out x7_0 pq783 qq783 y784 Ny784.out
                      have hxq783_0 := hxxq783 _ HK.out
                      clear hxxq783
                      have HRq783_0 := Aside0.mk hiq783
                      have HCq783_0 := Aside0.mk hlq783
                      clear hiq783 hlq783
                      cases eq783
                      replace pq783 := eq_true pq783
                      replace qq783 := eq_true qq783
                      go_wp2_with (first | ((with_reducible refine gate_dst (N := 38) rfl ?_); refine goesL_ (some 38) rfl rfl Try.func10 (by kernel_rfl) rfl #[.pointer (some ⟨g3000051, 0, none⟩), .slice Aq783_0 y784.length cq783_0] rfl (by (try simp only [List.map_toArray, List.map_cons, List.map_nil]); first | done | rfl | (simp; done)) ?_; have hs0_ := (SL.get1 (SL.get1 HS.out)); (with_reducible refine (frame_Feed_Push.slcalls k1 _ _ _ _ _ _ _ _ _ _ _ _ _ _ _ (HF.out.keep HK.out) hs0_ (HRq783_0.out.keep HK.out) HCq783_0.out Hc10.out).mono ?_); rintro e_ w36 ⟨Az3000053, cz3000053, A788, c789, rfl, hsr_, hkr_⟩; refine ⟨_, rfl, ?_⟩; have n1_ := Aside0.mk (HK.out.trans hkr_); have n2_ := Aside0.mk (hsr_); clear HK HS; have HK := n1_; have HS := n2_; clear n1_ n2_) | ((with_reducible refine gate_dst (N := 70) rfl ?_); refine goesL_ (some 70) rfl rfl Try.func14 (by kernel_rfl) rfl #[.pointer (some ⟨g3000051, 0, none⟩)] rfl (by (try simp only [List.map_toArray, List.map_cons, List.map_nil]); first | done | rfl | (simp; done)) ?_; have hs0_ := (SL.get1 (SL.get1 HS.out)); (with_reducible refine (frame_Feed_Dead.slcalls _ _ _ _ _ _ _ _ _ _ _ (HF.out.keep HK.out) hs0_  Hc32.out).mono ?_); rintro e_ w37 ⟨A815, c816, rfl, hsr_, hkr_⟩; refine ⟨_, rfl, ?_⟩; have n1_ := Aside0.mk (HK.out.trans hkr_); have n2_ := Aside0.mk (hsr_); clear HK HS; have HK := n1_; have HS := n2_; clear n1_ n2_) | ((with_reducible refine gate_dst (N := 75) rfl ?_); (try (refine gate_guard (by rfl) ?_; dsimp only)); refine goesL_ (some 75) rfl rfl Try.func13 (by kernel_rfl) rfl #[.pointer (some ⟨g3000051, 0, none⟩)] rfl (by (try simp only [List.map_toArray, List.map_cons, List.map_nil]); first | done | rfl | (simp; done)) ?_; have hs0_ := (SL.get1 (SL.get1 HS.out)); (with_reducible refine (frame_Feed_Waits.slcalls _ _ _ _ _ _ _ _ _ _ _ (HF.out.keep HK.out) hs0_  Hc34.out).mono ?_); rintro e_ w38 ⟨A820, c821, rfl, hsr_, hkr_⟩; refine ⟨_, rfl, ?_⟩; have n1_ := Aside0.mk (HK.out.trans hkr_); have n2_ := Aside0.mk (hsr_); clear HK HS; have HK := n1_; have HS := n2_; clear n1_ n2_))
                      have n2_ := Aside0.mk (SL.get2 (SL.get2 (SL.get2 HS.out)))
                      clear HS
                      have HS := n2_
                      clear n2_
                      go_loopg [10] k1 (fun kq v10 w' => ∃ (y3000052_101 : List Int) (x3000051_1_101 : Bool) (A3000052_101 : Option Addr) (c3000052_101 : Nat) (x10_101 : Int), v10 = .int .i64 x10_101 ∧ Aside0 (barrowlaw04_FrameWaits.l101 kq l0 x7_0 t722 y3000052_101 x3000051_1_101 x10_101 t785 = some r) ∧ Aside0 (kq ≤ k1) ∧ Aside0 (SL (cells g3000051 41 [.slice A3000052_101 y3000052_101.length c3000052_101, .bool x3000051_1_101].toArray :: row (Kd.int .u8) 5 (.slice A3000052_101 y3000052_101.length c3000052_101) y3000052_101 :: rows (inn (Kd.int .u8) 5) 1 23 (.slice Az3000053 t785.length cz3000053) t785 :: L) w' S) ∧ Aside0 (Keep S w w'))
                      case atStart => exact ⟨(t819), (t822), (A820), (c821), (0), (by first | rfl | (simp; done) | (simp [*]; done)), H', ⟨Nat.le_refl _⟩, HS, HK⟩
                      case round =>
                        clear H' HS HK
                        obtain ⟨y3000052_101, x3000051_1_101, A3000052_101, c3000052_101, x10_101, rfl, HA, HQ2, HS, HK⟩ := hrel
                        cases gk with
                        | zero => exact absurd HA.out (by simp [barrowlaw04_FrameWaits.l101])
                        | succ k2 =>
                          have H := HA.out
                          clear HA
                          simp only [barrowlaw04_FrameWaits.l101] at H
                          by_cases c39 : x10_101 < (t785.length : Int)
                          · rw [if_pos c39] at H
                            have c39b0 : decide (x10_101 < (t785.length : Int)) = true := decide_eq_true c39
                            clear c39
                            by_cases c40 : 0 ≤ x10_101
                            · rw [if_pos c40] at H
                              have c40b0 : decide (0 ≤ x10_101) = true := decide_eq_true c40
                              clear c40
                              replace H := Option.bind_eq_some_iff.1 H
                              obtain ⟨y824, hy8240, H⟩ := H
                              try dsimp only at H
                              have hy824 := Option.some.inj hy8240
                              clear hy8240
                              have Ny824 := Aside0.mk hy824
                              clear hy824
                              by_cases c41 : (y824.length : Int) > 4096
                              · rw [if_pos c41] at H
                                exact absurd H (by simp)
                              · rw [if_neg c41] at H
                                have c41b0 : decide (4096 < (y824.length : Int)) = false := decide_eq_false c41
                                have c41b1 : decide (4096 < y824.length) = false := decide_eq_false (by omega)
                                clear c41
                                have H' := Aside0.mk H
                                clear H
                                have pq823 : 0 ≤ (x10_101 : Int) := of_decide_eq_true (by first | (with_reducible assumption) | assumption)
                                have qq823 : x10_101 < ((t785.length : Int) : Int) := of_decide_eq_true (by first | (with_reducible assumption) | assumption)
                                obtain ⟨adq823, Aq823_0, cq823_0, eq823, hxq823_0, hiq823, hlq823⟩ := rows_at (SL.get2 HS.out) rfl x10_101 pq823 qq823 y824 Ny824.out
                                have HVq823_0 := Aside0.mk hiq823
                                have HCq823_0 := Aside0.mk hlq823
                                clear hiq823 hlq823
                                cases eq823
                                replace pq823 := eq_true pq823
                                replace qq823 := eq_true qq823
                                go_wp2
                                have n2_ := Aside0.mk (SL.get2 (SL.get2 (SL.get2 HS.out)))
                                clear HS
                                have HS := n2_
                                clear n2_
                                go_roundg k2
                                case measure => have := HQ1.out; have := HQ2.out; omega
                                case rel => exact ⟨(y3000052_101), (x3000051_1_101), (A3000052_101), (c3000052_101), (wrap64 (x10_101 + 1)), (by first | rfl | (simp; done) | (simp [*]; done)), H', ⟨by have := HQ1.out; have := HQ2.out; omega⟩, HS, HK⟩
                            · rw [if_neg c40] at H
                              exact absurd H (by simp)
                          · rw [if_neg c39] at H
                            have c39b0 : decide (x10_101 < (t785.length : Int)) = false := decide_eq_false c39
                            clear c39
                            have H' := Aside0.mk H
                            clear H
                            go_wp2
                            have n2_ := Aside0.mk (SL.get1 (SL.get1 (SL.tail (SL.get2 HS.out))))
                            clear HS
                            have HS := n2_
                            clear n2_
                            go_roundg k2
                            case measure => have := HQ1.out; have := HQ2.out; omega
                            case rel => exact ⟨(y3000052_101), (x3000051_1_101), (A3000052_101), (c3000052_101), (false), (wrap64 (x7_0 + 1)), (by first | rfl | (simp; done) | (simp [*]; done)), (by first | rfl | (simp; done) | (simp [*]; done)), H', ⟨by have := HQ1.out; have := HQ2.out; omega⟩, HS, HK⟩
                · rw [if_neg c31] at H
                  have c31b0 : (t786 == 0) = false := beq_eq_false_iff_ne.mpr c31
                  have c31b1 : (t786 != 0) = true := bne_iff_ne.mpr c31
                  replace H := Option.bind_eq_some_iff.1 H
                  obtain ⟨⟨t825, t826, t829⟩, Hc420, H⟩ := H
                  try dsimp only at H
                  have Hc42 := Aside0.mk Hc420
                  clear Hc420
                  by_cases c43 : (t825 != true) = true
                  · rw [if_pos c43] at H
                    exact absurd H (by simp)
                  · rw [if_neg c43] at H
                    have c43b0 : (t825 != true) = false := by simpa using c43
                    (try (have c43b1 : decide (t825 = true) = true := by simpa using c43))
                    (try (have c43b2 : (t825 == true) = true := by simpa using c43))
                    clear c43
                    replace H := Option.bind_eq_some_iff.1 H
                    obtain ⟨⟨t830, t831, t834⟩, Hc440, H⟩ := H
                    try dsimp only at H
                    have Hc44 := Aside0.mk Hc440
                    clear Hc440
                    by_cases c45 : t830 > 4104
                    · rw [if_pos c45] at H
                      exact absurd H (by simp)
                    · rw [if_neg c45] at H
                      have c45b0 : decide (4104 < t830) = false := decide_eq_false c45
                      clear c45
                      replace H := Option.bind_eq_some_iff.1 H
                      obtain ⟨⟨t835, t836, t839⟩, Hc460, H⟩ := H
                      try dsimp only at H
                      have Hc46 := Aside0.mk Hc460
                      clear Hc460
                      by_cases c47 : t835 = 0
                      · rw [if_pos c47] at H
                        have c47b0 : (t835 == 0) = true := beq_iff_eq.mpr c47
                        have c47b1 : (t835 != 0) = false := bne_eq_false_iff_eq.mpr c47
                        clear c47
                        have H' := Aside0.mk H
                        clear H
                        have pq783 : 0 ≤ (x7_0 : Int) := of_decide_eq_true (by first | (with_reducible assumption) | assumption)
                        have qq783 : x7_0 < ((l0.length : Int) : Int) := of_decide_eq_true (by first | (with_reducible assumption) | assumption)
                        obtain ⟨adq783, Aq783_0, cq783_0, eq783, hxxq783, hiq783, hlq783⟩ := RO.inner HR0.out x7_0 pq783 qq783 y784 Ny784.out
                        have hxq783_0 := hxxq783 _ HK.out
                        clear hxxq783
                        have HRq783_0 := Aside0.mk hiq783
                        have HCq783_0 := Aside0.mk hlq783
                        clear hiq783 hlq783
                        cases eq783
                        replace pq783 := eq_true pq783
                        replace qq783 := eq_true qq783
                        go_wp2_with (first | ((with_reducible refine gate_dst (N := 38) rfl ?_); refine goesL_ (some 38) rfl rfl Try.func10 (by kernel_rfl) rfl #[.pointer (some ⟨g3000051, 0, none⟩), .slice Aq783_0 y784.length cq783_0] rfl (by (try simp only [List.map_toArray, List.map_cons, List.map_nil]); first | done | rfl | (simp; done)) ?_; have hs0_ := (SL.get1 (SL.get1 HS.out)); (with_reducible refine (frame_Feed_Push.slcalls k1 _ _ _ _ _ _ _ _ _ _ _ _ _ _ _ (HF.out.keep HK.out) hs0_ (HRq783_0.out.keep HK.out) HCq783_0.out Hc10.out).mono ?_); rintro e_ w48 ⟨Az3000053, cz3000053, A788, c789, rfl, hsr_, hkr_⟩; refine ⟨_, rfl, ?_⟩; have n1_ := Aside0.mk (HK.out.trans hkr_); have n2_ := Aside0.mk (hsr_); clear HK HS; have HK := n1_; have HS := n2_; clear n1_ n2_) | ((with_reducible refine gate_dst (N := 70) rfl ?_); refine goesL_ (some 70) rfl rfl Try.func14 (by kernel_rfl) rfl #[.pointer (some ⟨g3000051, 0, none⟩)] rfl (by (try simp only [List.map_toArray, List.map_cons, List.map_nil]); first | done | rfl | (simp; done)) ?_; have hs0_ := (SL.get1 (SL.get1 HS.out)); (with_reducible refine (frame_Feed_Dead.slcalls _ _ _ _ _ _ _ _ _ _ _ (HF.out.keep HK.out) hs0_  Hc42.out).mono ?_); rintro e_ w49 ⟨A827, c828, rfl, hsr_, hkr_⟩; refine ⟨_, rfl, ?_⟩; have n1_ := Aside0.mk (HK.out.trans hkr_); have n2_ := Aside0.mk (hsr_); clear HK HS; have HK := n1_; have HS := n2_; clear n1_ n2_) | ((with_reducible refine gate_dst (N := 75) rfl ?_); (try (refine gate_guard (by rfl) ?_; dsimp only)); refine goesL_ (some 75) rfl rfl Try.func13 (by kernel_rfl) rfl #[.pointer (some ⟨g3000051, 0, none⟩)] rfl (by (try simp only [List.map_toArray, List.map_cons, List.map_nil]); first | done | rfl | (simp; done)) ?_; have hs0_ := (SL.get1 (SL.get1 HS.out)); (with_reducible refine (frame_Feed_Waits.slcalls _ _ _ _ _ _ _ _ _ _ _ (HF.out.keep HK.out) hs0_  Hc44.out).mono ?_); rintro e_ w50 ⟨A832, c833, rfl, hsr_, hkr_⟩; refine ⟨_, rfl, ?_⟩; have n1_ := Aside0.mk (HK.out.trans hkr_); have n2_ := Aside0.mk (hsr_); clear HK HS; have HK := n1_; have HS := n2_; clear n1_ n2_) | ((with_reducible refine gate_dst (N := 82) rfl ?_); (try (refine gate_guard (by rfl) ?_; dsimp only)); refine goesL_ (some 82) rfl rfl Try.func13 (by kernel_rfl) rfl #[.pointer (some ⟨g3000051, 0, none⟩)] rfl (by (try simp only [List.map_toArray, List.map_cons, List.map_nil]); first | done | rfl | (simp; done)) ?_; have hs0_ := (SL.get1 (SL.get1 HS.out)); (with_reducible refine (frame_Feed_Waits.slcalls _ _ _ _ _ _ _ _ _ _ _ (HF.out.keep HK.out) hs0_  Hc46.out).mono ?_); rintro e_ w51 ⟨A837, c838, rfl, hsr_, hkr_⟩; refine ⟨_, rfl, ?_⟩; have n1_ := Aside0.mk (HK.out.trans hkr_); have n2_ := Aside0.mk (hsr_); clear HK HS; have HK := n1_; have HS := n2_; clear n1_ n2_))
                        have n2_ := Aside0.mk (SL.get2 (SL.get2 (SL.get2 HS.out)))
                        clear HS
                        have HS := n2_
                        clear n2_
                        go_loopg [10] k1 (fun kq v10 w' => ∃ (y3000052_1 : List Int) (x3000051_1_1 : Bool) (A3000052_1 : Option Addr) (c3000052_1 : Nat) (x10_1 : Int), v10 = .int .i64 x10_1 ∧ Aside0 (barrowlaw04_FrameWaits.l1 kq l0 x7_0 x10_1 t722 y3000052_1 x3000051_1_1 t785 = some r) ∧ Aside0 (kq ≤ k1) ∧ Aside0 (SL (cells g3000051 41 [.slice A3000052_1 y3000052_1.length c3000052_1, .bool x3000051_1_1].toArray :: row (Kd.int .u8) 5 (.slice A3000052_1 y3000052_1.length c3000052_1) y3000052_1 :: rows (inn (Kd.int .u8) 5) 1 23 (.slice Az3000053 t785.length cz3000053) t785 :: L) w' S) ∧ Aside0 (Keep S w w'))
                        case atStart => exact ⟨(t836), (t839), (A837), (c838), (0), (by first | rfl | (simp; done) | (simp [*]; done)), H', ⟨Nat.le_refl _⟩, HS, HK⟩
                        case round =>
                          clear H' HS HK
                          obtain ⟨y3000052_1, x3000051_1_1, A3000052_1, c3000052_1, x10_1, rfl, HA, HQ2, HS, HK⟩ := hrel
                          cases gk with
                          | zero => exact absurd HA.out (by simp [barrowlaw04_FrameWaits.l1])
                          | succ k2 =>
                            have H := HA.out
                            clear HA
                            simp only [barrowlaw04_FrameWaits.l1] at H
                            by_cases c52 : x10_1 < (t785.length : Int)
                            · rw [if_pos c52] at H
                              have c52b0 : decide (x10_1 < (t785.length : Int)) = true := decide_eq_true c52
                              clear c52
                              by_cases c53 : 0 ≤ x10_1
                              · rw [if_pos c53] at H
                                have c53b0 : decide (0 ≤ x10_1) = true := decide_eq_true c53
                                clear c53
                                replace H := Option.bind_eq_some_iff.1 H
                                obtain ⟨y812, hy8120, H⟩ := H
                                try dsimp only at H
                                have hy812 := Option.some.inj hy8120
                                clear hy8120
                                have Ny812 := Aside0.mk hy812
                                clear hy812
                                by_cases c54 : (y812.length : Int) > 4096
                                · rw [if_pos c54] at H
                                  exact absurd H (by simp)
                                · rw [if_neg c54] at H
                                  have c54b0 : decide (4096 < (y812.length : Int)) = false := decide_eq_false c54
                                  have c54b1 : decide (4096 < y812.length) = false := decide_eq_false (by omega)
                                  clear c54
                                  have H' := Aside0.mk H
                                  clear H
                                  have pq811 : 0 ≤ (x10_1 : Int) := of_decide_eq_true (by first | (with_reducible assumption) | assumption)
                                  have qq811 : x10_1 < ((t785.length : Int) : Int) := of_decide_eq_true (by first | (with_reducible assumption) | assumption)
                                  obtain ⟨adq811, Aq811_0, cq811_0, eq811, hxq811_0, hiq811, hlq811⟩ := rows_at (SL.get2 HS.out) rfl x10_1 pq811 qq811 y812 Ny812.out
                                  have HVq811_0 := Aside0.mk hiq811
                                  have HCq811_0 := Aside0.mk hlq811
                                  clear hiq811 hlq811
                                  cases eq811
                                  replace pq811 := eq_true pq811
                                  replace qq811 := eq_true qq811
                                  go_wp2
                                  have n2_ := Aside0.mk (SL.get2 (SL.get2 (SL.get2 HS.out)))
                                  clear HS
                                  have HS := n2_
                                  clear n2_
                                  go_roundg k2
                                  case measure => have := HQ1.out; have := HQ2.out; omega
                                  case rel => exact ⟨(y3000052_1), (x3000051_1_1), (A3000052_1), (c3000052_1), (wrap64 (x10_1 + 1)), (by first | rfl | (simp; done) | (simp [*]; done)), H', ⟨by have := HQ1.out; have := HQ2.out; omega⟩, HS, HK⟩
                              · rw [if_neg c53] at H
                                exact absurd H (by simp)
                            · rw [if_neg c52] at H
                              have c52b0 : decide (x10_1 < (t785.length : Int)) = false := decide_eq_false c52
                              clear c52
                              have H' := Aside0.mk H
                              clear H
                              go_wp2
                              have n2_ := Aside0.mk (SL.get1 (SL.get1 (SL.tail (SL.get2 HS.out))))
                              clear HS
                              have HS := n2_
                              clear n2_
                              go_roundg k2
                              case measure => have := HQ1.out; have := HQ2.out; omega
                              case rel => exact ⟨(y3000052_1), (x3000051_1_1), (A3000052_1), (c3000052_1), (true), (wrap64 (x7_0 + 1)), (by first | rfl | (simp; done) | (simp [*]; done)), (by first | rfl | (simp; done) | (simp [*]; done)), H', ⟨by have := HQ1.out; have := HQ2.out; omega⟩, HS, HK⟩
                      · rw [if_neg c47] at H
                        exact absurd H (by simp)
          · rw [if_neg c9] at H
            exact absurd H (by simp)
        · rw [if_neg c8] at H
          have c8b0 : decide (x7_0 < (l0.length : Int)) = false := decide_eq_false c8
          clear c8
          obtain rfl := Option.some.inj H
          go_wp2
          go_ret
          have n2_ := Aside0.mk (SL.tail (SL.tail HS.out))
          clear HS
          have HS := n2_
          clear n2_
          unfold barrowlaw04_FrameWaits.Post
          exact ⟨by first | rfl | (simp; done) | (simp [*]; done), HS.out, HK.out⟩
  · replace c4 := Bool.eq_false_iff.mpr c4
    subst c4
    rw [if_neg (show ¬ (false = true) by decide)] at H
    by_cases c55 : t722 = true
    · subst c55
      rw [if_pos rfl] at H
      obtain rfl := Option.some.inj H
      go_enter Try.func6, Try.ntmps6
      go_wp2_with (first | ((with_reducible refine gate_dst (N := 11) rfl ?_); refine goesL_ (some 11) rfl rfl Try.func7 (by kernel_rfl) rfl #[] rfl (by (try simp only [List.map_toArray, List.map_cons, List.map_nil]); first | done | rfl | (simp; done)) ?_; have hs0_ := HS.out; (with_reducible refine (barrowlaw04_small.slcalls k _ _ _ _ (HF.out.keep HK.out) hs0_  Hc1.out).mono ?_); rintro e_ w56 ⟨rfl, hsr_, hkr_⟩; refine ⟨_, rfl, ?_⟩; have n1_ := Aside0.mk (HK.out.trans hkr_); have n2_ := Aside0.mk (hsr_); clear HK HS; have HK := n1_; have HS := n2_; clear n1_ n2_) | ((with_reducible refine gate_dst (N := 13) rfl ?_); refine goesL_ (some 13) rfl rfl Try.func8 (by kernel_rfl) rfl #[.slice A0 l0.length c0] rfl (by (try simp only [List.map_toArray, List.map_cons, List.map_nil]); first | done | rfl | (simp; done)) ?_; (with_reducible refine (barrowlaw04_few.calls k _ _ _ _ _ (RO.at_ HR0.out HK.out) HC0.out Hc2.out).mono ?_); rintro e_ w57 ⟨rfl, hb_⟩; refine ⟨_, rfl, ?_⟩; replace hb_ := Drawn0.below hb_; have n1_ := Aside0.mk (HK.out.trans (Keep.below hb_)); have n2_ := Aside0.mk (HS.out.below hb_); clear HK HS; have HK := n1_; have HS := n2_; clear n1_ n2_) | ((with_reducible refine gate_dst (N := 14) rfl ?_); refine goesL_ (some 14) rfl rfl Try.func9 (by kernel_rfl) rfl #[] rfl (by (try simp only [List.map_toArray, List.map_cons, List.map_nil]); first | done | rfl | (simp; done)) ?_; have hs0_ := HS.out; (with_reducible refine (frame_New.slcalls _ _ _ _ _ (HF.out.keep HK.out) hs0_  Hc3.out).mono ?_); rintro e_ w58 ⟨Az3000052, cz3000052, g3000051, rfl, hsr_, hkr_⟩; refine ⟨_, rfl, ?_⟩; have n1_ := Aside0.mk (HK.out.trans hkr_); have n2_ := Aside0.mk (hsr_); clear HK HS; have HK := n1_; have HS := n2_; clear n1_ n2_))
      go_ret
      have n2_ := Aside0.mk (SL.tail (SL.tail HS.out))
      clear HS
      have HS := n2_
      clear n2_
      unfold barrowlaw04_FrameWaits.Post
      exact ⟨by first | rfl | (simp; done) | (simp [*]; done), HS.out, HK.out⟩
    · replace c55 := Bool.eq_false_iff.mpr c55
      subst c55
      rw [if_neg (show ¬ (false = true) by decide)] at H
      exact absurd H (by simp)
theorem barrowlaw04_FrameWaits.calls (k : Nat) (A0 : Option Addr) (c0 : Nat) (l0 : List (List Int)) (r : Bool) (w : World) (hr0 : Kd.C (Kd.slice 5 (Kd.int .u8)) w A0 l0.length l0) (hc0 : l0.length ≤ c0) (h : barrowlaw04_FrameWaits.f k l0 = some r) :
    Calls Try.prog 6 #[.slice A0 l0.length c0] w fun e w' => e = .returned (.bool r) ∧ Below w.heap.size w w' :=
  (barrowlaw04_FrameWaits.slcalls k A0 c0 l0 r (news w) [] w (fresh_news w) trivial (RO.top hr0) hc0 h).mono fun _ _ h => ⟨h.1, h.2.2.to_below⟩

/-- THE ONE PURE STATEMENT of barrowlaw04_FrameWaits. -/
def barrowlaw04_FrameWaits.Pure : Prop := ∀ (l0 : List (List Int)), (l0.length ≤ maxLen ∧ l0.length * 24 ≤ 140737488351232 ∧ ∀ x840_ ∈ l0, x840_.length ≤ maxLen ∧ x840_.length * 1 ≤ 140737488351232 ∧ ∀ x841_ ∈ x840_, (Lit.int .u8 x841_).wf = true) → ∃ k, barrowlaw04_FrameWaits.f k l0 = some true

end Go.Proofs.Ytdlpijeceigbnaa.XFR
