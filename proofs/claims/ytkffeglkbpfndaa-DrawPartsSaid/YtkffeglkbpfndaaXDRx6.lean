-- Written by xprint.py (a program of this session) for this claim
import Derived.Test.YtkffeglkbpfndaaXDRx0
import Derived.Test.YtkffeglkbpfndaaXDRx1
import Derived.Test.YtkffeglkbpfndaaXDRx4
namespace Go.Proofs.Ytkffeglkbpfndaa.XDR
open Go.Proofs.YtkffeglkbpfndaaV Go.Proofs.YtkffeglkbpfndaaS
open Go.RowKit Go.Proofs.YtkffeglkbpfndaaW.PrintWords Go.Proofs.YtkffeglkbpfndaaW.PrintLast Go.Proofs.YtkffeglkbpfndaaW.PrintMore
attribute [local go_sem] max2_int min2_int max_two min_two max_three min_three max_four min_four   -- for this text's walks alone
set_option linter.unusedVariables false
set_option linter.unusedSimpArgs false

/-! ### barrowlaw02_DrawParts: function 4 -/
def barrowlaw02_DrawParts.l0 : Nat → (List Int) → Int → Bool → Int → (List Int) → (List Int) → Option (Bool)
  | 0, _, _, _, _, _, _ => none
  | k + 1, l0, a1, t179, x14_0, y185_0, y182_0 => if x14_0 ≤ (l0.length : Int) then ((draw_Stream_Left.f y182_0).bind fun bt238 => ((draw_Stream_Below.f k bt238.2 a1).bind fun bt242 => ((draw_Stream_Below.f k y185_0 a1).bind fun bt247 => (if bt242.1 = bt247.1 then (if (bt242.2.1 != bt247.2.1) = true then (none) else ((draw_Stream_Left.f bt242.2.2).bind fun bt252 => ((draw_Stream_Left.f bt247.2.2).bind fun bt256 => (if bt252.1 = bt256.1 then (if bt242.2.1 = true then (if bt242.1 < 0 then (none) else (if bt242.1 ≥ a1 then (none) else ((draw_Stream_Left.f bt252.2).bind fun bt260 => (if bt260.1 ≥ bt238.1 then (none) else (barrowlaw02_DrawParts.l0 k l0 a1 t179 (wrap64 (x14_0 + 1)) bt256.2 bt260.2))))) else (if bt242.1 = 0 then ((draw_Stream_Left.f bt252.2).bind fun bt264 => (if bt264.1 = bt238.1 then (barrowlaw02_DrawParts.l0 k l0 a1 t179 (wrap64 (x14_0 + 1)) bt256.2 bt264.2) else (none))) else (none))) else (none))))) else (none))))) else (some t179)
def barrowlaw02_DrawParts.f (k : Nat) (l0 : List Int) (a1 : Int) (a2 : Int) : Option (Bool) := (barrowlaw02_small.f k).bind fun t179 => ((draw_New.f).bind fun t181 => ((draw_New.f).bind fun t184 => (if (l0.length : Int) > 300 then (if t179 = true then (some true) else (none)) else ((some (mx a2 0 : Int)).bind fun j186 => ((some (mn j186 (l0.length : Int) : Int)).bind fun j187 => ((draw_Stream_Feed.f k t181 l0).bind fun bt188 => (if 0 ≤ j187 then (if j187 ≤ (l0.length : Int) then ((some (l0.take (j187).toNat : List Int)).bind fun y192 => ((draw_Stream_Feed.f k t184 y192).bind fun bt196 => ((some (l0.drop (j187).toNat : List Int)).bind fun y200 => ((draw_Stream_Feed.f k bt196.2 y200).bind fun bt204 => (if bt188.1 = 0 then (if bt196.1 = 0 then (if bt204.1 = 0 then (barrowlaw02_DrawParts.l0 k l0 a1 t179 0 bt204.2 bt188.2) else (none)) else (none)) else (if t179 = true then (if bt188.1 = 1 then (if bt196.1 = 1 then (some true) else (some (bt204.1 == 1))) else (none)) else (none))))))) else (none)) else (none))))))))
theorem barrowlaw02_DrawParts.mono_l : ∀ k, (∀ y0 y1 y2 y3 y4 y5, LeO (barrowlaw02_DrawParts.l0 k y0 y1 y2 y3 y4 y5) (barrowlaw02_DrawParts.l0 (k + 1) y0 y1 y2 y3 y4 y5))
  | 0 => fun _ _ _ _ _ _ r h => by simp [barrowlaw02_DrawParts.l0] at h
  | k + 1 => by
    have ih0 := barrowlaw02_DrawParts.mono_l k
    · intro y0 y1 y2 y3 y4 y5
      unfold barrowlaw02_DrawParts.l0
      repeat' first
      | (with_reducible exact ih0 _ _ _ _ _ _)
      | (with_reducible exact barrowlaw02_small.mono _)
      | (with_reducible exact draw_Stream_Below.mono _ _ _)
      | (with_reducible exact draw_Stream_Feed.mono _ _ _)
      | (with_reducible exact LeO.refl _)
      | (with_reducible exact LeO.none _)
      | (with_reducible refine LeO.ite ?_ ?_)
      | (with_reducible refine LeO.bind ?_ (fun _ => ?_))
      | exact ih0 _ _ _ _ _ _
      | exact barrowlaw02_small.mono _
      | exact draw_Stream_Below.mono _ _ _
      | exact draw_Stream_Feed.mono _ _ _
      | exact LeO.none _
      | refine LeO.ite ?_ ?_
      | refine LeO.bind ?_ (fun _ => ?_)
theorem barrowlaw02_DrawParts.mono : ∀ a0 a1 a2 k, LeO (barrowlaw02_DrawParts.f k a0 a1 a2) (barrowlaw02_DrawParts.f (k + 1) a0 a1 a2) := by
  intro a0 a1 a2 k
  have ih0 := barrowlaw02_DrawParts.mono_l k
  unfold barrowlaw02_DrawParts.f
  repeat' first
      | (with_reducible exact ih0 _ _ _ _ _ _)
      | (with_reducible exact barrowlaw02_small.mono _)
      | (with_reducible exact draw_Stream_Below.mono _ _ _)
      | (with_reducible exact draw_Stream_Feed.mono _ _ _)
      | (with_reducible exact LeO.refl _)
      | (with_reducible exact LeO.none _)
      | (with_reducible refine LeO.ite ?_ ?_)
      | (with_reducible refine LeO.bind ?_ (fun _ => ?_))
      | exact ih0 _ _ _ _ _ _
      | exact barrowlaw02_small.mono _
      | exact draw_Stream_Below.mono _ _ _
      | exact draw_Stream_Feed.mono _ _ _
      | exact LeO.none _
      | refine LeO.ite ?_ ?_
      | refine LeO.bind ?_ (fun _ => ?_)
def barrowlaw02_DrawParts.Post (r : Bool) (S : Nat → Prop) (L : List Asr) (w : World) (e : Ending) (w' : World) : Prop := e = .returned (.bool r) ∧ SL (L) w' S ∧ Keep S w w'
set_option maxHeartbeats 8000000 in
set_option maxRecDepth 100000 in
theorem barrowlaw02_DrawParts.slcalls (k : Nat) (A0 : Option Addr) (c0 : Nat) (l0 : List Int) (a1 : Int) (a2 : Int) (r : Bool) (S : Nat → Prop) (L : List Asr) (w : World) (hf : Fresh S w) (hs : SL (L) w S) (hr0 : RO S w (fun w_ => Kd.C (Kd.int .i64) w_ A0 l0.length l0)) (hc0 : l0.length ≤ c0) (h : barrowlaw02_DrawParts.f k l0 a1 a2 = some r) :
    Calls Try.prog 4 #[.slice A0 l0.length c0, .int .i64 a1, .int .i64 a2] w (barrowlaw02_DrawParts.Post r S L w) := by
  have HR0 := Aside0.mk hr0
  have HC0 := Aside0.mk hc0
  clear hr0 hc0
  have HF := Aside0.mk hf
  have HS := Aside0.mk hs
  have HK := Aside0.mk (Keep.refl S w)
  clear hf hs
  have H : ((barrowlaw02_small.f k).bind fun t179 => ((draw_New.f).bind fun t181 => ((draw_New.f).bind fun t184 => (if (l0.length : Int) > 300 then (if t179 = true then (some true) else (none)) else ((some (mx a2 0 : Int)).bind fun j186 => ((some (mn j186 (l0.length : Int) : Int)).bind fun j187 => ((draw_Stream_Feed.f k t181 l0).bind fun bt188 => (if 0 ≤ j187 then (if j187 ≤ (l0.length : Int) then ((some (l0.take (j187).toNat : List Int)).bind fun y192 => ((draw_Stream_Feed.f k t184 y192).bind fun bt196 => ((some (l0.drop (j187).toNat : List Int)).bind fun y200 => ((draw_Stream_Feed.f k bt196.2 y200).bind fun bt204 => (if bt188.1 = 0 then (if bt196.1 = 0 then (if bt204.1 = 0 then (barrowlaw02_DrawParts.l0 k l0 a1 t179 0 bt204.2 bt188.2) else (none)) else (none)) else (if t179 = true then (if bt188.1 = 1 then (if bt196.1 = 1 then (some true) else (some (bt204.1 == 1))) else (none)) else (none))))))) else (none)) else (none))))))))) = some r := h
  clear h
  replace H := Option.bind_eq_some_iff.1 H
  obtain ⟨t179, Hc10, H⟩ := H
  try dsimp only at H
  have Hc1 := Aside0.mk Hc10
  clear Hc10
  replace H := Option.bind_eq_some_iff.1 H
  obtain ⟨t181, Hc20, H⟩ := H
  try dsimp only at H
  have Hc2 := Aside0.mk Hc20
  clear Hc20
  replace H := Option.bind_eq_some_iff.1 H
  obtain ⟨t184, Hc30, H⟩ := H
  try dsimp only at H
  have Hc3 := Aside0.mk Hc30
  clear Hc30
  by_cases c4 : (l0.length : Int) > 300
  · rw [if_pos c4] at H
    have c4b0 : decide (300 < (l0.length : Int)) = true := decide_eq_true c4
    have c4b1 : decide (300 < l0.length) = true := decide_eq_true (by omega)
    clear c4
    by_cases c5 : t179 = true
    · subst c5
      rw [if_pos rfl] at H
      obtain rfl := Option.some.inj H
      go_enter Try.func4, Try.ntmps4
      go_wp2_with (first | ((with_reducible refine gate_dst (N := 20) rfl ?_); refine goesL_ (some 20) rfl rfl Try.func8 (by kernel_rfl) rfl #[] rfl (by (try simp only [List.map_toArray, List.map_cons, List.map_nil]); first | done | rfl | (simp; done)) ?_; have hs0_ := HS.out; (with_reducible refine (barrowlaw02_small.slcalls k _ _ _ _ (HF.out.keep HK.out) hs0_  Hc1.out).mono ?_); rintro e_ w6 ⟨rfl, hsr_, hkr_⟩; refine ⟨_, rfl, ?_⟩; have n1_ := Aside0.mk (HK.out.trans hkr_); have n2_ := Aside0.mk (hsr_); clear HK HS; have HK := n1_; have HS := n2_; clear n1_ n2_) | ((with_reducible refine gate_dst (N := 21) rfl ?_); refine goesL_ (some 21) rfl rfl Try.func11 (by kernel_rfl) rfl #[] rfl (by (try simp only [List.map_toArray, List.map_cons, List.map_nil]); first | done | rfl | (simp; done)) ?_; have hs0_ := HS.out; (with_reducible refine (draw_New.slcalls _ _ _ _ (HF.out.keep HK.out) hs0_  Hc2.out).mono ?_); rintro e_ w7 ⟨Az182, cz182, g180, rfl, hsr_, hkr_⟩; refine ⟨_, rfl, ?_⟩; have n1_ := Aside0.mk (HK.out.trans hkr_); have n2_ := Aside0.mk (hsr_); clear HK HS; have HK := n1_; have HS := n2_; clear n1_ n2_) | ((with_reducible refine gate_dst (N := 22) rfl ?_); refine goesL_ (some 22) rfl rfl Try.func11 (by kernel_rfl) rfl #[] rfl (by (try simp only [List.map_toArray, List.map_cons, List.map_nil]); first | done | rfl | (simp; done)) ?_; have hs0_ := HS.out; (with_reducible refine (draw_New.slcalls _ _ _ _ (HF.out.keep HK.out) hs0_  Hc3.out).mono ?_); rintro e_ w8 ⟨Az185, cz185, g183, rfl, hsr_, hkr_⟩; refine ⟨_, rfl, ?_⟩; have n1_ := Aside0.mk (HK.out.trans hkr_); have n2_ := Aside0.mk (hsr_); clear HK HS; have HK := n1_; have HS := n2_; clear n1_ n2_))
      go_ret
      have n2_ := Aside0.mk (SL.tail (SL.tail (SL.tail (SL.tail HS.out))))
      clear HS
      have HS := n2_
      clear n2_
      unfold barrowlaw02_DrawParts.Post
      exact ⟨by first | rfl | (simp; done) | (simp [*]; done), HS.out, HK.out⟩
    · replace c5 := Bool.eq_false_iff.mpr c5
      subst c5
      rw [if_neg (show ¬ (false = true) by decide)] at H
      exact absurd H (by simp)
  · rw [if_neg c4] at H
    have c4b0 : decide (300 < (l0.length : Int)) = false := decide_eq_false c4
    have c4b1 : decide (300 < l0.length) = false := decide_eq_false (by omega)
    clear c4
    replace H := Option.bind_eq_some_iff.1 H
    obtain ⟨j186, hj1860, H⟩ := H
    try dsimp only at H
    have hj186 := Option.some.inj hj1860
    clear hj1860
    have hj186_ : (if a2 < 0 then 0 else a2) = j186 := hj186
    replace H := Option.bind_eq_some_iff.1 H
    obtain ⟨j187, hj1870, H⟩ := H
    try dsimp only at H
    have hj187 := Option.some.inj hj1870
    clear hj1870
    have hj187_ : (if (l0.length : Int) < j186 then (l0.length : Int) else j186) = j187 := hj187
    replace H := Option.bind_eq_some_iff.1 H
    obtain ⟨⟨t188, t189⟩, Hc90, H⟩ := H
    try dsimp only at H
    have Hc9 := Aside0.mk Hc90
    clear Hc90
    by_cases c10 : 0 ≤ j187
    · rw [if_pos c10] at H
      have c10b0 := eq_true c10
      have c10b1 : decide (0 ≤ j187) = true := decide_eq_true c10
      clear c10
      by_cases c11 : j187 ≤ (l0.length : Int)
      · rw [if_pos c11] at H
        have c11b0 := eq_true c11
        have c11b1 : decide (j187 ≤ (l0.length : Int)) = true := decide_eq_true c11
        clear c11
        replace H := Option.bind_eq_some_iff.1 H
        obtain ⟨y192, hy1920, H⟩ := H
        try dsimp only at H
        have hy192 := Option.some.inj hy1920
        clear hy1920
        have Ny192 := Aside0.mk hy192
        clear hy192
        replace H := Option.bind_eq_some_iff.1 H
        obtain ⟨⟨t196, t197⟩, Hc120, H⟩ := H
        try dsimp only at H
        have Hc12 := Aside0.mk Hc120
        clear Hc120
        replace H := Option.bind_eq_some_iff.1 H
        obtain ⟨y200, hy2000, H⟩ := H
        try dsimp only at H
        have hy200 := Option.some.inj hy2000
        clear hy2000
        have Ny200 := Aside0.mk hy200
        clear hy200
        replace H := Option.bind_eq_some_iff.1 H
        obtain ⟨⟨t204, t205⟩, Hc130, H⟩ := H
        try dsimp only at H
        have Hc13 := Aside0.mk Hc130
        clear Hc130
        by_cases c14 : t188 = 0
        · rw [if_pos c14] at H
          have c14b0 : (t188 == 0) = true := beq_iff_eq.mpr c14
          have c14b1 : (t188 != 0) = false := bne_eq_false_iff_eq.mpr c14
          clear c14
          by_cases c15 : t196 = 0
          · rw [if_pos c15] at H
            have c15b0 : (t196 == 0) = true := beq_iff_eq.mpr c15
            have c15b1 : (t196 != 0) = false := bne_eq_false_iff_eq.mpr c15
            clear c15
            by_cases c16 : t204 = 0
            · rw [if_pos c16] at H
              have c16b0 : (t204 == 0) = true := beq_iff_eq.mpr c16
              have c16b1 : (t204 != 0) = false := bne_eq_false_iff_eq.mpr c16
              clear c16
              have H' := Aside0.mk H
              clear H
              go_enter Try.func4, Try.ntmps4
              go_wp2_with (first | ((with_reducible refine gate_dst (N := 20) rfl ?_); refine goesL_ (some 20) rfl rfl Try.func8 (by kernel_rfl) rfl #[] rfl (by (try simp only [List.map_toArray, List.map_cons, List.map_nil]); first | done | rfl | (simp; done)) ?_; have hs0_ := HS.out; (with_reducible refine (barrowlaw02_small.slcalls k _ _ _ _ (HF.out.keep HK.out) hs0_  Hc1.out).mono ?_); rintro e_ w17 ⟨rfl, hsr_, hkr_⟩; refine ⟨_, rfl, ?_⟩; have n1_ := Aside0.mk (HK.out.trans hkr_); have n2_ := Aside0.mk (hsr_); clear HK HS; have HK := n1_; have HS := n2_; clear n1_ n2_) | ((with_reducible refine gate_dst (N := 21) rfl ?_); refine goesL_ (some 21) rfl rfl Try.func11 (by kernel_rfl) rfl #[] rfl (by (try simp only [List.map_toArray, List.map_cons, List.map_nil]); first | done | rfl | (simp; done)) ?_; have hs0_ := HS.out; (with_reducible refine (draw_New.slcalls _ _ _ _ (HF.out.keep HK.out) hs0_  Hc2.out).mono ?_); rintro e_ w18 ⟨Az182, cz182, g180, rfl, hsr_, hkr_⟩; refine ⟨_, rfl, ?_⟩; have n1_ := Aside0.mk (HK.out.trans hkr_); have n2_ := Aside0.mk (hsr_); clear HK HS; have HK := n1_; have HS := n2_; clear n1_ n2_) | ((with_reducible refine gate_dst (N := 22) rfl ?_); refine goesL_ (some 22) rfl rfl Try.func11 (by kernel_rfl) rfl #[] rfl (by (try simp only [List.map_toArray, List.map_cons, List.map_nil]); first | done | rfl | (simp; done)) ?_; have hs0_ := HS.out; (with_reducible refine (draw_New.slcalls _ _ _ _ (HF.out.keep HK.out) hs0_  Hc3.out).mono ?_); rintro e_ w19 ⟨Az185, cz185, g183, rfl, hsr_, hkr_⟩; refine ⟨_, rfl, ?_⟩; have n1_ := Aside0.mk (HK.out.trans hkr_); have n2_ := Aside0.mk (hsr_); clear HK HS; have HK := n1_; have HS := n2_; clear n1_ n2_) | ((with_reducible refine gate_dst (N := 50) rfl ?_); refine goesL_ (some 50) rfl rfl Try.func12 (by kernel_rfl) rfl #[.pointer (some ⟨g180, 0, none⟩), .slice A0 l0.length c0] rfl (by (try simp only [List.map_toArray, List.map_cons, List.map_nil]); first | done | rfl | (simp; done)) ?_; have hs0_ := (SL.get3 (SL.get3 HS.out)); (with_reducible refine (draw_Stream_Feed.slcalls k _ _ _ _ _ _ _ _ _ _ _ _ (HF.out.keep HK.out) hs0_ (HR0.out.keep HK.out) HC0.out Hc9.out).mono ?_); rintro e_ w20 ⟨A190, c191, rfl, hsr_, hkr_⟩; refine ⟨_, rfl, ?_⟩; have n1_ := Aside0.mk (HK.out.trans hkr_); have n2_ := Aside0.mk (hsr_); clear HK HS; have HK := n1_; have HS := n2_; clear n1_ n2_; have hv_ := cut_upto (P := Try.prog) (Kd.int .i64) 22 3 .i64 .i64 Try.underlying22 (by kernel_rfl) rfl A0 l0.length c0 l0 rfl HC0.out j187 (of_decide_eq_true (by first | (with_reducible assumption) | assumption)) (of_decide_eq_true (by first | (with_reducible assumption) | assumption) : j187 ≤ ((l0.length : Int) : Int)) y192 Ny192.out; obtain ⟨hcvq195, hcs_, hcc_, hcl_⟩ := hv_; have HRq195 := Aside0.mk (RO.imp HR0.out hcc_); have HCq195 := Aside0.mk hcl_; clear hcs_ hcc_ hcl_) | ((with_reducible refine gate_dst (N := 55) rfl ?_); refine goesL_ (some 55) rfl rfl Try.func12 (by kernel_rfl) rfl #[.pointer (some ⟨g183, 0, none⟩), .slice A0 y192.length c0] rfl (by (try simp only [List.map_toArray, List.map_cons, List.map_nil]); first | done | rfl | (simp; done)) ?_; have hs0_ := (SL.get3 (SL.get3 HS.out)); (with_reducible refine (draw_Stream_Feed.slcalls k _ _ _ _ _ _ _ _ _ _ _ _ (HF.out.keep HK.out) hs0_ (HRq195.out.keep HK.out) HCq195.out Hc12.out).mono ?_); rintro e_ w21 ⟨A198, c199, rfl, hsr_, hkr_⟩; refine ⟨_, rfl, ?_⟩; have n1_ := Aside0.mk (HK.out.trans hkr_); have n2_ := Aside0.mk (hsr_); clear HK HS; have HK := n1_; have HS := n2_; clear n1_ n2_; obtain ⟨A201, c202, hcvq203, hcs_, hcc_, hcl_⟩ := cut_of (P := Try.prog) (Kd.int .i64) 22 3 .i64 .i64 Try.underlying22 (by kernel_rfl) rfl A0 l0.length c0 l0 rfl HC0.out j187 (of_decide_eq_true (by first | (with_reducible assumption) | assumption)) (of_decide_eq_true (by first | (with_reducible assumption) | assumption) : j187 ≤ ((l0.length : Int) : Int)) y200 Ny200.out; have HRq203 := Aside0.mk (RO.imp HR0.out hcc_); have HCq203 := Aside0.mk hcl_; clear hcs_ hcc_ hcl_) | ((with_reducible refine gate_dst (N := 60) rfl ?_); refine goesL_ (some 60) rfl rfl Try.func12 (by kernel_rfl) rfl #[.pointer (some ⟨g183, 0, none⟩), .slice A201 y200.length c202] rfl (by (try simp only [List.map_toArray, List.map_cons, List.map_nil]); first | done | rfl | (simp; done)) ?_; have hs0_ := (SL.get1 (SL.get1 HS.out)); (with_reducible refine (draw_Stream_Feed.slcalls k _ _ _ _ _ _ _ _ _ _ _ _ (HF.out.keep HK.out) hs0_ (HRq203.out.keep HK.out) HCq203.out Hc13.out).mono ?_); rintro e_ w22 ⟨A206, c207, rfl, hsr_, hkr_⟩; refine ⟨_, rfl, ?_⟩; have n1_ := Aside0.mk (HK.out.trans hkr_); have n2_ := Aside0.mk (hsr_); clear HK HS; have HK := n1_; have HS := n2_; clear n1_ n2_))
              have n2_ := Aside0.mk (SL.get3 (SL.get3 (SL.get3 (SL.get3 HS.out))))
              clear HS
              have HS := n2_
              clear n2_
              go_loopg [14] k (fun kq v14 w' => ∃ (y185_0 : List Int) (A185_0 : Option Addr) (c185_0 : Nat) (y182_0 : List Int) (A182_0 : Option Addr) (c182_0 : Nat) (x14_0 : Int), v14 = .int .i64 x14_0 ∧ Aside0 (barrowlaw02_DrawParts.l0 kq l0 a1 t179 x14_0 y185_0 y182_0 = some r) ∧ Aside0 (kq ≤ k) ∧ Aside0 (SL (cells g183 50 [.slice A185_0 y185_0.length c185_0].toArray :: row (Kd.int .i64) 3 (.slice A185_0 y185_0.length c185_0) y185_0 :: cells g180 50 [.slice A182_0 y182_0.length c182_0].toArray :: row (Kd.int .i64) 3 (.slice A182_0 y182_0.length c182_0) y182_0 :: L) w' S) ∧ Aside0 (Keep S w w'))
              case atStart => exact ⟨(t205), (A206), (c207), (t189), (A190), (c191), (0), (by first | rfl | (simp; done) | (simp [*]; done)), H', ⟨Nat.le_refl _⟩, HS, HK⟩
              case round =>
                clear H' HS HK
                obtain ⟨y185_0, A185_0, c185_0, y182_0, A182_0, c182_0, x14_0, rfl, HA, HQ1, HS, HK⟩ := hrel
                cases gk with
                | zero => exact absurd HA.out (by simp [barrowlaw02_DrawParts.l0])
                | succ k1 =>
                  have H := HA.out
                  clear HA
                  simp only [barrowlaw02_DrawParts.l0] at H
                  by_cases c23 : x14_0 ≤ (l0.length : Int)
                  · rw [if_pos c23] at H
                    have c23b0 : decide (x14_0 ≤ (l0.length : Int)) = true := decide_eq_true c23
                    clear c23
                    replace H := Option.bind_eq_some_iff.1 H
                    obtain ⟨⟨t238, t239⟩, Hc240, H⟩ := H
                    try dsimp only at H
                    have Hc24 := Aside0.mk Hc240
                    clear Hc240
                    replace H := Option.bind_eq_some_iff.1 H
                    obtain ⟨⟨t242, t243, t244⟩, Hc250, H⟩ := H
                    try dsimp only at H
                    have Hc25 := Aside0.mk Hc250
                    clear Hc250
                    replace H := Option.bind_eq_some_iff.1 H
                    obtain ⟨⟨t247, t248, t249⟩, Hc260, H⟩ := H
                    try dsimp only at H
                    have Hc26 := Aside0.mk Hc260
                    clear Hc260
                    by_cases c27 : t242 = t247
                    · rw [if_pos c27] at H
                      have c27b0 : (t242 == t247) = true := beq_iff_eq.mpr c27
                      have c27b1 : (t242 != t247) = false := bne_eq_false_iff_eq.mpr c27
                      clear c27
                      by_cases c28 : (t243 != t248) = true
                      · rw [if_pos c28] at H
                        exact absurd H (by simp)
                      · rw [if_neg c28] at H
                        have c28b0 : (t243 != t248) = false := by simpa using c28
                        (try (have c28b1 : decide (t243 = t248) = true := by simpa using c28))
                        (try (have c28b2 : (t243 == t248) = true := by simpa using c28))
                        clear c28
                        replace H := Option.bind_eq_some_iff.1 H
                        obtain ⟨⟨t252, t253⟩, Hc290, H⟩ := H
                        try dsimp only at H
                        have Hc29 := Aside0.mk Hc290
                        clear Hc290
                        replace H := Option.bind_eq_some_iff.1 H
                        obtain ⟨⟨t256, t257⟩, Hc300, H⟩ := H
                        try dsimp only at H
                        have Hc30 := Aside0.mk Hc300
                        clear Hc300
                        by_cases c31 : t252 = t256
                        · rw [if_pos c31] at H
                          have c31b0 : (t252 == t256) = true := beq_iff_eq.mpr c31
                          have c31b1 : (t252 != t256) = false := bne_eq_false_iff_eq.mpr c31
                          clear c31
                          by_cases c32 : t243 = true
                          · subst c32
                            rw [if_pos rfl] at H
                            by_cases c33 : t242 < 0
                            · rw [if_pos c33] at H
                              exact absurd H (by simp)
                            · rw [if_neg c33] at H
                              have c33b0 : decide (t242 < 0) = false := decide_eq_false c33
                              clear c33
                              by_cases c34 : t242 ≥ a1
                              · rw [if_pos c34] at H
                                exact absurd H (by simp)
                              · rw [if_neg c34] at H
                                have c34b0 : decide (a1 ≤ t242) = false := decide_eq_false c34
                                clear c34
                                replace H := Option.bind_eq_some_iff.1 H
                                obtain ⟨⟨t260, t261⟩, Hc350, H⟩ := H
                                try dsimp only at H
                                have Hc35 := Aside0.mk Hc350
                                clear Hc350
                                by_cases c36 : t260 ≥ t238
                                · rw [if_pos c36] at H
                                  exact absurd H (by simp)
                                · rw [if_neg c36] at H
                                  have c36b0 : decide (t238 ≤ t260) = false := decide_eq_false c36
                                  clear c36
                                  have H' := Aside0.mk H
                                  clear H
                                  go_wp2_with (first | ((with_reducible refine gate_dst (N := 89) rfl ?_); refine goesL_ (some 89) rfl rfl Try.func13 (by kernel_rfl) rfl #[.pointer (some ⟨g180, 0, none⟩)] rfl (by (try simp only [List.map_toArray, List.map_cons, List.map_nil]); first | done | rfl | (simp; done)) ?_; have hs0_ := (SL.get3 (SL.get3 HS.out)); (with_reducible refine (draw_Stream_Left.slcalls _ _ _ _ _ _ _ _ _ (HF.out.keep HK.out) hs0_  Hc24.out).mono ?_); rintro e_ w37 ⟨A240, c241, rfl, hsr_, hkr_⟩; refine ⟨_, rfl, ?_⟩; have n1_ := Aside0.mk (HK.out.trans hkr_); have n2_ := Aside0.mk (hsr_); clear HK HS; have HK := n1_; have HS := n2_; clear n1_ n2_) | ((with_reducible refine gate_dst (N := 93) rfl ?_); refine goesL_ (some 93) rfl rfl Try.func14 (by kernel_rfl) rfl #[.pointer (some ⟨g180, 0, none⟩), .int .i64 a1] rfl (by (try simp only [List.map_toArray, List.map_cons, List.map_nil]); first | done | rfl | (simp; done)) ?_; have hs0_ := (SL.get1 (SL.get1 HS.out)); (with_reducible refine (draw_Stream_Below.slcalls k1 _ _ _ _ _ _ _ _ _ _ _ (HF.out.keep HK.out) hs0_  Hc25.out).mono ?_); rintro e_ w38 ⟨A245, c246, rfl, hsr_, hkr_⟩; refine ⟨_, rfl, ?_⟩; have n1_ := Aside0.mk (HK.out.trans hkr_); have n2_ := Aside0.mk (hsr_); clear HK HS; have HK := n1_; have HS := n2_; clear n1_ n2_) | ((with_reducible refine gate_dst (N := 99) rfl ?_); refine goesL_ (some 99) rfl rfl Try.func14 (by kernel_rfl) rfl #[.pointer (some ⟨g183, 0, none⟩), .int .i64 a1] rfl (by (try simp only [List.map_toArray, List.map_cons, List.map_nil]); first | done | rfl | (simp; done)) ?_; have hs0_ := (SL.get3 (SL.get3 HS.out)); (with_reducible refine (draw_Stream_Below.slcalls k1 _ _ _ _ _ _ _ _ _ _ _ (HF.out.keep HK.out) hs0_  Hc26.out).mono ?_); rintro e_ w39 ⟨A250, c251, rfl, hsr_, hkr_⟩; refine ⟨_, rfl, ?_⟩; have n1_ := Aside0.mk (HK.out.trans hkr_); have n2_ := Aside0.mk (hsr_); clear HK HS; have HK := n1_; have HS := n2_; clear n1_ n2_) | ((with_reducible refine gate_dst (N := 112) rfl ?_); (try (refine gate_guard (by rfl) ?_; dsimp only)); refine goesL_ (some 112) rfl rfl Try.func13 (by kernel_rfl) rfl #[.pointer (some ⟨g180, 0, none⟩)] rfl (by (try simp only [List.map_toArray, List.map_cons, List.map_nil]); first | done | rfl | (simp; done)) ?_; have hs0_ := (SL.get3 (SL.get3 HS.out)); (with_reducible refine (draw_Stream_Left.slcalls _ _ _ _ _ _ _ _ _ (HF.out.keep HK.out) hs0_  Hc29.out).mono ?_); rintro e_ w40 ⟨A254, c255, rfl, hsr_, hkr_⟩; refine ⟨_, rfl, ?_⟩; have n1_ := Aside0.mk (HK.out.trans hkr_); have n2_ := Aside0.mk (hsr_); clear HK HS; have HK := n1_; have HS := n2_; clear n1_ n2_) | ((with_reducible refine gate_dst (N := 114) rfl ?_); (try (refine gate_guard (by rfl) ?_; dsimp only)); refine goesL_ (some 114) rfl rfl Try.func13 (by kernel_rfl) rfl #[.pointer (some ⟨g183, 0, none⟩)] rfl (by (try simp only [List.map_toArray, List.map_cons, List.map_nil]); first | done | rfl | (simp; done)) ?_; have hs0_ := (SL.get3 (SL.get3 HS.out)); (with_reducible refine (draw_Stream_Left.slcalls _ _ _ _ _ _ _ _ _ (HF.out.keep HK.out) hs0_  Hc30.out).mono ?_); rintro e_ w41 ⟨A258, c259, rfl, hsr_, hkr_⟩; refine ⟨_, rfl, ?_⟩; have n1_ := Aside0.mk (HK.out.trans hkr_); have n2_ := Aside0.mk (hsr_); clear HK HS; have HK := n1_; have HS := n2_; clear n1_ n2_) | ((with_reducible refine gate_dst (N := 129) rfl ?_); (try (refine gate_guard (by rfl) ?_; dsimp only)); refine goesL_ (some 129) rfl rfl Try.func13 (by kernel_rfl) rfl #[.pointer (some ⟨g180, 0, none⟩)] rfl (by (try simp only [List.map_toArray, List.map_cons, List.map_nil]); first | done | rfl | (simp; done)) ?_; have hs0_ := (SL.get3 (SL.get3 HS.out)); (with_reducible refine (draw_Stream_Left.slcalls _ _ _ _ _ _ _ _ _ (HF.out.keep HK.out) hs0_  Hc35.out).mono ?_); rintro e_ w42 ⟨A262, c263, rfl, hsr_, hkr_⟩; refine ⟨_, rfl, ?_⟩; have n1_ := Aside0.mk (HK.out.trans hkr_); have n2_ := Aside0.mk (hsr_); clear HK HS; have HK := n1_; have HS := n2_; clear n1_ n2_))
                                  have n2_ := Aside0.mk (SL.get3 (SL.get3 (SL.get1 (SL.get1 HS.out))))
                                  clear HS
                                  have HS := n2_
                                  clear n2_
                                  go_roundg k1
                                  case measure => have := HQ1.out; omega
                                  case rel => exact ⟨(t257), (A258), (c259), (t261), (A262), (c263), (wrap64 (x14_0 + 1)), (by first | rfl | (simp; done) | (simp [*]; done)), H', ⟨by have := HQ1.out; omega⟩, HS, HK⟩
                          · replace c32 := Bool.eq_false_iff.mpr c32
                            subst c32
                            rw [if_neg (show ¬ (false = true) by decide)] at H
                            by_cases c43 : t242 = 0
                            · rw [if_pos c43] at H
                              have c43b0 : (t242 == 0) = true := beq_iff_eq.mpr c43
                              have c43b1 : (t242 != 0) = false := bne_eq_false_iff_eq.mpr c43
                              clear c43
                              replace H := Option.bind_eq_some_iff.1 H
                              obtain ⟨⟨t264, t265⟩, Hc440, H⟩ := H
                              try dsimp only at H
                              have Hc44 := Aside0.mk Hc440
                              clear Hc440
                              by_cases c45 : t264 = t238
                              · rw [if_pos c45] at H
                                have c45b0 : (t264 == t238) = true := beq_iff_eq.mpr c45
                                have c45b1 : (t264 != t238) = false := bne_eq_false_iff_eq.mpr c45
                                clear c45
                                have H' := Aside0.mk H
                                clear H
                                go_wp2_with (first | ((with_reducible refine gate_dst (N := 89) rfl ?_); refine goesL_ (some 89) rfl rfl Try.func13 (by kernel_rfl) rfl #[.pointer (some ⟨g180, 0, none⟩)] rfl (by (try simp only [List.map_toArray, List.map_cons, List.map_nil]); first | done | rfl | (simp; done)) ?_; have hs0_ := (SL.get3 (SL.get3 HS.out)); (with_reducible refine (draw_Stream_Left.slcalls _ _ _ _ _ _ _ _ _ (HF.out.keep HK.out) hs0_  Hc24.out).mono ?_); rintro e_ w46 ⟨A240, c241, rfl, hsr_, hkr_⟩; refine ⟨_, rfl, ?_⟩; have n1_ := Aside0.mk (HK.out.trans hkr_); have n2_ := Aside0.mk (hsr_); clear HK HS; have HK := n1_; have HS := n2_; clear n1_ n2_) | ((with_reducible refine gate_dst (N := 93) rfl ?_); refine goesL_ (some 93) rfl rfl Try.func14 (by kernel_rfl) rfl #[.pointer (some ⟨g180, 0, none⟩), .int .i64 a1] rfl (by (try simp only [List.map_toArray, List.map_cons, List.map_nil]); first | done | rfl | (simp; done)) ?_; have hs0_ := (SL.get1 (SL.get1 HS.out)); (with_reducible refine (draw_Stream_Below.slcalls k1 _ _ _ _ _ _ _ _ _ _ _ (HF.out.keep HK.out) hs0_  Hc25.out).mono ?_); rintro e_ w47 ⟨A245, c246, rfl, hsr_, hkr_⟩; refine ⟨_, rfl, ?_⟩; have n1_ := Aside0.mk (HK.out.trans hkr_); have n2_ := Aside0.mk (hsr_); clear HK HS; have HK := n1_; have HS := n2_; clear n1_ n2_) | ((with_reducible refine gate_dst (N := 99) rfl ?_); refine goesL_ (some 99) rfl rfl Try.func14 (by kernel_rfl) rfl #[.pointer (some ⟨g183, 0, none⟩), .int .i64 a1] rfl (by (try simp only [List.map_toArray, List.map_cons, List.map_nil]); first | done | rfl | (simp; done)) ?_; have hs0_ := (SL.get3 (SL.get3 HS.out)); (with_reducible refine (draw_Stream_Below.slcalls k1 _ _ _ _ _ _ _ _ _ _ _ (HF.out.keep HK.out) hs0_  Hc26.out).mono ?_); rintro e_ w48 ⟨A250, c251, rfl, hsr_, hkr_⟩; refine ⟨_, rfl, ?_⟩; have n1_ := Aside0.mk (HK.out.trans hkr_); have n2_ := Aside0.mk (hsr_); clear HK HS; have HK := n1_; have HS := n2_; clear n1_ n2_) | ((with_reducible refine gate_dst (N := 112) rfl ?_); (try (refine gate_guard (by rfl) ?_; dsimp only)); refine goesL_ (some 112) rfl rfl Try.func13 (by kernel_rfl) rfl #[.pointer (some ⟨g180, 0, none⟩)] rfl (by (try simp only [List.map_toArray, List.map_cons, List.map_nil]); first | done | rfl | (simp; done)) ?_; have hs0_ := (SL.get3 (SL.get3 HS.out)); (with_reducible refine (draw_Stream_Left.slcalls _ _ _ _ _ _ _ _ _ (HF.out.keep HK.out) hs0_  Hc29.out).mono ?_); rintro e_ w49 ⟨A254, c255, rfl, hsr_, hkr_⟩; refine ⟨_, rfl, ?_⟩; have n1_ := Aside0.mk (HK.out.trans hkr_); have n2_ := Aside0.mk (hsr_); clear HK HS; have HK := n1_; have HS := n2_; clear n1_ n2_) | ((with_reducible refine gate_dst (N := 114) rfl ?_); (try (refine gate_guard (by rfl) ?_; dsimp only)); refine goesL_ (some 114) rfl rfl Try.func13 (by kernel_rfl) rfl #[.pointer (some ⟨g183, 0, none⟩)] rfl (by (try simp only [List.map_toArray, List.map_cons, List.map_nil]); first | done | rfl | (simp; done)) ?_; have hs0_ := (SL.get3 (SL.get3 HS.out)); (with_reducible refine (draw_Stream_Left.slcalls _ _ _ _ _ _ _ _ _ (HF.out.keep HK.out) hs0_  Hc30.out).mono ?_); rintro e_ w50 ⟨A258, c259, rfl, hsr_, hkr_⟩; refine ⟨_, rfl, ?_⟩; have n1_ := Aside0.mk (HK.out.trans hkr_); have n2_ := Aside0.mk (hsr_); clear HK HS; have HK := n1_; have HS := n2_; clear n1_ n2_) | ((with_reducible refine gate_dst (N := 143) rfl ?_); (try (refine gate_guard (by rfl) ?_; dsimp only)); refine goesL_ (some 143) rfl rfl Try.func13 (by kernel_rfl) rfl #[.pointer (some ⟨g180, 0, none⟩)] rfl (by (try simp only [List.map_toArray, List.map_cons, List.map_nil]); first | done | rfl | (simp; done)) ?_; have hs0_ := (SL.get3 (SL.get3 HS.out)); (with_reducible refine (draw_Stream_Left.slcalls _ _ _ _ _ _ _ _ _ (HF.out.keep HK.out) hs0_  Hc44.out).mono ?_); rintro e_ w51 ⟨A266, c267, rfl, hsr_, hkr_⟩; refine ⟨_, rfl, ?_⟩; have n1_ := Aside0.mk (HK.out.trans hkr_); have n2_ := Aside0.mk (hsr_); clear HK HS; have HK := n1_; have HS := n2_; clear n1_ n2_))
                                have n2_ := Aside0.mk (SL.get3 (SL.get3 (SL.get1 (SL.get1 HS.out))))
                                clear HS
                                have HS := n2_
                                clear n2_
                                go_roundg k1
                                case measure => have := HQ1.out; omega
                                case rel => exact ⟨(t257), (A258), (c259), (t265), (A266), (c267), (wrap64 (x14_0 + 1)), (by first | rfl | (simp; done) | (simp [*]; done)), H', ⟨by have := HQ1.out; omega⟩, HS, HK⟩
                              · rw [if_neg c45] at H
                                exact absurd H (by simp)
                            · rw [if_neg c43] at H
                              exact absurd H (by simp)
                        · rw [if_neg c31] at H
                          exact absurd H (by simp)
                    · rw [if_neg c27] at H
                      exact absurd H (by simp)
                  · rw [if_neg c23] at H
                    have c23b0 : decide (x14_0 ≤ (l0.length : Int)) = false := decide_eq_false c23
                    clear c23
                    obtain rfl := Option.some.inj H
                    go_wp2
                    go_ret
                    have n2_ := Aside0.mk (SL.tail (SL.tail (SL.tail (SL.tail HS.out))))
                    clear HS
                    have HS := n2_
                    clear n2_
                    unfold barrowlaw02_DrawParts.Post
                    exact ⟨by first | rfl | (simp; done) | (simp [*]; done), HS.out, HK.out⟩
            · rw [if_neg c16] at H
              exact absurd H (by simp)
          · rw [if_neg c15] at H
            exact absurd H (by simp)
        · rw [if_neg c14] at H
          have c14b0 : (t188 == 0) = false := beq_eq_false_iff_ne.mpr c14
          have c14b1 : (t188 != 0) = true := bne_iff_ne.mpr c14
          by_cases c52 : t179 = true
          · subst c52
            rw [if_pos rfl] at H
            by_cases c53 : t188 = 1
            · rw [if_pos c53] at H
              have c53b0 : (t188 == 1) = true := beq_iff_eq.mpr c53
              have c53b1 : (t188 != 1) = false := bne_eq_false_iff_eq.mpr c53
              clear c53
              by_cases c54 : t196 = 1
              · rw [if_pos c54] at H
                have c54b0 : (t196 == 1) = true := beq_iff_eq.mpr c54
                have c54b1 : (t196 != 1) = false := bne_eq_false_iff_eq.mpr c54
                clear c54
                obtain rfl := Option.some.inj H
                go_enter Try.func4, Try.ntmps4
                go_wp2_with (first | ((with_reducible refine gate_dst (N := 20) rfl ?_); refine goesL_ (some 20) rfl rfl Try.func8 (by kernel_rfl) rfl #[] rfl (by (try simp only [List.map_toArray, List.map_cons, List.map_nil]); first | done | rfl | (simp; done)) ?_; have hs0_ := HS.out; (with_reducible refine (barrowlaw02_small.slcalls k _ _ _ _ (HF.out.keep HK.out) hs0_  Hc1.out).mono ?_); rintro e_ w55 ⟨rfl, hsr_, hkr_⟩; refine ⟨_, rfl, ?_⟩; have n1_ := Aside0.mk (HK.out.trans hkr_); have n2_ := Aside0.mk (hsr_); clear HK HS; have HK := n1_; have HS := n2_; clear n1_ n2_) | ((with_reducible refine gate_dst (N := 21) rfl ?_); refine goesL_ (some 21) rfl rfl Try.func11 (by kernel_rfl) rfl #[] rfl (by (try simp only [List.map_toArray, List.map_cons, List.map_nil]); first | done | rfl | (simp; done)) ?_; have hs0_ := HS.out; (with_reducible refine (draw_New.slcalls _ _ _ _ (HF.out.keep HK.out) hs0_  Hc2.out).mono ?_); rintro e_ w56 ⟨Az182, cz182, g180, rfl, hsr_, hkr_⟩; refine ⟨_, rfl, ?_⟩; have n1_ := Aside0.mk (HK.out.trans hkr_); have n2_ := Aside0.mk (hsr_); clear HK HS; have HK := n1_; have HS := n2_; clear n1_ n2_) | ((with_reducible refine gate_dst (N := 22) rfl ?_); refine goesL_ (some 22) rfl rfl Try.func11 (by kernel_rfl) rfl #[] rfl (by (try simp only [List.map_toArray, List.map_cons, List.map_nil]); first | done | rfl | (simp; done)) ?_; have hs0_ := HS.out; (with_reducible refine (draw_New.slcalls _ _ _ _ (HF.out.keep HK.out) hs0_  Hc3.out).mono ?_); rintro e_ w57 ⟨Az185, cz185, g183, rfl, hsr_, hkr_⟩; refine ⟨_, rfl, ?_⟩; have n1_ := Aside0.mk (HK.out.trans hkr_); have n2_ := Aside0.mk (hsr_); clear HK HS; have HK := n1_; have HS := n2_; clear n1_ n2_) | ((with_reducible refine gate_dst (N := 50) rfl ?_); refine goesL_ (some 50) rfl rfl Try.func12 (by kernel_rfl) rfl #[.pointer (some ⟨g180, 0, none⟩), .slice A0 l0.length c0] rfl (by (try simp only [List.map_toArray, List.map_cons, List.map_nil]); first | done | rfl | (simp; done)) ?_; have hs0_ := (SL.get3 (SL.get3 HS.out)); (with_reducible refine (draw_Stream_Feed.slcalls k _ _ _ _ _ _ _ _ _ _ _ _ (HF.out.keep HK.out) hs0_ (HR0.out.keep HK.out) HC0.out Hc9.out).mono ?_); rintro e_ w58 ⟨A190, c191, rfl, hsr_, hkr_⟩; refine ⟨_, rfl, ?_⟩; have n1_ := Aside0.mk (HK.out.trans hkr_); have n2_ := Aside0.mk (hsr_); clear HK HS; have HK := n1_; have HS := n2_; clear n1_ n2_; have hv_ := cut_upto (P := Try.prog) (Kd.int .i64) 22 3 .i64 .i64 Try.underlying22 (by kernel_rfl) rfl A0 l0.length c0 l0 rfl HC0.out j187 (of_decide_eq_true (by first | (with_reducible assumption) | assumption)) (of_decide_eq_true (by first | (with_reducible assumption) | assumption) : j187 ≤ ((l0.length : Int) : Int)) y192 Ny192.out; obtain ⟨hcvq195, hcs_, hcc_, hcl_⟩ := hv_; have HRq195 := Aside0.mk (RO.imp HR0.out hcc_); have HCq195 := Aside0.mk hcl_; clear hcs_ hcc_ hcl_) | ((with_reducible refine gate_dst (N := 55) rfl ?_); refine goesL_ (some 55) rfl rfl Try.func12 (by kernel_rfl) rfl #[.pointer (some ⟨g183, 0, none⟩), .slice A0 y192.length c0] rfl (by (try simp only [List.map_toArray, List.map_cons, List.map_nil]); first | done | rfl | (simp; done)) ?_; have hs0_ := (SL.get3 (SL.get3 HS.out)); (with_reducible refine (draw_Stream_Feed.slcalls k _ _ _ _ _ _ _ _ _ _ _ _ (HF.out.keep HK.out) hs0_ (HRq195.out.keep HK.out) HCq195.out Hc12.out).mono ?_); rintro e_ w59 ⟨A198, c199, rfl, hsr_, hkr_⟩; refine ⟨_, rfl, ?_⟩; have n1_ := Aside0.mk (HK.out.trans hkr_); have n2_ := Aside0.mk (hsr_); clear HK HS; have HK := n1_; have HS := n2_; clear n1_ n2_; obtain ⟨A201, c202, hcvq203, hcs_, hcc_, hcl_⟩ := cut_of (P := Try.prog) (Kd.int .i64) 22 3 .i64 .i64 Try.underlying22 (by kernel_rfl) rfl A0 l0.length c0 l0 rfl HC0.out j187 (of_decide_eq_true (by first | (with_reducible assumption) | assumption)) (of_decide_eq_true (by first | (with_reducible assumption) | assumption) : j187 ≤ ((l0.length : Int) : Int)) y200 Ny200.out; have HRq203 := Aside0.mk (RO.imp HR0.out hcc_); have HCq203 := Aside0.mk hcl_; clear hcs_ hcc_ hcl_) | ((with_reducible refine gate_dst (N := 60) rfl ?_); refine goesL_ (some 60) rfl rfl Try.func12 (by kernel_rfl) rfl #[.pointer (some ⟨g183, 0, none⟩), .slice A201 y200.length c202] rfl (by (try simp only [List.map_toArray, List.map_cons, List.map_nil]); first | done | rfl | (simp; done)) ?_; have hs0_ := (SL.get1 (SL.get1 HS.out)); (with_reducible refine (draw_Stream_Feed.slcalls k _ _ _ _ _ _ _ _ _ _ _ _ (HF.out.keep HK.out) hs0_ (HRq203.out.keep HK.out) HCq203.out Hc13.out).mono ?_); rintro e_ w60 ⟨A206, c207, rfl, hsr_, hkr_⟩; refine ⟨_, rfl, ?_⟩; have n1_ := Aside0.mk (HK.out.trans hkr_); have n2_ := Aside0.mk (hsr_); clear HK HS; have HK := n1_; have HS := n2_; clear n1_ n2_))
                go_ret
                have n2_ := Aside0.mk (SL.tail (SL.tail (SL.tail (SL.tail HS.out))))
                clear HS
                have HS := n2_
                clear n2_
                unfold barrowlaw02_DrawParts.Post
                exact ⟨by first | rfl | (simp; done) | (simp [*]; done), HS.out, HK.out⟩
              · rw [if_neg c54] at H
                have c54b0 : (t196 == 1) = false := beq_eq_false_iff_ne.mpr c54
                have c54b1 : (t196 != 1) = true := bne_iff_ne.mpr c54
                obtain rfl := Option.some.inj H
                go_enter Try.func4, Try.ntmps4
                go_wp2_with (first | ((with_reducible refine gate_dst (N := 20) rfl ?_); refine goesL_ (some 20) rfl rfl Try.func8 (by kernel_rfl) rfl #[] rfl (by (try simp only [List.map_toArray, List.map_cons, List.map_nil]); first | done | rfl | (simp; done)) ?_; have hs0_ := HS.out; (with_reducible refine (barrowlaw02_small.slcalls k _ _ _ _ (HF.out.keep HK.out) hs0_  Hc1.out).mono ?_); rintro e_ w61 ⟨rfl, hsr_, hkr_⟩; refine ⟨_, rfl, ?_⟩; have n1_ := Aside0.mk (HK.out.trans hkr_); have n2_ := Aside0.mk (hsr_); clear HK HS; have HK := n1_; have HS := n2_; clear n1_ n2_) | ((with_reducible refine gate_dst (N := 21) rfl ?_); refine goesL_ (some 21) rfl rfl Try.func11 (by kernel_rfl) rfl #[] rfl (by (try simp only [List.map_toArray, List.map_cons, List.map_nil]); first | done | rfl | (simp; done)) ?_; have hs0_ := HS.out; (with_reducible refine (draw_New.slcalls _ _ _ _ (HF.out.keep HK.out) hs0_  Hc2.out).mono ?_); rintro e_ w62 ⟨Az182, cz182, g180, rfl, hsr_, hkr_⟩; refine ⟨_, rfl, ?_⟩; have n1_ := Aside0.mk (HK.out.trans hkr_); have n2_ := Aside0.mk (hsr_); clear HK HS; have HK := n1_; have HS := n2_; clear n1_ n2_) | ((with_reducible refine gate_dst (N := 22) rfl ?_); refine goesL_ (some 22) rfl rfl Try.func11 (by kernel_rfl) rfl #[] rfl (by (try simp only [List.map_toArray, List.map_cons, List.map_nil]); first | done | rfl | (simp; done)) ?_; have hs0_ := HS.out; (with_reducible refine (draw_New.slcalls _ _ _ _ (HF.out.keep HK.out) hs0_  Hc3.out).mono ?_); rintro e_ w63 ⟨Az185, cz185, g183, rfl, hsr_, hkr_⟩; refine ⟨_, rfl, ?_⟩; have n1_ := Aside0.mk (HK.out.trans hkr_); have n2_ := Aside0.mk (hsr_); clear HK HS; have HK := n1_; have HS := n2_; clear n1_ n2_) | ((with_reducible refine gate_dst (N := 50) rfl ?_); refine goesL_ (some 50) rfl rfl Try.func12 (by kernel_rfl) rfl #[.pointer (some ⟨g180, 0, none⟩), .slice A0 l0.length c0] rfl (by (try simp only [List.map_toArray, List.map_cons, List.map_nil]); first | done | rfl | (simp; done)) ?_; have hs0_ := (SL.get3 (SL.get3 HS.out)); (with_reducible refine (draw_Stream_Feed.slcalls k _ _ _ _ _ _ _ _ _ _ _ _ (HF.out.keep HK.out) hs0_ (HR0.out.keep HK.out) HC0.out Hc9.out).mono ?_); rintro e_ w64 ⟨A190, c191, rfl, hsr_, hkr_⟩; refine ⟨_, rfl, ?_⟩; have n1_ := Aside0.mk (HK.out.trans hkr_); have n2_ := Aside0.mk (hsr_); clear HK HS; have HK := n1_; have HS := n2_; clear n1_ n2_; have hv_ := cut_upto (P := Try.prog) (Kd.int .i64) 22 3 .i64 .i64 Try.underlying22 (by kernel_rfl) rfl A0 l0.length c0 l0 rfl HC0.out j187 (of_decide_eq_true (by first | (with_reducible assumption) | assumption)) (of_decide_eq_true (by first | (with_reducible assumption) | assumption) : j187 ≤ ((l0.length : Int) : Int)) y192 Ny192.out; obtain ⟨hcvq195, hcs_, hcc_, hcl_⟩ := hv_; have HRq195 := Aside0.mk (RO.imp HR0.out hcc_); have HCq195 := Aside0.mk hcl_; clear hcs_ hcc_ hcl_) | ((with_reducible refine gate_dst (N := 55) rfl ?_); refine goesL_ (some 55) rfl rfl Try.func12 (by kernel_rfl) rfl #[.pointer (some ⟨g183, 0, none⟩), .slice A0 y192.length c0] rfl (by (try simp only [List.map_toArray, List.map_cons, List.map_nil]); first | done | rfl | (simp; done)) ?_; have hs0_ := (SL.get3 (SL.get3 HS.out)); (with_reducible refine (draw_Stream_Feed.slcalls k _ _ _ _ _ _ _ _ _ _ _ _ (HF.out.keep HK.out) hs0_ (HRq195.out.keep HK.out) HCq195.out Hc12.out).mono ?_); rintro e_ w65 ⟨A198, c199, rfl, hsr_, hkr_⟩; refine ⟨_, rfl, ?_⟩; have n1_ := Aside0.mk (HK.out.trans hkr_); have n2_ := Aside0.mk (hsr_); clear HK HS; have HK := n1_; have HS := n2_; clear n1_ n2_; obtain ⟨A201, c202, hcvq203, hcs_, hcc_, hcl_⟩ := cut_of (P := Try.prog) (Kd.int .i64) 22 3 .i64 .i64 Try.underlying22 (by kernel_rfl) rfl A0 l0.length c0 l0 rfl HC0.out j187 (of_decide_eq_true (by first | (with_reducible assumption) | assumption)) (of_decide_eq_true (by first | (with_reducible assumption) | assumption) : j187 ≤ ((l0.length : Int) : Int)) y200 Ny200.out; have HRq203 := Aside0.mk (RO.imp HR0.out hcc_); have HCq203 := Aside0.mk hcl_; clear hcs_ hcc_ hcl_) | ((with_reducible refine gate_dst (N := 60) rfl ?_); refine goesL_ (some 60) rfl rfl Try.func12 (by kernel_rfl) rfl #[.pointer (some ⟨g183, 0, none⟩), .slice A201 y200.length c202] rfl (by (try simp only [List.map_toArray, List.map_cons, List.map_nil]); first | done | rfl | (simp; done)) ?_; have hs0_ := (SL.get1 (SL.get1 HS.out)); (with_reducible refine (draw_Stream_Feed.slcalls k _ _ _ _ _ _ _ _ _ _ _ _ (HF.out.keep HK.out) hs0_ (HRq203.out.keep HK.out) HCq203.out Hc13.out).mono ?_); rintro e_ w66 ⟨A206, c207, rfl, hsr_, hkr_⟩; refine ⟨_, rfl, ?_⟩; have n1_ := Aside0.mk (HK.out.trans hkr_); have n2_ := Aside0.mk (hsr_); clear HK HS; have HK := n1_; have HS := n2_; clear n1_ n2_))
                go_ret
                have n2_ := Aside0.mk (SL.tail (SL.tail (SL.tail (SL.tail HS.out))))
                clear HS
                have HS := n2_
                clear n2_
                unfold barrowlaw02_DrawParts.Post
                exact ⟨by first | rfl | (simp; done) | (simp [*]; done), HS.out, HK.out⟩
            · rw [if_neg c53] at H
              exact absurd H (by simp)
          · replace c52 := Bool.eq_false_iff.mpr c52
            subst c52
            rw [if_neg (show ¬ (false = true) by decide)] at H
            exact absurd H (by simp)
      · rw [if_neg c11] at H
        exact absurd H (by simp)
    · rw [if_neg c10] at H
      exact absurd H (by simp)
theorem barrowlaw02_DrawParts.calls (k : Nat) (A0 : Option Addr) (c0 : Nat) (l0 : List Int) (a1 : Int) (a2 : Int) (r : Bool) (w : World) (hr0 : Kd.C (Kd.int .i64) w A0 l0.length l0) (hc0 : l0.length ≤ c0) (h : barrowlaw02_DrawParts.f k l0 a1 a2 = some r) :
    Calls Try.prog 4 #[.slice A0 l0.length c0, .int .i64 a1, .int .i64 a2] w fun e w' => e = .returned (.bool r) ∧ Below w.heap.size w w' :=
  (barrowlaw02_DrawParts.slcalls k A0 c0 l0 a1 a2 r (news w) [] w (fresh_news w) trivial (RO.top hr0) hc0 h).mono fun _ _ h => ⟨h.1, h.2.2.to_below⟩

/-- THE ONE PURE STATEMENT of barrowlaw02_DrawParts. -/
def barrowlaw02_DrawParts.Pure : Prop := ∀ (l0 : List Int) (a1 : Int) (a2 : Int), (l0.length ≤ maxLen ∧ l0.length * 8 ≤ 140737488351232 ∧ ∀ x268_ ∈ l0, (Lit.int .i64 x268_).wf = true) → ((Lit.int .i64 a1).wf = true) → ((Lit.int .i64 a2).wf = true) → ∃ k, barrowlaw02_DrawParts.f k l0 a1 a2 = some true

end Go.Proofs.Ytkffeglkbpfndaa.XDR
