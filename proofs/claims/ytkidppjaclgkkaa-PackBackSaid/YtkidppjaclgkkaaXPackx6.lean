-- Written by xprint.py (a program of this session) for this claim
import Derived.Test.YtkidppjaclgkkaaXPackx0
import Derived.Test.YtkidppjaclgkkaaXPackx1
import Derived.Test.YtkidppjaclgkkaaXPackx2
import Derived.Test.YtkidppjaclgkkaaXPackx3
import Derived.Test.YtkidppjaclgkkaaXPackx4
namespace Go.Proofs.Ytkidppjaclgkkaa.XPack
open Go.Proofs.YtkidppjaclgkkaaV
open Go.RowKit Go.Proofs.YtkidppjaclgkkaaW.PrintWords Go.Proofs.YtkidppjaclgkkaaW.PrintLast Go.Proofs.YtkidppjaclgkkaaW.PrintMore
attribute [local go_sem] max2_int min2_int max_two min_two max_three min_three max_four min_four   -- for this text's walks alone
set_option linter.unusedVariables false
set_option linter.unusedSimpArgs false

/-! ### barrowlaw03_PackReads: function 5 -/
def barrowlaw03_PackReads.j0 : Nat → List Int → Int → Int → Bool → Bool → Option (Bool)
  | 0, _, _, _, _, _ => none
  | k + 1, x0, x1, x2, x7, x84 => if x84 = true then (none) else ((pack_ReadText.f k x0 x1 x2).bind fun bt236 => ((barrowref03_ReadText.f k x0 x1 x2).bind fun bt239 => ((pack_ReadInts.f k x0 x1 x2).bind fun bt242 => ((barrowref03_ReadInts.f k x0 x1 x2).bind fun bt247 => (if x7 = true then (if bt236.1.toList = bt239.1.toList then (if bt236.2.1 = bt239.2.1 then (if bt236.2.2 = bt239.2.2 then ((barrowref02_Same.f k bt242.1 bt247.1).bind fun t252 => (if t252 = true then (if bt242.2.1 = bt247.2.1 then (some (bt242.2.2 == bt247.2.2)) else (none)) else (none))) else (none)) else (none)) else (none)) else (none))))))
def barrowlaw03_PackReads.f (k : Nat) (l0 : List Int) (a1 : Int) (a2 : Int) : Option (Bool) := (barrowlaw03_small.f k).bind fun t223 => (if (l0.length : Int) > 2048 then (some t223) else ((pack_ReadUint.f k l0 a1).bind fun bt224 => ((barrowref03_ReadUint.f k l0 a1).bind fun bt227 => ((pack_ReadInt.f k l0 a1).bind fun bt230 => ((barrowref03_ReadInt.f k l0 a1).bind fun bt233 => (if bt224.1 = bt227.1 then (if bt224.2.1 = bt227.2.1 then (if bt224.2.2 = bt227.2.2 then (if bt230.1 = bt233.1 then (if bt230.2.1 = bt233.2.1 then (barrowlaw03_PackReads.j0 k l0 a1 a2 t223 (bt230.2.2 != bt233.2.2)) else (barrowlaw03_PackReads.j0 k l0 a1 a2 t223 true)) else (barrowlaw03_PackReads.j0 k l0 a1 a2 t223 true)) else (barrowlaw03_PackReads.j0 k l0 a1 a2 t223 true)) else (barrowlaw03_PackReads.j0 k l0 a1 a2 t223 true)) else (barrowlaw03_PackReads.j0 k l0 a1 a2 t223 true)))))))
theorem barrowlaw03_PackReads.mono_l : ∀ k, (∀ y0 y1 y2 y3 y4, LeO (barrowlaw03_PackReads.j0 k y0 y1 y2 y3 y4) (barrowlaw03_PackReads.j0 (k + 1) y0 y1 y2 y3 y4))
  | 0 => fun _ _ _ _ _ r h => by simp [barrowlaw03_PackReads.j0] at h
  | k + 1 => by
    have ih0 := barrowlaw03_PackReads.mono_l k
    · intro y0 y1 y2 y3 y4
      unfold barrowlaw03_PackReads.j0
      repeat' first
      | (with_reducible exact ih0 _ _ _ _ _)
      | (with_reducible exact barrowlaw03_small.mono _)
      | (with_reducible exact barrowref02_Same.mono _ _ _)
      | (with_reducible exact barrowref03_ReadInt.mono _ _ _)
      | (with_reducible exact barrowref03_ReadInts.mono _ _ _ _)
      | (with_reducible exact barrowref03_ReadText.mono _ _ _ _)
      | (with_reducible exact barrowref03_ReadUint.mono _ _ _)
      | (with_reducible exact pack_ReadInt.mono _ _ _)
      | (with_reducible exact pack_ReadInts.mono _ _ _ _)
      | (with_reducible exact pack_ReadText.mono _ _ _ _)
      | (with_reducible exact pack_ReadUint.mono _ _ _)
      | (with_reducible exact LeO.refl _)
      | (with_reducible exact LeO.none _)
      | (with_reducible refine LeO.ite ?_ ?_)
      | (with_reducible refine LeO.bind ?_ (fun _ => ?_))
      | exact ih0 _ _ _ _ _
      | exact barrowlaw03_small.mono _
      | exact barrowref02_Same.mono _ _ _
      | exact barrowref03_ReadInt.mono _ _ _
      | exact barrowref03_ReadInts.mono _ _ _ _
      | exact barrowref03_ReadText.mono _ _ _ _
      | exact barrowref03_ReadUint.mono _ _ _
      | exact pack_ReadInt.mono _ _ _
      | exact pack_ReadInts.mono _ _ _ _
      | exact pack_ReadText.mono _ _ _ _
      | exact pack_ReadUint.mono _ _ _
      | exact LeO.none _
      | refine LeO.ite ?_ ?_
      | refine LeO.bind ?_ (fun _ => ?_)
theorem barrowlaw03_PackReads.mono : ∀ a0 a1 a2 k, LeO (barrowlaw03_PackReads.f k a0 a1 a2) (barrowlaw03_PackReads.f (k + 1) a0 a1 a2) := by
  intro a0 a1 a2 k
  have ih0 := barrowlaw03_PackReads.mono_l k
  unfold barrowlaw03_PackReads.f
  repeat' first
      | (with_reducible exact ih0 _ _ _ _ _)
      | (with_reducible exact barrowlaw03_small.mono _)
      | (with_reducible exact barrowref02_Same.mono _ _ _)
      | (with_reducible exact barrowref03_ReadInt.mono _ _ _)
      | (with_reducible exact barrowref03_ReadInts.mono _ _ _ _)
      | (with_reducible exact barrowref03_ReadText.mono _ _ _ _)
      | (with_reducible exact barrowref03_ReadUint.mono _ _ _)
      | (with_reducible exact pack_ReadInt.mono _ _ _)
      | (with_reducible exact pack_ReadInts.mono _ _ _ _)
      | (with_reducible exact pack_ReadText.mono _ _ _ _)
      | (with_reducible exact pack_ReadUint.mono _ _ _)
      | (with_reducible exact LeO.refl _)
      | (with_reducible exact LeO.none _)
      | (with_reducible refine LeO.ite ?_ ?_)
      | (with_reducible refine LeO.bind ?_ (fun _ => ?_))
      | exact ih0 _ _ _ _ _
      | exact barrowlaw03_small.mono _
      | exact barrowref02_Same.mono _ _ _
      | exact barrowref03_ReadInt.mono _ _ _
      | exact barrowref03_ReadInts.mono _ _ _ _
      | exact barrowref03_ReadText.mono _ _ _ _
      | exact barrowref03_ReadUint.mono _ _ _
      | exact pack_ReadInt.mono _ _ _
      | exact pack_ReadInts.mono _ _ _ _
      | exact pack_ReadText.mono _ _ _ _
      | exact pack_ReadUint.mono _ _ _
      | exact LeO.none _
      | refine LeO.ite ?_ ?_
      | refine LeO.bind ?_ (fun _ => ?_)
set_option maxHeartbeats 8000000 in
set_option maxRecDepth 100000 in
theorem barrowlaw03_PackReads.calls (k : Nat) (A0 : Option Addr) (c0 : Nat) (l0 : List Int) (a1 : Int) (a2 : Int) (r : Bool) (w : World) (hr0 : Kd.C (Kd.int .u8) w A0 l0.length l0) (hc0 : l0.length ≤ c0) (h : barrowlaw03_PackReads.f k l0 a1 a2 = some r) :
    Calls Try.prog 5 #[.slice A0 l0.length c0, .int .i64 a1, .int .i64 a2] w fun e w' => e = .returned (.bool r) ∧ Below w.heap.size w w' := by
  have HR0 := Aside0.mk hr0
  have HC0 := Aside0.mk hc0
  clear hr0 hc0
  have HB := Aside0.mk (Below.refl w.heap.size w)
  have H : ((barrowlaw03_small.f k).bind fun t223 => (if (l0.length : Int) > 2048 then (some t223) else ((pack_ReadUint.f k l0 a1).bind fun bt224 => ((barrowref03_ReadUint.f k l0 a1).bind fun bt227 => ((pack_ReadInt.f k l0 a1).bind fun bt230 => ((barrowref03_ReadInt.f k l0 a1).bind fun bt233 => (if bt224.1 = bt227.1 then (if bt224.2.1 = bt227.2.1 then (if bt224.2.2 = bt227.2.2 then (if bt230.1 = bt233.1 then (if bt230.2.1 = bt233.2.1 then (barrowlaw03_PackReads.j0 k l0 a1 a2 t223 (bt230.2.2 != bt233.2.2)) else (barrowlaw03_PackReads.j0 k l0 a1 a2 t223 true)) else (barrowlaw03_PackReads.j0 k l0 a1 a2 t223 true)) else (barrowlaw03_PackReads.j0 k l0 a1 a2 t223 true)) else (barrowlaw03_PackReads.j0 k l0 a1 a2 t223 true)) else (barrowlaw03_PackReads.j0 k l0 a1 a2 t223 true)))))))) = some r := h
  clear h
  replace H := Option.bind_eq_some_iff.mp H
  obtain ⟨t223, A40, H⟩ := H
  replace H : (if (l0.length : Int) > 2048 then (some t223) else ((pack_ReadUint.f k l0 a1).bind fun bt224 => ((barrowref03_ReadUint.f k l0 a1).bind fun bt227 => ((pack_ReadInt.f k l0 a1).bind fun bt230 => ((barrowref03_ReadInt.f k l0 a1).bind fun bt233 => (if bt224.1 = bt227.1 then (if bt224.2.1 = bt227.2.1 then (if bt224.2.2 = bt227.2.2 then (if bt230.1 = bt233.1 then (if bt230.2.1 = bt233.2.1 then (barrowlaw03_PackReads.j0 k l0 a1 a2 t223 (bt230.2.2 != bt233.2.2)) else (barrowlaw03_PackReads.j0 k l0 a1 a2 t223 true)) else (barrowlaw03_PackReads.j0 k l0 a1 a2 t223 true)) else (barrowlaw03_PackReads.j0 k l0 a1 a2 t223 true)) else (barrowlaw03_PackReads.j0 k l0 a1 a2 t223 true)) else (barrowlaw03_PackReads.j0 k l0 a1 a2 t223 true))))))) = some r := H
  have A4 := Aside0.mk A40
  clear A40
  by_cases c5 : (l0.length : Int) > 2048
  · rw [if_pos c5] at H
    have c5b0 : decide (2048 < (l0.length : Int)) = true := decide_eq_true c5
    have c5b1 : decide (2048 < l0.length) = true := decide_eq_true (by omega)
    clear c5
    obtain rfl := Option.some.inj H
    go_enter Try.func5, Try.ntmps5
    go_wp2_with (first | ((with_reducible refine gate_callee (f := 7) rfl ?_); refine goesL_ (some 24) rfl rfl Try.func7 (by kernel_rfl) rfl #[] rfl (by (try simp only [List.map_toArray, List.map_cons, List.map_nil]); first | done | rfl | (simp only [List.length_drop, List.length_take]; rfl)) ?_; (with_reducible refine (barrowlaw03_small.calls k  t223 _ A4.out).mono ?_); rintro e w6 ⟨rfl, hb⟩; refine ⟨_, rfl, ?_⟩; have n0_ := Aside0.mk (below_step (by repeat (first | (with_reducible first | exact HB.out | apply below_alloc | apply pw_below_drewN | apply below_drew1) | exact HB.out)) hb); clear HB; have HB := n0_; clear n0_; (try clear hb); (try clear hb2); (try clear hk); (try clear hi)))
    go_ret
    exact ⟨by first | rfl | (simp [errW_none, errW_some] <;> rfl) | (simp [*, errW_none, errW_some] <;> rfl), by repeat (first | (with_reducible first | exact HB.out | apply below_alloc | apply pw_below_drewN | apply below_drew1) | exact HB.out)⟩
  · rw [if_neg c5] at H
    have c5b0 : decide (2048 < (l0.length : Int)) = false := decide_eq_false c5
    have c5b1 : decide (2048 < l0.length) = false := decide_eq_false (by omega)
    clear c5
    replace H := Option.bind_eq_some_iff.mp H
    obtain ⟨⟨t224, t225, t226⟩, A70, H⟩ := H
    replace H : ((barrowref03_ReadUint.f k l0 a1).bind fun bt227 => ((pack_ReadInt.f k l0 a1).bind fun bt230 => ((barrowref03_ReadInt.f k l0 a1).bind fun bt233 => (if t224 = bt227.1 then (if t225 = bt227.2.1 then (if t226 = bt227.2.2 then (if bt230.1 = bt233.1 then (if bt230.2.1 = bt233.2.1 then (barrowlaw03_PackReads.j0 k l0 a1 a2 t223 (bt230.2.2 != bt233.2.2)) else (barrowlaw03_PackReads.j0 k l0 a1 a2 t223 true)) else (barrowlaw03_PackReads.j0 k l0 a1 a2 t223 true)) else (barrowlaw03_PackReads.j0 k l0 a1 a2 t223 true)) else (barrowlaw03_PackReads.j0 k l0 a1 a2 t223 true)) else (barrowlaw03_PackReads.j0 k l0 a1 a2 t223 true))))) = some r := H
    have A7 := Aside0.mk A70
    clear A70
    replace H := Option.bind_eq_some_iff.mp H
    obtain ⟨⟨t227, t228, t229⟩, A80, H⟩ := H
    replace H : ((pack_ReadInt.f k l0 a1).bind fun bt230 => ((barrowref03_ReadInt.f k l0 a1).bind fun bt233 => (if t224 = t227 then (if t225 = t228 then (if t226 = t229 then (if bt230.1 = bt233.1 then (if bt230.2.1 = bt233.2.1 then (barrowlaw03_PackReads.j0 k l0 a1 a2 t223 (bt230.2.2 != bt233.2.2)) else (barrowlaw03_PackReads.j0 k l0 a1 a2 t223 true)) else (barrowlaw03_PackReads.j0 k l0 a1 a2 t223 true)) else (barrowlaw03_PackReads.j0 k l0 a1 a2 t223 true)) else (barrowlaw03_PackReads.j0 k l0 a1 a2 t223 true)) else (barrowlaw03_PackReads.j0 k l0 a1 a2 t223 true)))) = some r := H
    have A8 := Aside0.mk A80
    clear A80
    replace H := Option.bind_eq_some_iff.mp H
    obtain ⟨⟨t230, t231, t232⟩, A90, H⟩ := H
    replace H : ((barrowref03_ReadInt.f k l0 a1).bind fun bt233 => (if t224 = t227 then (if t225 = t228 then (if t226 = t229 then (if t230 = bt233.1 then (if t231 = bt233.2.1 then (barrowlaw03_PackReads.j0 k l0 a1 a2 t223 (t232 != bt233.2.2)) else (barrowlaw03_PackReads.j0 k l0 a1 a2 t223 true)) else (barrowlaw03_PackReads.j0 k l0 a1 a2 t223 true)) else (barrowlaw03_PackReads.j0 k l0 a1 a2 t223 true)) else (barrowlaw03_PackReads.j0 k l0 a1 a2 t223 true)) else (barrowlaw03_PackReads.j0 k l0 a1 a2 t223 true))) = some r := H
    have A9 := Aside0.mk A90
    clear A90
    replace H := Option.bind_eq_some_iff.mp H
    obtain ⟨⟨t233, t234, t235⟩, A100, H⟩ := H
    replace H : (if t224 = t227 then (if t225 = t228 then (if t226 = t229 then (if t230 = t233 then (if t231 = t234 then (barrowlaw03_PackReads.j0 k l0 a1 a2 t223 (t232 != t235)) else (barrowlaw03_PackReads.j0 k l0 a1 a2 t223 true)) else (barrowlaw03_PackReads.j0 k l0 a1 a2 t223 true)) else (barrowlaw03_PackReads.j0 k l0 a1 a2 t223 true)) else (barrowlaw03_PackReads.j0 k l0 a1 a2 t223 true)) else (barrowlaw03_PackReads.j0 k l0 a1 a2 t223 true)) = some r := H
    have A10 := Aside0.mk A100
    clear A100
    have HC11 := Aside0.mk H
    clear H
    go_enter Try.func5, Try.ntmps5
    go_upto_region 8 with (first | ((with_reducible refine gate_callee (f := 7) rfl ?_); refine goesL_ (some 24) rfl rfl Try.func7 (by kernel_rfl) rfl #[] rfl (by (try simp only [List.map_toArray, List.map_cons, List.map_nil]); first | done | rfl | (simp only [List.length_drop, List.length_take]; rfl)) ?_; (with_reducible refine (barrowlaw03_small.calls k  t223 _ A4.out).mono ?_); rintro e w12 ⟨rfl, hb⟩; refine ⟨_, rfl, ?_⟩; have n0_ := Aside0.mk (below_step (by repeat (first | (with_reducible first | exact HB.out | apply below_alloc | apply pw_below_drewN | apply below_drew1) | exact HB.out)) hb); clear HB; have HB := n0_; clear n0_; (try clear hb); (try clear hb2); (try clear hk); (try clear hi)) | ((with_reducible refine gate_callee (f := 18) rfl ?_); refine goesL_ (some 32) rfl rfl Try.func18 (by kernel_rfl) rfl #[.slice A0 l0.length c0, .int .i64 a1] rfl (by (try simp only [List.map_toArray, List.map_cons, List.map_nil]); first | done | rfl | (simp only [List.length_drop, List.length_take]; rfl)) ?_; (with_reducible refine (pack_ReadUint.calls k _ _ l0 a1 t224 t225 t226 _ ?side1 ?side2 A7.out).mono ?_); (case side1 => repeat (first | exact (Kd.C_below HR0.out HB.out) | (with_reducible refine Kd.C_alloc ?_ _) | (with_reducible refine Kd.C_drewN ?_ _) | (with_reducible refine Kd.C_drew ?_))); (case side2 => exact HC0.out); rintro e w13 ⟨rfl, hb⟩; refine ⟨_, rfl, ?_⟩; have n0_ := Aside0.mk (below_step (by repeat (first | (with_reducible first | exact HB.out | apply below_alloc | apply pw_below_drewN | apply below_drew1) | exact HB.out)) hb); clear HB; have HB := n0_; clear n0_; (try clear hb); (try clear hb2); (try clear hk); (try clear hi)) | ((with_reducible refine gate_callee (f := 19) rfl ?_); refine goesL_ (some 39) rfl rfl Try.func19 (by kernel_rfl) rfl #[.slice A0 l0.length c0, .int .i64 a1] rfl (by (try simp only [List.map_toArray, List.map_cons, List.map_nil]); first | done | rfl | (simp only [List.length_drop, List.length_take]; rfl)) ?_; (with_reducible refine (barrowref03_ReadUint.calls k _ _ l0 a1 t227 t228 t229 _ ?side1 ?side2 A8.out).mono ?_); (case side1 => repeat (first | exact (Kd.C_below HR0.out HB.out) | (with_reducible refine Kd.C_alloc ?_ _) | (with_reducible refine Kd.C_drewN ?_ _) | (with_reducible refine Kd.C_drew ?_))); (case side2 => exact HC0.out); rintro e w' ⟨rfl, ⟨nd, rfl⟩⟩; refine ⟨_, rfl, ?_⟩) | ((with_reducible refine gate_callee (f := 20) rfl ?_); refine goesL_ (some 46) rfl rfl Try.func20 (by kernel_rfl) rfl #[.slice A0 l0.length c0, .int .i64 a1] rfl (by (try simp only [List.map_toArray, List.map_cons, List.map_nil]); first | done | rfl | (simp only [List.length_drop, List.length_take]; rfl)) ?_; (with_reducible refine (pack_ReadInt.calls k _ _ l0 a1 t230 t231 t232 _ ?side1 ?side2 A9.out).mono ?_); (case side1 => repeat (first | exact (Kd.C_below HR0.out (by repeat (first | (with_reducible first | exact HB.out | apply below_alloc | apply pw_below_drewN | apply below_drew1) | exact HB.out))) | (with_reducible refine Kd.C_alloc ?_ _) | (with_reducible refine Kd.C_drewN ?_ _) | (with_reducible refine Kd.C_drew ?_))); (case side2 => exact HC0.out); rintro e w14 ⟨rfl, hb⟩; refine ⟨_, rfl, ?_⟩; have n0_ := Aside0.mk (below_step (by repeat (first | (with_reducible first | exact HB.out | apply below_alloc | apply pw_below_drewN | apply below_drew1) | exact HB.out)) hb); clear HB; have HB := n0_; clear n0_; (try clear hb); (try clear hb2); (try clear hk); (try clear hi)) | ((with_reducible refine gate_callee (f := 21) rfl ?_); refine goesL_ (some 53) rfl rfl Try.func21 (by kernel_rfl) rfl #[.slice A0 l0.length c0, .int .i64 a1] rfl (by (try simp only [List.map_toArray, List.map_cons, List.map_nil]); first | done | rfl | (simp only [List.length_drop, List.length_take]; rfl)) ?_; (with_reducible refine (barrowref03_ReadInt.calls k _ _ l0 a1 t233 t234 t235 _ ?side1 ?side2 A10.out).mono ?_); (case side1 => repeat (first | exact (Kd.C_below HR0.out HB.out) | (with_reducible refine Kd.C_alloc ?_ _) | (with_reducible refine Kd.C_drewN ?_ _) | (with_reducible refine Kd.C_drew ?_))); (case side2 => exact HC0.out); rintro e w' ⟨rfl, ⟨nd, rfl⟩⟩; refine ⟨_, rfl, ?_⟩))
    (try simp only [Act.put, List.setIfInBounds_toArray, List.set_cons_zero, List.set_cons_succ])
    go_cut [84, 7] (fun v84 v7 wc => ∃ (kq : Nat) (x84_10 : Bool), v84 = .bool x84_10 ∧ v7 = .bool t223 ∧ Aside0 (barrowlaw03_PackReads.j0 kq l0 a1 a2 t223 x84_10 = some r) ∧ Aside0 (kq ≤ k) ∧ Aside0 (Below w.heap.size w wc))
    case first =>
      have H := HC11.out
      clear HC11
      by_cases c15 : t224 = t227
      · rw [if_pos c15] at H
        have c15b0 : (t224 == t227) = true := beq_iff_eq.mpr c15
        have c15b1 : (t224 != t227) = false := bne_eq_false_iff_eq.mpr c15
        clear c15
        (first | rw [c15b0] | (simp only [i64_w, i32_w]; rw [c15b0]) | skip)
        by_cases c16 : t225 = t228
        · rw [if_pos c16] at H
          have c16b0 : (t225 == t228) = true := beq_iff_eq.mpr c16
          have c16b1 : (t225 != t228) = false := bne_eq_false_iff_eq.mpr c16
          clear c16
          by_cases c17 : t226 = t229
          · rw [if_pos c17] at H
            have c17b0 : (t226 == t229) = true := beq_iff_eq.mpr c17
            have c17b1 : (t226 != t229) = false := bne_eq_false_iff_eq.mpr c17
            clear c17
            by_cases c18 : t230 = t233
            · rw [if_pos c18] at H
              have c18b0 : (t230 == t233) = true := beq_iff_eq.mpr c18
              have c18b1 : (t230 != t233) = false := bne_eq_false_iff_eq.mpr c18
              clear c18
              by_cases c19 : t231 = t234
              · rw [if_pos c19] at H
                have c19b0 : (t231 == t234) = true := beq_iff_eq.mpr c19
                have c19b1 : (t231 != t234) = false := bne_eq_false_iff_eq.mpr c19
                clear c19
                have H' := Aside0.mk H
                clear H
                go_wp2
                go_meet
                case rel => exact ⟨_, ((t232 != t235)), (by first | rfl | (simp; done) | (simp [*]; done)), (by first | rfl | (simp; done) | (simp [*]; done)), H', ⟨by first | omega | exact Nat.le_refl _⟩, ⟨by repeat (first | (with_reducible first | exact HB.out | apply below_alloc | apply pw_below_drewN | apply below_drew1) | exact HB.out)⟩⟩
              · rw [if_neg c19] at H
                have c19b0 : (t231 == t234) = false := beq_eq_false_iff_ne.mpr c19
                have c19b1 : (t231 != t234) = true := bne_iff_ne.mpr c19
                have H' := Aside0.mk H
                clear H
                go_wp2
                go_meet
                case rel => exact ⟨_, (true), (by first | rfl | (simp; done) | (simp [*]; done)), (by first | rfl | (simp; done) | (simp [*]; done)), H', ⟨by first | omega | exact Nat.le_refl _⟩, ⟨by repeat (first | (with_reducible first | exact HB.out | apply below_alloc | apply pw_below_drewN | apply below_drew1) | exact HB.out)⟩⟩
            · rw [if_neg c18] at H
              have c18b0 : (t230 == t233) = false := beq_eq_false_iff_ne.mpr c18
              have c18b1 : (t230 != t233) = true := bne_iff_ne.mpr c18
              have H' := Aside0.mk H
              clear H
              go_wp2
              go_meet
              case rel => exact ⟨_, (true), (by first | rfl | (simp; done) | (simp [*]; done)), (by first | rfl | (simp; done) | (simp [*]; done)), H', ⟨by first | omega | exact Nat.le_refl _⟩, ⟨by repeat (first | (with_reducible first | exact HB.out | apply below_alloc | apply pw_below_drewN | apply below_drew1) | exact HB.out)⟩⟩
          · rw [if_neg c17] at H
            have c17b0 : (t226 == t229) = false := beq_eq_false_iff_ne.mpr c17
            have c17b1 : (t226 != t229) = true := bne_iff_ne.mpr c17
            have H' := Aside0.mk H
            clear H
            go_wp2
            go_meet
            case rel => exact ⟨_, (true), (by first | rfl | (simp; done) | (simp [*]; done)), (by first | rfl | (simp; done) | (simp [*]; done)), H', ⟨by first | omega | exact Nat.le_refl _⟩, ⟨by repeat (first | (with_reducible first | exact HB.out | apply below_alloc | apply pw_below_drewN | apply below_drew1) | exact HB.out)⟩⟩
        · rw [if_neg c16] at H
          have c16b0 : (t225 == t228) = false := beq_eq_false_iff_ne.mpr c16
          have c16b1 : (t225 != t228) = true := bne_iff_ne.mpr c16
          have H' := Aside0.mk H
          clear H
          go_wp2
          go_meet
          case rel => exact ⟨_, (true), (by first | rfl | (simp; done) | (simp [*]; done)), (by first | rfl | (simp; done) | (simp [*]; done)), H', ⟨by first | omega | exact Nat.le_refl _⟩, ⟨by repeat (first | (with_reducible first | exact HB.out | apply below_alloc | apply pw_below_drewN | apply below_drew1) | exact HB.out)⟩⟩
      · rw [if_neg c15] at H
        have c15b0 : (t224 == t227) = false := beq_eq_false_iff_ne.mpr c15
        have c15b1 : (t224 != t227) = true := bne_iff_ne.mpr c15
        (first | rw [c15b0] | (simp only [i64_w, i32_w]; rw [c15b0]) | skip)
        have H' := Aside0.mk H
        clear H
        go_wp2
        go_meet
        case rel => exact ⟨_, (true), (by first | rfl | (simp; done) | (simp [*]; done)), (by first | rfl | (simp; done) | (simp [*]; done)), H', ⟨by first | omega | exact Nat.le_refl _⟩, ⟨by repeat (first | (with_reducible first | exact HB.out | apply below_alloc | apply pw_below_drewN | apply below_drew1) | exact HB.out)⟩⟩
    case rest =>
      clear HC11
      try clear c1
      try clear c2
      try clear p2
      try clear c5
      try clear c5b0
      try clear c5b1
      try clear c7
      try clear c15
      try clear c15b0
      try clear c15b1
      try clear c16
      try clear c16b0
      try clear c16b1
      try clear c17
      try clear c17b0
      try clear c17b1
      try clear c18
      try clear c18b0
      try clear c18b1
      try clear c19
      try clear c19b0
      try clear c19b1
      obtain ⟨kq, x84_10, rfl, rfl, HA, HJ10, HB⟩ := hcut
      cases kq with
      | zero => exact absurd HA.out (by simp [barrowlaw03_PackReads.j0])
      | succ kj10 =>
        have H := HA.out
        clear HA
        simp only [barrowlaw03_PackReads.j0] at H
        by_cases c20 : x84_10 = true
        · subst c20
          have H1 : (none) = some r := by rw [if_pos rfl] at H; exact H
          clear H
          have H := H1
          clear H1
          exact absurd H (by simp)
        · replace c20 := Bool.eq_false_iff.mpr c20
          subst c20
          have H1 : ((pack_ReadText.f kj10 l0 a1 a2).bind fun bt236 => ((barrowref03_ReadText.f kj10 l0 a1 a2).bind fun bt239 => ((pack_ReadInts.f kj10 l0 a1 a2).bind fun bt242 => ((barrowref03_ReadInts.f kj10 l0 a1 a2).bind fun bt247 => (if t223 = true then (if bt236.1.toList = bt239.1.toList then (if bt236.2.1 = bt239.2.1 then (if bt236.2.2 = bt239.2.2 then ((barrowref02_Same.f kj10 bt242.1 bt247.1).bind fun t252 => (if t252 = true then (if bt242.2.1 = bt247.2.1 then (some (bt242.2.2 == bt247.2.2)) else (none)) else (none))) else (none)) else (none)) else (none)) else (none)))))) = some r := by rw [if_neg (show ¬ (false = true) by decide)] at H; exact H
          clear H
          have H := H1
          clear H1
          replace H := Option.bind_eq_some_iff.mp H
          obtain ⟨⟨t236, t237, t238⟩, A210, H⟩ := H
          replace H : ((barrowref03_ReadText.f kj10 l0 a1 a2).bind fun bt239 => ((pack_ReadInts.f kj10 l0 a1 a2).bind fun bt242 => ((barrowref03_ReadInts.f kj10 l0 a1 a2).bind fun bt247 => (if t223 = true then (if t236.toList = bt239.1.toList then (if t237 = bt239.2.1 then (if t238 = bt239.2.2 then ((barrowref02_Same.f kj10 bt242.1 bt247.1).bind fun t252 => (if t252 = true then (if bt242.2.1 = bt247.2.1 then (some (bt242.2.2 == bt247.2.2)) else (none)) else (none))) else (none)) else (none)) else (none)) else (none))))) = some r := H
          have A21 := Aside0.mk A210
          clear A210
          replace H := Option.bind_eq_some_iff.mp H
          obtain ⟨⟨t239, t240, t241⟩, A220, H⟩ := H
          replace H : ((pack_ReadInts.f kj10 l0 a1 a2).bind fun bt242 => ((barrowref03_ReadInts.f kj10 l0 a1 a2).bind fun bt247 => (if t223 = true then (if t236.toList = t239.toList then (if t237 = t240 then (if t238 = t241 then ((barrowref02_Same.f kj10 bt242.1 bt247.1).bind fun t252 => (if t252 = true then (if bt242.2.1 = bt247.2.1 then (some (bt242.2.2 == bt247.2.2)) else (none)) else (none))) else (none)) else (none)) else (none)) else (none)))) = some r := H
          have A22 := Aside0.mk A220
          clear A220
          replace H := Option.bind_eq_some_iff.mp H
          obtain ⟨⟨t242, t243, t244⟩, A230, H⟩ := H
          replace H : ((barrowref03_ReadInts.f kj10 l0 a1 a2).bind fun bt247 => (if t223 = true then (if t236.toList = t239.toList then (if t237 = t240 then (if t238 = t241 then ((barrowref02_Same.f kj10 t242 bt247.1).bind fun t252 => (if t252 = true then (if t243 = bt247.2.1 then (some (t244 == bt247.2.2)) else (none)) else (none))) else (none)) else (none)) else (none)) else (none))) = some r := H
          have A23 := Aside0.mk A230
          clear A230
          replace H := Option.bind_eq_some_iff.mp H
          obtain ⟨⟨t247, t248, t249⟩, A240, H⟩ := H
          replace H : (if t223 = true then (if t236.toList = t239.toList then (if t237 = t240 then (if t238 = t241 then ((barrowref02_Same.f kj10 t242 t247).bind fun t252 => (if t252 = true then (if t243 = t248 then (some (t244 == t249)) else (none)) else (none))) else (none)) else (none)) else (none)) else (none)) = some r := H
          have A24 := Aside0.mk A240
          clear A240
          by_cases c25 : t223 = true
          · subst c25
            have H1 : (if t236.toList = t239.toList then (if t237 = t240 then (if t238 = t241 then ((barrowref02_Same.f kj10 t242 t247).bind fun t252 => (if t252 = true then (if t243 = t248 then (some (t244 == t249)) else (none)) else (none))) else (none)) else (none)) else (none)) = some r := by rw [if_pos rfl] at H; exact H
            clear H
            have H := H1
            clear H1
            by_cases c26 : t236.toList = t239.toList
            · rw [if_pos c26] at H
              have c26b0 : (t236.toList == t239.toList) = true := beq_iff_eq.mpr c26
              have c26b1 : (t236.toList != t239.toList) = false := bne_eq_false_iff_eq.mpr c26
              clear c26
              by_cases c27 : t237 = t240
              · rw [if_pos c27] at H
                have c27b0 : (t237 == t240) = true := beq_iff_eq.mpr c27
                have c27b1 : (t237 != t240) = false := bne_eq_false_iff_eq.mpr c27
                clear c27
                by_cases c28 : t238 = t241
                · rw [if_pos c28] at H
                  have c28b0 : (t238 == t241) = true := beq_iff_eq.mpr c28
                  have c28b1 : (t238 != t241) = false := bne_eq_false_iff_eq.mpr c28
                  clear c28
                  replace H := Option.bind_eq_some_iff.mp H
                  obtain ⟨t252, A290, H⟩ := H
                  replace H : (if t252 = true then (if t243 = t248 then (some (t244 == t249)) else (none)) else (none)) = some r := H
                  have A29 := Aside0.mk A290
                  clear A290
                  by_cases c30 : t252 = true
                  · subst c30
                    have H1 : (if t243 = t248 then (some (t244 == t249)) else (none)) = some r := by rw [if_pos rfl] at H; exact H
                    clear H
                    have H := H1
                    clear H1
                    by_cases c31 : t243 = t248
                    · rw [if_pos c31] at H
                      have c31b0 : (t243 == t248) = true := beq_iff_eq.mpr c31
                      have c31b1 : (t243 != t248) = false := bne_eq_false_iff_eq.mpr c31
                      clear c31
                      obtain rfl := Option.some.inj H
                      go_wp2_with (first | ((with_reducible refine gate_callee (f := 22) rfl ?_); refine goesL_ (some 89) rfl rfl Try.func22 (by kernel_rfl) rfl #[.slice A0 l0.length c0, .int .i64 a1, .int .i64 a2] rfl (by (try simp only [List.map_toArray, List.map_cons, List.map_nil]); first | done | rfl | (simp only [List.length_drop, List.length_take]; rfl)) ?_; (with_reducible refine (pack_ReadText.calls kj10 _ _ l0 a1 a2 t236 t237 t238 _ ?side1 ?side2 A21.out).mono ?_); (case side1 => repeat (first | exact (Kd.C_below HR0.out HB.out) | (with_reducible refine Kd.C_alloc ?_ _) | (with_reducible refine Kd.C_drewN ?_ _) | (with_reducible refine Kd.C_drew ?_))); (case side2 => exact HC0.out); rintro e w32 ⟨rfl, hb⟩; refine ⟨_, rfl, ?_⟩; have n0_ := Aside0.mk (below_step (by repeat (first | (with_reducible first | exact HB.out | apply below_alloc | apply pw_below_drewN | apply below_drew1) | exact HB.out)) hb); clear HB; have HB := n0_; clear n0_; (try clear hb); (try clear hb2); (try clear hk); (try clear hi)) | ((with_reducible refine gate_callee (f := 23) rfl ?_); refine goesL_ (some 97) rfl rfl Try.func23 (by kernel_rfl) rfl #[.slice A0 l0.length c0, .int .i64 a1, .int .i64 a2] rfl (by (try simp only [List.map_toArray, List.map_cons, List.map_nil]); first | done | rfl | (simp only [List.length_drop, List.length_take]; rfl)) ?_; (with_reducible refine (barrowref03_ReadText.calls kj10 _ _ l0 a1 a2 t239 t240 t241 _ ?side1 ?side2 A22.out).mono ?_); (case side1 => repeat (first | exact (Kd.C_below HR0.out HB.out) | (with_reducible refine Kd.C_alloc ?_ _) | (with_reducible refine Kd.C_drewN ?_ _) | (with_reducible refine Kd.C_drew ?_))); (case side2 => exact HC0.out); rintro e w' ⟨rfl, ⟨nd, rfl⟩⟩; refine ⟨_, rfl, ?_⟩) | ((with_reducible refine gate_callee (f := 24) rfl ?_); refine goesL_ (some 105) rfl rfl Try.func24 (by kernel_rfl) rfl #[.slice A0 l0.length c0, .int .i64 a1, .int .i64 a2] rfl (by (try simp only [List.map_toArray, List.map_cons, List.map_nil]); first | done | rfl | (simp only [List.length_drop, List.length_take]; rfl)) ?_; (with_reducible refine (pack_ReadInts.calls kj10 _ _ l0 a1 a2 t242 t243 t244 _ ?side1 ?side2 A23.out).mono ?_); (case side1 => repeat (first | exact (Kd.C_below HR0.out (by repeat (first | (with_reducible first | exact HB.out | apply below_alloc | apply pw_below_drewN | apply below_drew1) | exact HB.out))) | (with_reducible refine Kd.C_alloc ?_ _) | (with_reducible refine Kd.C_drewN ?_ _) | (with_reducible refine Kd.C_drew ?_))); (case side2 => exact HC0.out); rintro e w33 ⟨v245, rfl, ho0, hb⟩; refine ⟨_, rfl, ?_⟩; have n0_ := Aside0.mk (Kd.R_lower ho0 (below_size (by repeat (first | (with_reducible first | exact HB.out | apply below_alloc | apply pw_below_drewN | apply below_drew1) | exact HB.out)))); have n1_ := Aside0.mk (below_step (by repeat (first | (with_reducible first | exact HB.out | apply below_alloc | apply pw_below_drewN | apply below_drew1) | exact HB.out)) hb); clear HB; have HO246 := n0_; have HB := n1_; clear n0_ n1_; (try clear hb); (try clear hb2); (try clear hk); (try clear hi); (try clear ho0)) | ((with_reducible refine gate_callee (f := 25) rfl ?_); refine goesL_ (some 113) rfl rfl Try.func25 (by kernel_rfl) rfl #[.slice A0 l0.length c0, .int .i64 a1, .int .i64 a2] rfl (by (try simp only [List.map_toArray, List.map_cons, List.map_nil]); first | done | rfl | (simp only [List.length_drop, List.length_take]; rfl)) ?_; (with_reducible refine (barrowref03_ReadInts.calls kj10 _ _ l0 a1 a2 t247 t248 t249 _ ?side1 ?side2 A24.out).mono ?_); (case side1 => repeat (first | exact (Kd.C_below HR0.out HB.out) | (with_reducible refine Kd.C_alloc ?_ _) | (with_reducible refine Kd.C_drewN ?_ _) | (with_reducible refine Kd.C_drew ?_))); (case side2 => exact HC0.out); rintro e w34 ⟨v250, rfl, ho0, hb⟩; refine ⟨_, rfl, ?_⟩; have n0_ := Aside0.mk (Kd.R_elder' (by (with_reducible repeat (first | apply Kd.R_alloc | apply Kd.R_drewN | apply Kd.R_drew)); exact HO246.out) (Kd.R_base ho0) hb); have n1_ := Aside0.mk (Kd.R_lower (Kd.R_new' ho0 (Kd.R_lt (by (with_reducible repeat (first | apply Kd.R_alloc | apply Kd.R_drewN | apply Kd.R_drew)); exact HO246.out))) (below_size (by repeat (first | (with_reducible first | exact HB.out | apply below_alloc | apply pw_below_drewN | apply below_drew1) | exact HB.out)))); have n2_ := Aside0.mk (below_step (by repeat (first | (with_reducible first | exact HB.out | apply below_alloc | apply pw_below_drewN | apply below_drew1) | exact HB.out)) hb); clear HO246; clear HB; have HO246 := n0_; have HO251 := n1_; have HB := n2_; clear n0_ n1_ n2_; (try clear hb); (try clear hb2); (try clear hk); (try clear hi); (try clear ho0); obtain ⟨Ao35, co35, eo35⟩ := Kd.R_slice HO246.out; subst eo35; obtain ⟨Ao36, co36, eo36⟩ := Kd.R_slice HO251.out; subst eo36) | (go_at_call 26; (with_reducible refine (barrowref02_Same.calls kj10 _ _ t242 _ _ t247 true _ ?side1 ?side2 ?side3 ?side4 A29.out).mono ?_); (case side1 => repeat (first | exact (Kd.R_reads' HO246.out).2.2 | (with_reducible refine Kd.C_alloc ?_ _) | (with_reducible refine Kd.C_drewN ?_ _) | (with_reducible refine Kd.C_drew ?_))); (case side2 => exact (Kd.R_reads' HO246.out).2.1); (case side3 => repeat (first | exact (Kd.R_reads' HO251.out).2.2 | (with_reducible refine Kd.C_alloc ?_ _) | (with_reducible refine Kd.C_drewN ?_ _) | (with_reducible refine Kd.C_drew ?_))); (case side4 => exact (Kd.R_reads' HO251.out).2.1); rintro e w' ⟨rfl, ⟨nd, rfl⟩⟩))
                      go_ret
                      exact ⟨by first | rfl | (simp [errW_none, errW_some] <;> rfl) | (simp [*, errW_none, errW_some] <;> rfl), by repeat (first | (with_reducible first | exact HB.out | apply below_alloc | apply pw_below_drewN | apply below_drew1) | exact HB.out)⟩
                    · rw [if_neg c31] at H
                      exact absurd H (by simp)
                  · replace c30 := Bool.eq_false_iff.mpr c30
                    subst c30
                    have H1 : (none) = some r := by rw [if_neg (show ¬ (false = true) by decide)] at H; exact H
                    clear H
                    have H := H1
                    clear H1
                    exact absurd H (by simp)
                · rw [if_neg c28] at H
                  exact absurd H (by simp)
              · rw [if_neg c27] at H
                exact absurd H (by simp)
            · rw [if_neg c26] at H
              exact absurd H (by simp)
          · replace c25 := Bool.eq_false_iff.mpr c25
            subst c25
            have H1 : (none) = some r := by rw [if_neg (show ¬ (false = true) by decide)] at H; exact H
            clear H
            have H := H1
            clear H1
            exact absurd H (by simp)

/-- THE ONE PURE STATEMENT of barrowlaw03_PackReads: yours. -/
def barrowlaw03_PackReads.Pure : Prop := ∀ (l0 : List Int) (a1 : Int) (a2 : Int), l0.length ≤ maxLen → l0.length * 1 ≤ 140737488351232 → (∀ x ∈ l0, (Lit.int .u8 x).wf = true) → (Lit.int .i64 a1).wf = true → (Lit.int .i64 a2).wf = true → ∃ k, barrowlaw03_PackReads.f k l0 a1 a2 = some true
theorem barrowlaw03_PackReads.walk (P : barrowlaw03_PackReads.Pure) (a0 : Option Addr) (len0 cap0 : Nat) (z0 : List Int) (a1 : Int) (a2 : Int) (w : World) (w0 : (a0 = none ∧ len0 = 0 ∧ cap0 = 0 ∧ z0 = []) ∨ ∃ x, a0 = some x ∧ len0 ≤ cap0 ∧ cap0 ≤ maxLen ∧ z0.length = cap0 ∧ (∀ i, i < z0.length → w.cell? (x.add i) = some (.int .u8 (z0.getD i 0))) ∧ ∀ n ∈ z0, (Lit.int .u8 n).wf = true) (y0 : len0 * 1 ≤ 140737488351232) (w1 : (Lit.int .i64 a1).wf = true) (w2 : (Lit.int .i64 a2).wf = true) :
    Calls Try.prog 5 #[.slice a0 len0 cap0, .int .i64 a1, .int .i64 a2] w fun e w' => e = .returned (.bool true) ∧ Below w.heap.size w w' := by
  obtain ⟨l0, rfl, hr0, hm0, hw0, hc0⟩ := ReadsInt.ofRowC w0
  obtain ⟨k, h⟩ := P l0 a1 a2 hm0 y0 hw0 w1 w2
  refine (barrowlaw03_PackReads.calls k _ _ l0 a1 a2 true w (Kd.C_of_reads (d := (0 : Int)) (h1 := fun _ => rfl) hr0) hc0 h).mono ?_
  rintro e w' ⟨rfl, hd⟩
  exact ⟨rfl, hd⟩

end Go.Proofs.Ytkidppjaclgkkaa.XPack
