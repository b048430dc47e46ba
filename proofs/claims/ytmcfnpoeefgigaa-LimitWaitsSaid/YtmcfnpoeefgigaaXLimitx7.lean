-- Written by xprint.py (a program of this session) for this claim
import Derived.Test.YtmcfnpoeefgigaaXLimitx0
import Derived.Test.YtmcfnpoeefgigaaXLimitx1
import Derived.Test.YtmcfnpoeefgigaaXLimitx2
import Derived.Test.YtmcfnpoeefgigaaXLimitx3
namespace Go.Proofs.Ytmcfnpoeefgigaa.XLimit
open Go.Proofs.YtmcfnpoeefgigaaV
open Go.RowKit Go.Proofs.YtmcfnpoeefgigaaW.PrintWords Go.Proofs.YtmcfnpoeefgigaaW.PrintLast Go.Proofs.YtmcfnpoeefgigaaW.PrintMore
attribute [local go_sem] max2_int min2_int max_two min_two max_three min_three max_four min_four   -- for this text's walks alone
set_option linter.unusedVariables false
set_option linter.unusedSimpArgs false

attribute [local go_sem high] eqA23
/-! ### barrowlaw23_LimitHolds: function 5 -/
mutual
def barrowlaw23_LimitHolds.j0 : Nat → Int → Int → List (S32) → Bool → Bool → Int → Int → Option (Bool)
  | 0, _, _, _, _, _, _, _ => none
  | k + 1, x1, x2, x3, x9, x46, x203000, x203001 => if x46 = true then (some x9) else (barrowlaw23_LimitHolds.l0 k x1 x2 x3 x9 x203000 x203001 x203001 0 0 x203000 x203001)
def barrowlaw23_LimitHolds.l0 : Nat → Int → Int → List (S32) → Bool → Int → Int → Int → Int → Int → Int → Int → Option (Bool)
  | 0, _, _, _, _, _, _, _, _, _, _, _ => none
  | k + 1, x1, x2, x3, x9, x10, x11, x12, x13, x14, x203000, x203001 => if x14 < (x3.length : Int) then (if 0 ≤ x14 then ((limit_Fill.f k x203000 x203001 (wrap64 (x12 + (Go.bits .and .i64 ((rd_T32 x3 x14).f0) 7))) x1 x2).bind fun bt207 => ((limit_Take.f k x203000 x203001 (wrap64 (x12 + (Go.bits .and .i64 ((rd_T32 x3 x14).f0) 7))) x1 x2 ((rd_T32 x3 x14).f1)).bind fun bt210 => (if ((rd_T32 x3 x14).f1) ≥ 0 then (if (bt210.2.2 != (decide (((rd_T32 x3 x14).f1) ≤ bt207.1))) = true then (barrowlaw23_LimitHolds.j2 k x1 x2 x3 x9 x10 x11 (wrap64 (x12 + (Go.bits .and .i64 ((rd_T32 x3 x14).f0) 7))) x13 x14 ((rd_T32 x3 x14).f1) bt210.2.2 true bt210.1 bt210.2.1) else (if bt210.2.2 = true then (if bt210.1 = (wrap64 (bt207.1 - ((rd_T32 x3 x14).f1))) then ((limit_Right.f bt210.1 bt210.2.1 x2).bind fun t214 => (barrowlaw23_LimitHolds.j2 k x1 x2 x3 x9 x10 x11 (wrap64 (x12 + (Go.bits .and .i64 ((rd_T32 x3 x14).f0) 7))) x13 x14 ((rd_T32 x3 x14).f1) bt210.2.2 (!t214) bt210.1 bt210.2.1)) else (barrowlaw23_LimitHolds.j2 k x1 x2 x3 x9 x10 x11 (wrap64 (x12 + (Go.bits .and .i64 ((rd_T32 x3 x14).f0) 7))) x13 x14 ((rd_T32 x3 x14).f1) bt210.2.2 true bt210.1 bt210.2.1)) else (if (!(bt210.1 == bt207.1) || (!(bt210.2.1 == bt207.2))) = true then (barrowlaw23_LimitHolds.j2 k x1 x2 x3 x9 x10 x11 (wrap64 (x12 + (Go.bits .and .i64 ((rd_T32 x3 x14).f0) 7))) x13 x14 ((rd_T32 x3 x14).f1) bt210.2.2 true bt210.1 bt210.2.1) else ((limit_Right.f bt210.1 bt210.2.1 x2).bind fun t215 => (barrowlaw23_LimitHolds.j2 k x1 x2 x3 x9 x10 x11 (wrap64 (x12 + (Go.bits .and .i64 ((rd_T32 x3 x14).f0) 7))) x13 x14 ((rd_T32 x3 x14).f1) bt210.2.2 (!t215) bt210.1 bt210.2.1))))) else (if (bt210.2.2 != false) = true then (barrowlaw23_LimitHolds.j2 k x1 x2 x3 x9 x10 x11 (wrap64 (x12 + (Go.bits .and .i64 ((rd_T32 x3 x14).f0) 7))) x13 x14 ((rd_T32 x3 x14).f1) bt210.2.2 true bt210.1 bt210.2.1) else (if bt210.2.2 = true then (if bt210.1 = (wrap64 (bt207.1 - ((rd_T32 x3 x14).f1))) then ((limit_Right.f bt210.1 bt210.2.1 x2).bind fun t216 => (barrowlaw23_LimitHolds.j2 k x1 x2 x3 x9 x10 x11 (wrap64 (x12 + (Go.bits .and .i64 ((rd_T32 x3 x14).f0) 7))) x13 x14 ((rd_T32 x3 x14).f1) bt210.2.2 (!t216) bt210.1 bt210.2.1)) else (barrowlaw23_LimitHolds.j2 k x1 x2 x3 x9 x10 x11 (wrap64 (x12 + (Go.bits .and .i64 ((rd_T32 x3 x14).f0) 7))) x13 x14 ((rd_T32 x3 x14).f1) bt210.2.2 true bt210.1 bt210.2.1)) else (if (!(bt210.1 == bt207.1) || (!(bt210.2.1 == bt207.2))) = true then (barrowlaw23_LimitHolds.j2 k x1 x2 x3 x9 x10 x11 (wrap64 (x12 + (Go.bits .and .i64 ((rd_T32 x3 x14).f0) 7))) x13 x14 ((rd_T32 x3 x14).f1) bt210.2.2 true bt210.1 bt210.2.1) else ((limit_Right.f bt210.1 bt210.2.1 x2).bind fun t217 => (barrowlaw23_LimitHolds.j2 k x1 x2 x3 x9 x10 x11 (wrap64 (x12 + (Go.bits .and .i64 ((rd_T32 x3 x14).f0) 7))) x13 x14 ((rd_T32 x3 x14).f1) bt210.2.2 (!t217) bt210.1 bt210.2.1)))))))) else (none)) else (some x9)
def barrowlaw23_LimitHolds.j2 : Nat → Int → Int → List (S32) → Bool → Int → Int → Int → Int → Int → Int → Bool → Bool → Int → Int → Option (Bool)
  | 0, _, _, _, _, _, _, _, _, _, _, _, _, _, _ => none
  | k + 1, x1, x2, x3, x9, x10, x11, x12, x13, x14, x15, x18, x123, x214000, x214001 => if x123 = true then (some false) else (if x18 = true then (if (wrap64 (x13 + x15)) > (wrap64 (x10 + (wrap64 (x1 * (wrap64 (x12 - x11)))))) then (some false) else (barrowlaw23_LimitHolds.l0 k x1 x2 x3 x9 x10 x11 x12 (wrap64 (x13 + x15)) (wrap64 (x14 + 1)) x214000 x214001)) else (if x13 > (wrap64 (x10 + (wrap64 (x1 * (wrap64 (x12 - x11)))))) then (some false) else (barrowlaw23_LimitHolds.l0 k x1 x2 x3 x9 x10 x11 x12 x13 (wrap64 (x14 + 1)) x214000 x214001)))
end
def barrowlaw23_LimitHolds.f (k : Nat) (a0_0 : Int) (a0_1 : Int) (a1 : Int) (a2 : Int) (l3 : List (S32)) : Option (Bool) := (barrowlaw23_small.f k).bind fun t203 => (if (l3.length : Int) > 200 then (barrowlaw23_LimitHolds.j0 k a1 a2 l3 t203 true a0_0 a0_1) else ((limit_Right.f a0_0 a0_1 a2).bind fun t204 => (if t204 = true then (if a0_1 < 0 then (barrowlaw23_LimitHolds.j0 k a1 a2 l3 t203 true a0_0 a0_1) else (if a0_1 > 1099511627776 then (barrowlaw23_LimitHolds.j0 k a1 a2 l3 t203 true a0_0 a0_1) else (if a1 < 0 then (barrowlaw23_LimitHolds.j0 k a1 a2 l3 t203 true a0_0 a0_1) else (barrowlaw23_LimitHolds.j0 k a1 a2 l3 t203 (decide (a1 > 1000000)) a0_0 a0_1)))) else (barrowlaw23_LimitHolds.j0 k a1 a2 l3 t203 true a0_0 a0_1))))
theorem barrowlaw23_LimitHolds.mono_l : ∀ k, (∀ y0 y1 y2 y3 y4 y5 y6, LeO (barrowlaw23_LimitHolds.j0 k y0 y1 y2 y3 y4 y5 y6) (barrowlaw23_LimitHolds.j0 (k + 1) y0 y1 y2 y3 y4 y5 y6)) ∧ (∀ y0 y1 y2 y3 y4 y5 y6 y7 y8 y9 y10, LeO (barrowlaw23_LimitHolds.l0 k y0 y1 y2 y3 y4 y5 y6 y7 y8 y9 y10) (barrowlaw23_LimitHolds.l0 (k + 1) y0 y1 y2 y3 y4 y5 y6 y7 y8 y9 y10)) ∧ (∀ y0 y1 y2 y3 y4 y5 y6 y7 y8 y9 y10 y11 y12 y13, LeO (barrowlaw23_LimitHolds.j2 k y0 y1 y2 y3 y4 y5 y6 y7 y8 y9 y10 y11 y12 y13) (barrowlaw23_LimitHolds.j2 (k + 1) y0 y1 y2 y3 y4 y5 y6 y7 y8 y9 y10 y11 y12 y13))
  | 0 => ⟨fun _ _ _ _ _ _ _ r h => by simp [barrowlaw23_LimitHolds.j0] at h, fun _ _ _ _ _ _ _ _ _ _ _ r h => by simp [barrowlaw23_LimitHolds.l0] at h, fun _ _ _ _ _ _ _ _ _ _ _ _ _ _ r h => by simp [barrowlaw23_LimitHolds.j2] at h⟩
  | k + 1 => by
    obtain ⟨ih0, ih1, ih2⟩ := barrowlaw23_LimitHolds.mono_l k
    refine ⟨?_, ?_, ?_⟩
    · intro y0 y1 y2 y3 y4 y5 y6
      unfold barrowlaw23_LimitHolds.j0
      repeat' first
      | (with_reducible exact ih0 _ _ _ _ _ _ _)
      | (with_reducible exact ih1 _ _ _ _ _ _ _ _ _ _ _)
      | (with_reducible exact ih2 _ _ _ _ _ _ _ _ _ _ _ _ _ _)
      | (with_reducible exact barrowlaw23_small.mono _)
      | (with_reducible exact limit_Fill.mono _ _ _ _ _ _)
      | (with_reducible exact limit_Take.mono _ _ _ _ _ _ _)
      | (with_reducible exact LeO.refl _)
      | (with_reducible exact LeO.none _)
      | (with_reducible refine LeO.ite ?_ ?_)
      | (with_reducible refine LeO.bind ?_ (fun _ => ?_))
      | exact ih0 _ _ _ _ _ _ _
      | exact ih1 _ _ _ _ _ _ _ _ _ _ _
      | exact ih2 _ _ _ _ _ _ _ _ _ _ _ _ _ _
      | exact barrowlaw23_small.mono _
      | exact limit_Fill.mono _ _ _ _ _ _
      | exact limit_Take.mono _ _ _ _ _ _ _
      | exact LeO.none _
      | refine LeO.ite ?_ ?_
      | refine LeO.bind ?_ (fun _ => ?_)
    · intro y0 y1 y2 y3 y4 y5 y6 y7 y8 y9 y10
      unfold barrowlaw23_LimitHolds.l0
      repeat' first
      | (with_reducible exact ih0 _ _ _ _ _ _ _)
      | (with_reducible exact ih1 _ _ _ _ _ _ _ _ _ _ _)
      | (with_reducible exact ih2 _ _ _ _ _ _ _ _ _ _ _ _ _ _)
      | (with_reducible exact barrowlaw23_small.mono _)
      | (with_reducible exact limit_Fill.mono _ _ _ _ _ _)
      | (with_reducible exact limit_Take.mono _ _ _ _ _ _ _)
      | (with_reducible exact LeO.refl _)
      | (with_reducible exact LeO.none _)
      | (with_reducible refine LeO.ite ?_ ?_)
      | (with_reducible refine LeO.bind ?_ (fun _ => ?_))
      | exact ih0 _ _ _ _ _ _ _
      | exact ih1 _ _ _ _ _ _ _ _ _ _ _
      | exact ih2 _ _ _ _ _ _ _ _ _ _ _ _ _ _
      | exact barrowlaw23_small.mono _
      | exact limit_Fill.mono _ _ _ _ _ _
      | exact limit_Take.mono _ _ _ _ _ _ _
      | exact LeO.none _
      | refine LeO.ite ?_ ?_
      | refine LeO.bind ?_ (fun _ => ?_)
    · intro y0 y1 y2 y3 y4 y5 y6 y7 y8 y9 y10 y11 y12 y13
      unfold barrowlaw23_LimitHolds.j2
      repeat' first
      | (with_reducible exact ih0 _ _ _ _ _ _ _)
      | (with_reducible exact ih1 _ _ _ _ _ _ _ _ _ _ _)
      | (with_reducible exact ih2 _ _ _ _ _ _ _ _ _ _ _ _ _ _)
      | (with_reducible exact barrowlaw23_small.mono _)
      | (with_reducible exact limit_Fill.mono _ _ _ _ _ _)
      | (with_reducible exact limit_Take.mono _ _ _ _ _ _ _)
      | (with_reducible exact LeO.refl _)
      | (with_reducible exact LeO.none _)
      | (with_reducible refine LeO.ite ?_ ?_)
      | (with_reducible refine LeO.bind ?_ (fun _ => ?_))
      | exact ih0 _ _ _ _ _ _ _
      | exact ih1 _ _ _ _ _ _ _ _ _ _ _
      | exact ih2 _ _ _ _ _ _ _ _ _ _ _ _ _ _
      | exact barrowlaw23_small.mono _
      | exact limit_Fill.mono _ _ _ _ _ _
      | exact limit_Take.mono _ _ _ _ _ _ _
      | exact LeO.none _
      | refine LeO.ite ?_ ?_
      | refine LeO.bind ?_ (fun _ => ?_)
theorem barrowlaw23_LimitHolds.mono : ∀ a0 a1 a2 a3 a4 k, LeO (barrowlaw23_LimitHolds.f k a0 a1 a2 a3 a4) (barrowlaw23_LimitHolds.f (k + 1) a0 a1 a2 a3 a4) := by
  intro a0 a1 a2 a3 a4 k
  obtain ⟨ih0, ih1, ih2⟩ := barrowlaw23_LimitHolds.mono_l k
  unfold barrowlaw23_LimitHolds.f
  repeat' first
      | (with_reducible exact ih0 _ _ _ _ _ _ _)
      | (with_reducible exact ih1 _ _ _ _ _ _ _ _ _ _ _)
      | (with_reducible exact ih2 _ _ _ _ _ _ _ _ _ _ _ _ _ _)
      | (with_reducible exact barrowlaw23_small.mono _)
      | (with_reducible exact limit_Fill.mono _ _ _ _ _ _)
      | (with_reducible exact limit_Take.mono _ _ _ _ _ _ _)
      | (with_reducible exact LeO.refl _)
      | (with_reducible exact LeO.none _)
      | (with_reducible refine LeO.ite ?_ ?_)
      | (with_reducible refine LeO.bind ?_ (fun _ => ?_))
      | exact ih0 _ _ _ _ _ _ _
      | exact ih1 _ _ _ _ _ _ _ _ _ _ _
      | exact ih2 _ _ _ _ _ _ _ _ _ _ _ _ _ _
      | exact barrowlaw23_small.mono _
      | exact limit_Fill.mono _ _ _ _ _ _
      | exact limit_Take.mono _ _ _ _ _ _ _
      | exact LeO.none _
      | refine LeO.ite ?_ ?_
      | refine LeO.bind ?_ (fun _ => ?_)
set_option maxHeartbeats 8000000 in
set_option maxRecDepth 100000 in
theorem barrowlaw23_LimitHolds.calls (k : Nat) (a0_0 : Int) (a0_1 : Int) (a1 : Int) (a2 : Int) (A3 : Option Addr) (c3 : Nat) (l3 : List (S32)) (r : Bool) (w : World) (hr3 : Kd.C k32 w A3 l3.length l3) (hc3 : l3.length ≤ c3) (h : barrowlaw23_LimitHolds.f k a0_0 a0_1 a1 a2 l3 = some r) :
    Calls Try.prog 5 #[.agg #[.int .i64 a0_0, .int .i64 a0_1], .int .i64 a1, .int .i64 a2, .slice A3 l3.length c3] w fun e w' => e = .returned (.bool r) ∧ Below w.heap.size w w' := by
  have hu23 := Try.underlying23
  have HR3 := Aside0.mk hr3
  have HC3 := Aside0.mk hc3
  clear hr3 hc3
  have HB := Aside0.mk (Below.refl w.heap.size w)
  have H : ((barrowlaw23_small.f k).bind fun t203 => (if (l3.length : Int) > 200 then (barrowlaw23_LimitHolds.j0 k a1 a2 l3 t203 true a0_0 a0_1) else ((limit_Right.f a0_0 a0_1 a2).bind fun t204 => (if t204 = true then (if a0_1 < 0 then (barrowlaw23_LimitHolds.j0 k a1 a2 l3 t203 true a0_0 a0_1) else (if a0_1 > 1099511627776 then (barrowlaw23_LimitHolds.j0 k a1 a2 l3 t203 true a0_0 a0_1) else (if a1 < 0 then (barrowlaw23_LimitHolds.j0 k a1 a2 l3 t203 true a0_0 a0_1) else (barrowlaw23_LimitHolds.j0 k a1 a2 l3 t203 (decide (a1 > 1000000)) a0_0 a0_1)))) else (barrowlaw23_LimitHolds.j0 k a1 a2 l3 t203 true a0_0 a0_1))))) = some r := h
  clear h
  replace H := Option.bind_eq_some_iff.mp H
  obtain ⟨t203, A50, H⟩ := H
  replace H : (if (l3.length : Int) > 200 then (barrowlaw23_LimitHolds.j0 k a1 a2 l3 t203 true a0_0 a0_1) else ((limit_Right.f a0_0 a0_1 a2).bind fun t204 => (if t204 = true then (if a0_1 < 0 then (barrowlaw23_LimitHolds.j0 k a1 a2 l3 t203 true a0_0 a0_1) else (if a0_1 > 1099511627776 then (barrowlaw23_LimitHolds.j0 k a1 a2 l3 t203 true a0_0 a0_1) else (if a1 < 0 then (barrowlaw23_LimitHolds.j0 k a1 a2 l3 t203 true a0_0 a0_1) else (barrowlaw23_LimitHolds.j0 k a1 a2 l3 t203 (decide (a1 > 1000000)) a0_0 a0_1)))) else (barrowlaw23_LimitHolds.j0 k a1 a2 l3 t203 true a0_0 a0_1)))) = some r := H
  have A5 := Aside0.mk A50
  clear A50
  have HC6 := Aside0.mk H
  clear H
  go_enter Try.func5, Try.ntmps5
  go_upto_region 2 with (first | ((with_reducible refine gate_dst (N := 4) rfl ?_); refine box_event ?hg (N := 4) ?hd (cs := #[.int .i64 a0_0, .int .i64 a0_1]) (t := 23) ?hr ?_; (case hd => rfl); (case hg => rfl); (case hr => first | (go_simp; done) | (go_simp; rfl)); intro gb202 hg w7 hbox hb; have n0_ := Aside0.mk (below_step (by repeat (first | (with_reducible first | exact HB.out | apply below_alloc | apply pw_below_drewN | apply below_drew1) | exact HB.out)) hb); have n1_ := Aside0.mk (hbox); have n2_ := Aside0.mk ((by rw [hg]; exact (below_size (by repeat (first | (with_reducible first | exact HB.out | apply below_alloc | apply pw_below_drewN | apply below_drew1) | exact HB.out))) : w.heap.size ≤ gb202)); have n3_ := Aside0.mk ((by rw [hg]; exact (below_size (by repeat (first | (with_reducible first | exact HB.out | apply below_alloc | apply pw_below_drewN | apply below_drew1) | exact HB.out))) : w.heap.size ≤ gb202)); clear HB; have HB := n0_; have BK202 := n1_; have GW202 := n2_; have GE202 := n3_; clear n0_ n1_ n2_ n3_; clear hb hbox hg) | ((with_reducible refine gate_callee (f := 7) rfl ?_); refine goesL_ (some 19) rfl rfl Try.func7 (by kernel_rfl) rfl #[] rfl (by (try simp only [List.map_toArray, List.map_cons, List.map_nil]); first | done | rfl | (simp only [List.length_drop, List.length_take]; rfl)) ?_; (with_reducible refine (barrowlaw23_small.calls k  t203 _ A5.out).mono ?_); rintro e w8 ⟨rfl, hb⟩; refine ⟨_, rfl, ?_⟩; have n0_ := Aside0.mk (blk_below (g := gb202) (o := .cells #[.int .i64 a0_0, .int .i64 a0_1] 23 (0, 0)) (by (with_reducible repeat (first | refine blk_drewN ?_ _ | refine blk_drew ?_ | refine blk_alloc ?_ _)); exact BK202.out) hb); have n1_ := Aside0.mk (below_step (by repeat (first | (with_reducible first | exact HB.out | apply below_alloc | apply pw_below_drewN | apply below_drew1 | refine below_set ?_ GE202.out) | exact HB.out)) hb); clear BK202; clear HB; have BK202 := n0_; have HB := n1_; clear n0_ n1_; (try clear hb); (try clear hb2); (try clear hk); (try clear hi)))
  (try simp only [Act.put, List.setIfInBounds_toArray, List.set_cons_zero, List.set_cons_succ])
  go_cut [46, 9] (fun v46 v9 wc => ∃ (kq : Nat) (x46_5 : Bool), v46 = .bool x46_5 ∧ v9 = .bool t203 ∧ Aside0 (barrowlaw23_LimitHolds.j0 kq a1 a2 l3 t203 x46_5 a0_0 a0_1 = some r) ∧ Aside0 (kq ≤ k) ∧ Aside0 (wc.heap[gb202]? = some (.cells #[.int .i64 a0_0, .int .i64 a0_1] 23 (0, 0))) ∧ Aside0 (Below w.heap.size w wc))
  case first =>
    have H := HC6.out
    clear HC6
    by_cases c9 : (l3.length : Int) > 200
    · rw [if_pos c9] at H
      have c9b0 : decide (200 < (l3.length : Int)) = true := decide_eq_true c9
      have c9b1 : decide (200 < l3.length) = true := decide_eq_true (by omega)
      clear c9
      (first | rw [c9b0] | (simp only [i64_w, i32_w]; rw [c9b0]) | skip)
      have H' := Aside0.mk H
      clear H
      go_wp2
      go_meet
      case rel => exact ⟨_, (true), (by first | rfl | (simp; done) | (simp [*]; done)), (by first | rfl | (simp; done) | (simp [*]; done)), H', ⟨by first | omega | exact Nat.le_refl _⟩, ⟨by (with_reducible repeat (first | refine blk_drewN ?_ _ | refine blk_drew ?_ | refine blk_alloc ?_ _)); exact BK202.out⟩, ⟨by repeat (first | (with_reducible first | exact HB.out | apply below_alloc | apply pw_below_drewN | apply below_drew1 | refine below_set ?_ GE202.out) | exact HB.out)⟩⟩
    · rw [if_neg c9] at H
      have c9b0 : decide (200 < (l3.length : Int)) = false := decide_eq_false c9
      have c9b1 : decide (200 < l3.length) = false := decide_eq_false (by omega)
      clear c9
      (first | rw [c9b0] | (simp only [i64_w, i32_w]; rw [c9b0]) | skip)
      replace H := Option.bind_eq_some_iff.mp H
      obtain ⟨t204, A100, H⟩ := H
      replace H : (if t204 = true then (if a0_1 < 0 then (barrowlaw23_LimitHolds.j0 k a1 a2 l3 t203 true a0_0 a0_1) else (if a0_1 > 1099511627776 then (barrowlaw23_LimitHolds.j0 k a1 a2 l3 t203 true a0_0 a0_1) else (if a1 < 0 then (barrowlaw23_LimitHolds.j0 k a1 a2 l3 t203 true a0_0 a0_1) else (barrowlaw23_LimitHolds.j0 k a1 a2 l3 t203 (decide (a1 > 1000000)) a0_0 a0_1)))) else (barrowlaw23_LimitHolds.j0 k a1 a2 l3 t203 true a0_0 a0_1)) = some r := H
      have A10 := Aside0.mk A100
      clear A100
      by_cases c11 : t204 = true
      · subst c11
        have H1 : (if a0_1 < 0 then (barrowlaw23_LimitHolds.j0 k a1 a2 l3 t203 true a0_0 a0_1) else (if a0_1 > 1099511627776 then (barrowlaw23_LimitHolds.j0 k a1 a2 l3 t203 true a0_0 a0_1) else (if a1 < 0 then (barrowlaw23_LimitHolds.j0 k a1 a2 l3 t203 true a0_0 a0_1) else (barrowlaw23_LimitHolds.j0 k a1 a2 l3 t203 (decide (a1 > 1000000)) a0_0 a0_1)))) = some r := by rw [if_pos rfl] at H; exact H
        clear H
        have H := H1
        clear H1
        by_cases c12 : a0_1 < 0
        · rw [if_pos c12] at H
          have c12b0 : decide (a0_1 < 0) = true := decide_eq_true c12
          clear c12
          have H' := Aside0.mk H
          clear H
          have hcz13_0 : w8.cell? ⟨gb202, 0, none⟩ = some (.int .i64 a0_0) := (blk_cell BK202.out 0).trans rfl
          have hcz13_1 : w8.cell? ⟨gb202, 1, none⟩ = some (.int .i64 a0_1) := (blk_cell BK202.out 1).trans rfl
          have hfz13_0 := blk_frozen BK202.out 0
          have hfz13_1 := blk_frozen BK202.out 1
          go_wp2_with (first | (go_at_call 12; (with_reducible refine (limit_Right.calls a0_0 a0_1 a2 true _ A10.out).mono ?_); rintro e w14 ⟨rfl, hb⟩; have n0_ := Aside0.mk (blk_below (g := gb202) (o := .cells #[.int .i64 a0_0, .int .i64 a0_1] 23 (0, 0)) (by (with_reducible repeat (first | refine blk_drewN ?_ _ | refine blk_drew ?_ | refine blk_alloc ?_ _)); exact BK202.out) hb); have n1_ := Aside0.mk (below_step (by repeat (first | (with_reducible first | exact HB.out | apply below_alloc | apply pw_below_drewN | apply below_drew1 | refine below_set ?_ GE202.out) | exact HB.out)) hb); clear BK202; clear HB; have BK202 := n0_; have HB := n1_; clear n0_ n1_; (try clear hb); (try clear hb2); (try clear hk); (try clear hi); have hcz15_0 : w14.cell? ⟨gb202, 0, none⟩ = some (.int .i64 a0_0) := (blk_cell BK202.out 0).trans rfl; have hcz15_1 : w14.cell? ⟨gb202, 1, none⟩ = some (.int .i64 a0_1) := (blk_cell BK202.out 1).trans rfl; have hfz15_0 := blk_frozen BK202.out 0; have hfz15_1 := blk_frozen BK202.out 1))
          go_meet
          case rel => exact ⟨_, (true), (by first | rfl | (simp; done) | (simp [*]; done)), (by first | rfl | (simp; done) | (simp [*]; done)), H', ⟨by first | omega | exact Nat.le_refl _⟩, ⟨by (with_reducible repeat (first | refine blk_drewN ?_ _ | refine blk_drew ?_ | refine blk_alloc ?_ _)); exact BK202.out⟩, ⟨by repeat (first | (with_reducible first | exact HB.out | apply below_alloc | apply pw_below_drewN | apply below_drew1 | refine below_set ?_ GE202.out) | exact HB.out)⟩⟩
        · rw [if_neg c12] at H
          have c12b0 : decide (a0_1 < 0) = false := decide_eq_false c12
          clear c12
          by_cases c16 : a0_1 > 1099511627776
          · rw [if_pos c16] at H
            have c16b0 : decide (1099511627776 < a0_1) = true := decide_eq_true c16
            clear c16
            have H' := Aside0.mk H
            clear H
            have hcz17_0 : w8.cell? ⟨gb202, 0, none⟩ = some (.int .i64 a0_0) := (blk_cell BK202.out 0).trans rfl
            have hcz17_1 : w8.cell? ⟨gb202, 1, none⟩ = some (.int .i64 a0_1) := (blk_cell BK202.out 1).trans rfl
            have hfz17_0 := blk_frozen BK202.out 0
            have hfz17_1 := blk_frozen BK202.out 1
            go_wp2_with (first | (go_at_call 12; (with_reducible refine (limit_Right.calls a0_0 a0_1 a2 true _ A10.out).mono ?_); rintro e w18 ⟨rfl, hb⟩; have n0_ := Aside0.mk (blk_below (g := gb202) (o := .cells #[.int .i64 a0_0, .int .i64 a0_1] 23 (0, 0)) (by (with_reducible repeat (first | refine blk_drewN ?_ _ | refine blk_drew ?_ | refine blk_alloc ?_ _)); exact BK202.out) hb); have n1_ := Aside0.mk (below_step (by repeat (first | (with_reducible first | exact HB.out | apply below_alloc | apply pw_below_drewN | apply below_drew1 | refine below_set ?_ GE202.out) | exact HB.out)) hb); clear BK202; clear HB; have BK202 := n0_; have HB := n1_; clear n0_ n1_; (try clear hb); (try clear hb2); (try clear hk); (try clear hi); have hcz19_0 : w18.cell? ⟨gb202, 0, none⟩ = some (.int .i64 a0_0) := (blk_cell BK202.out 0).trans rfl; have hcz19_1 : w18.cell? ⟨gb202, 1, none⟩ = some (.int .i64 a0_1) := (blk_cell BK202.out 1).trans rfl; have hfz19_0 := blk_frozen BK202.out 0; have hfz19_1 := blk_frozen BK202.out 1))
            go_meet
            case rel => exact ⟨_, (true), (by first | rfl | (simp; done) | (simp [*]; done)), (by first | rfl | (simp; done) | (simp [*]; done)), H', ⟨by first | omega | exact Nat.le_refl _⟩, ⟨by (with_reducible repeat (first | refine blk_drewN ?_ _ | refine blk_drew ?_ | refine blk_alloc ?_ _)); exact BK202.out⟩, ⟨by repeat (first | (with_reducible first | exact HB.out | apply below_alloc | apply pw_below_drewN | apply below_drew1 | refine below_set ?_ GE202.out) | exact HB.out)⟩⟩
          · rw [if_neg c16] at H
            have c16b0 : decide (1099511627776 < a0_1) = false := decide_eq_false c16
            clear c16
            by_cases c20 : a1 < 0
            · rw [if_pos c20] at H
              have c20b0 : decide (a1 < 0) = true := decide_eq_true c20
              clear c20
              have H' := Aside0.mk H
              clear H
              have hcz21_0 : w8.cell? ⟨gb202, 0, none⟩ = some (.int .i64 a0_0) := (blk_cell BK202.out 0).trans rfl
              have hcz21_1 : w8.cell? ⟨gb202, 1, none⟩ = some (.int .i64 a0_1) := (blk_cell BK202.out 1).trans rfl
              have hfz21_0 := blk_frozen BK202.out 0
              have hfz21_1 := blk_frozen BK202.out 1
              go_wp2_with (first | (go_at_call 12; (with_reducible refine (limit_Right.calls a0_0 a0_1 a2 true _ A10.out).mono ?_); rintro e w22 ⟨rfl, hb⟩; have n0_ := Aside0.mk (blk_below (g := gb202) (o := .cells #[.int .i64 a0_0, .int .i64 a0_1] 23 (0, 0)) (by (with_reducible repeat (first | refine blk_drewN ?_ _ | refine blk_drew ?_ | refine blk_alloc ?_ _)); exact BK202.out) hb); have n1_ := Aside0.mk (below_step (by repeat (first | (with_reducible first | exact HB.out | apply below_alloc | apply pw_below_drewN | apply below_drew1 | refine below_set ?_ GE202.out) | exact HB.out)) hb); clear BK202; clear HB; have BK202 := n0_; have HB := n1_; clear n0_ n1_; (try clear hb); (try clear hb2); (try clear hk); (try clear hi); have hcz23_0 : w22.cell? ⟨gb202, 0, none⟩ = some (.int .i64 a0_0) := (blk_cell BK202.out 0).trans rfl; have hcz23_1 : w22.cell? ⟨gb202, 1, none⟩ = some (.int .i64 a0_1) := (blk_cell BK202.out 1).trans rfl; have hfz23_0 := blk_frozen BK202.out 0; have hfz23_1 := blk_frozen BK202.out 1))
              go_meet
              case rel => exact ⟨_, (true), (by first | rfl | (simp; done) | (simp [*]; done)), (by first | rfl | (simp; done) | (simp [*]; done)), H', ⟨by first | omega | exact Nat.le_refl _⟩, ⟨by (with_reducible repeat (first | refine blk_drewN ?_ _ | refine blk_drew ?_ | refine blk_alloc ?_ _)); exact BK202.out⟩, ⟨by repeat (first | (with_reducible first | exact HB.out | apply below_alloc | apply pw_below_drewN | apply below_drew1 | refine below_set ?_ GE202.out) | exact HB.out)⟩⟩
            · rw [if_neg c20] at H
              have c20b0 : decide (a1 < 0) = false := decide_eq_false c20
              clear c20
              have H' := Aside0.mk H
              clear H
              have hcz24_0 : w8.cell? ⟨gb202, 0, none⟩ = some (.int .i64 a0_0) := (blk_cell BK202.out 0).trans rfl
              have hcz24_1 : w8.cell? ⟨gb202, 1, none⟩ = some (.int .i64 a0_1) := (blk_cell BK202.out 1).trans rfl
              have hfz24_0 := blk_frozen BK202.out 0
              have hfz24_1 := blk_frozen BK202.out 1
              go_wp2_with (first | (go_at_call 12; (with_reducible refine (limit_Right.calls a0_0 a0_1 a2 true _ A10.out).mono ?_); rintro e w25 ⟨rfl, hb⟩; have n0_ := Aside0.mk (blk_below (g := gb202) (o := .cells #[.int .i64 a0_0, .int .i64 a0_1] 23 (0, 0)) (by (with_reducible repeat (first | refine blk_drewN ?_ _ | refine blk_drew ?_ | refine blk_alloc ?_ _)); exact BK202.out) hb); have n1_ := Aside0.mk (below_step (by repeat (first | (with_reducible first | exact HB.out | apply below_alloc | apply pw_below_drewN | apply below_drew1 | refine below_set ?_ GE202.out) | exact HB.out)) hb); clear BK202; clear HB; have BK202 := n0_; have HB := n1_; clear n0_ n1_; (try clear hb); (try clear hb2); (try clear hk); (try clear hi); have hcz26_0 : w25.cell? ⟨gb202, 0, none⟩ = some (.int .i64 a0_0) := (blk_cell BK202.out 0).trans rfl; have hcz26_1 : w25.cell? ⟨gb202, 1, none⟩ = some (.int .i64 a0_1) := (blk_cell BK202.out 1).trans rfl; have hfz26_0 := blk_frozen BK202.out 0; have hfz26_1 := blk_frozen BK202.out 1))
              go_meet
              case rel => exact ⟨_, (decide (a1 > 1000000)), (by first | rfl | (simp; done) | (simp [*]; done)), (by first | rfl | (simp; done) | (simp [*]; done)), H', ⟨by first | omega | exact Nat.le_refl _⟩, ⟨by (with_reducible repeat (first | refine blk_drewN ?_ _ | refine blk_drew ?_ | refine blk_alloc ?_ _)); exact BK202.out⟩, ⟨by repeat (first | (with_reducible first | exact HB.out | apply below_alloc | apply pw_below_drewN | apply below_drew1 | refine below_set ?_ GE202.out) | exact HB.out)⟩⟩
      · replace c11 := Bool.eq_false_iff.mpr c11
        subst c11
        have H1 : (barrowlaw23_LimitHolds.j0 k a1 a2 l3 t203 true a0_0 a0_1) = some r := by rw [if_neg (show ¬ (false = true) by decide)] at H; exact H
        clear H
        have H := H1
        clear H1
        have H' := Aside0.mk H
        clear H
        have hcz27_0 : w8.cell? ⟨gb202, 0, none⟩ = some (.int .i64 a0_0) := (blk_cell BK202.out 0).trans rfl
        have hcz27_1 : w8.cell? ⟨gb202, 1, none⟩ = some (.int .i64 a0_1) := (blk_cell BK202.out 1).trans rfl
        have hfz27_0 := blk_frozen BK202.out 0
        have hfz27_1 := blk_frozen BK202.out 1
        go_wp2_with (first | (go_at_call 12; (with_reducible refine (limit_Right.calls a0_0 a0_1 a2 false _ A10.out).mono ?_); rintro e w28 ⟨rfl, hb⟩; have n0_ := Aside0.mk (blk_below (g := gb202) (o := .cells #[.int .i64 a0_0, .int .i64 a0_1] 23 (0, 0)) (by (with_reducible repeat (first | refine blk_drewN ?_ _ | refine blk_drew ?_ | refine blk_alloc ?_ _)); exact BK202.out) hb); have n1_ := Aside0.mk (below_step (by repeat (first | (with_reducible first | exact HB.out | apply below_alloc | apply pw_below_drewN | apply below_drew1 | refine below_set ?_ GE202.out) | exact HB.out)) hb); clear BK202; clear HB; have BK202 := n0_; have HB := n1_; clear n0_ n1_; (try clear hb); (try clear hb2); (try clear hk); (try clear hi)))
        go_meet
        case rel => exact ⟨_, (true), (by first | rfl | (simp; done) | (simp [*]; done)), (by first | rfl | (simp; done) | (simp [*]; done)), H', ⟨by first | omega | exact Nat.le_refl _⟩, ⟨by (with_reducible repeat (first | refine blk_drewN ?_ _ | refine blk_drew ?_ | refine blk_alloc ?_ _)); exact BK202.out⟩, ⟨by repeat (first | (with_reducible first | exact HB.out | apply below_alloc | apply pw_below_drewN | apply below_drew1 | refine below_set ?_ GE202.out) | exact HB.out)⟩⟩
  case rest =>
    clear HC6
    try clear c1
    try clear c2
    try clear p2
    try clear c3
    try clear c5
    try clear c7
    try clear c9
    try clear c9b0
    try clear c9b1
    try clear c11
    try clear c12
    try clear c12b0
    try clear c16
    try clear c16b0
    try clear c20
    try clear c20b0
    try clear hcz13_0
    try clear hcz13_1
    try clear hcz15_0
    try clear hcz15_1
    try clear hcz17_0
    try clear hcz17_1
    try clear hcz19_0
    try clear hcz19_1
    try clear hcz21_0
    try clear hcz21_1
    try clear hcz23_0
    try clear hcz23_1
    try clear hcz24_0
    try clear hcz24_1
    try clear hcz26_0
    try clear hcz26_1
    try clear hcz27_0
    try clear hcz27_1
    try clear hfz13_0
    try clear hfz13_1
    try clear hfz15_0
    try clear hfz15_1
    try clear hfz17_0
    try clear hfz17_1
    try clear hfz19_0
    try clear hfz19_1
    try clear hfz21_0
    try clear hfz21_1
    try clear hfz23_0
    try clear hfz23_1
    try clear hfz24_0
    try clear hfz24_1
    try clear hfz26_0
    try clear hfz26_1
    try clear hfz27_0
    try clear hfz27_1
    obtain ⟨kq, x46_5, rfl, rfl, HA, HJ5, BK202, HB⟩ := hcut
    cases kq with
    | zero => exact absurd HA.out (by simp [barrowlaw23_LimitHolds.j0])
    | succ kj5 =>
      have H := HA.out
      clear HA
      simp only [barrowlaw23_LimitHolds.j0] at H
      by_cases c29 : x46_5 = true
      · subst c29
        have H1 : (some t203) = some r := by rw [if_pos rfl] at H; exact H
        clear H
        have H := H1
        clear H1
        obtain rfl := Option.some.inj H
        go_wp2
        go_ret
        exact ⟨by first | rfl | (simp [errW_none, errW_some] <;> rfl) | (simp [*, errW_none, errW_some] <;> rfl), by repeat (first | (with_reducible first | exact HB.out | apply below_alloc | apply pw_below_drewN | apply below_drew1 | refine below_set ?_ GE202.out) | exact HB.out)⟩
      · replace c29 := Bool.eq_false_iff.mpr c29
        subst c29
        have H1 : (barrowlaw23_LimitHolds.l0 kj5 a1 a2 l3 t203 a0_0 a0_1 a0_1 0 0 a0_0 a0_1) = some r := by rw [if_neg (show ¬ (false = true) by decide)] at H; exact H
        clear H
        have H := H1
        clear H1
        have H' := Aside0.mk H
        clear H
        have hcz30_0 : wc.cell? ⟨gb202, 0, none⟩ = some (.int .i64 a0_0) := (blk_cell BK202.out 0).trans rfl
        have hcz30_1 : wc.cell? ⟨gb202, 1, none⟩ = some (.int .i64 a0_1) := (blk_cell BK202.out 1).trans rfl
        have hfz30_0 := blk_frozen BK202.out 0
        have hfz30_1 := blk_frozen BK202.out 1
        go_wp2
        go_loopg [12, 13, 14] kj5 (fun kq v12 v13 v14 w' => ∃ (x12_2 : Int) (x13_2 : Int) (x14_2 : Int) (x203000_2 : Int) (x203001_2 : Int), v12 = .int .i64 x12_2 ∧ v13 = .int .i64 x13_2 ∧ v14 = .int .i64 x14_2 ∧ Aside0 (barrowlaw23_LimitHolds.l0 kq a1 a2 l3 t203 a0_0 a0_1 x12_2 x13_2 x14_2 x203000_2 x203001_2 = some r) ∧ Aside0 (kq ≤ kj5) ∧ Aside0 (w'.heap[gb202]? = some (.cells #[.int .i64 x203000_2, .int .i64 x203001_2] 23 (0, 0))) ∧ Aside0 (Below w.heap.size w w'))
        case atStart => exact ⟨(a0_1), (0), (0), (a0_0), (a0_1), (by first | rfl | (simp; done) | (simp [*]; done)), (by first | rfl | (simp; done) | (simp [*]; done)), (by first | rfl | (simp; done) | (simp [*]; done)), H', ⟨Nat.le_refl _⟩, ⟨by (with_reducible repeat (first | refine blk_drewN ?_ _ | refine blk_drew ?_ | refine blk_alloc ?_ _)); exact BK202.out⟩, ⟨by repeat (first | (with_reducible first | exact HB.out | apply below_alloc | apply pw_below_drewN | apply below_drew1 | refine below_set ?_ GE202.out) | exact HB.out)⟩⟩
        case round =>
          clear H'
          try clear c1
          try clear c2
          try clear p2
          try clear c3
          try clear c5
          try clear c7
          try clear c9
          try clear c9b0
          try clear c9b1
          try clear c11
          try clear c12
          try clear c12b0
          try clear c16
          try clear c16b0
          try clear c20
          try clear c20b0
          try clear c29
          try clear hcz13_0
          try clear hcz13_1
          try clear hcz15_0
          try clear hcz15_1
          try clear hcz17_0
          try clear hcz17_1
          try clear hcz19_0
          try clear hcz19_1
          try clear hcz21_0
          try clear hcz21_1
          try clear hcz23_0
          try clear hcz23_1
          try clear hcz24_0
          try clear hcz24_1
          try clear hcz26_0
          try clear hcz26_1
          try clear hcz27_0
          try clear hcz27_1
          try clear hcz30_0
          try clear hcz30_1
          try clear hfz13_0
          try clear hfz13_1
          try clear hfz15_0
          try clear hfz15_1
          try clear hfz17_0
          try clear hfz17_1
          try clear hfz19_0
          try clear hfz19_1
          try clear hfz21_0
          try clear hfz21_1
          try clear hfz23_0
          try clear hfz23_1
          try clear hfz24_0
          try clear hfz24_1
          try clear hfz26_0
          try clear hfz26_1
          try clear hfz27_0
          try clear hfz27_1
          try clear hfz30_0
          try clear hfz30_1
          try clear p2
          obtain ⟨x12_2, x13_2, x14_2, x203000_2, x203001_2, rfl, rfl, rfl, HA, HK2, BK202, HB⟩ := hrel
          cases gk with
          | zero => exact absurd HA.out (by simp [barrowlaw23_LimitHolds.l0])
          | succ k2 =>
            have H := HA.out
            clear HA
            simp only [barrowlaw23_LimitHolds.l0] at H
            by_cases c31 : x14_2 < (l3.length : Int)
            · rw [if_pos c31] at H
              have c31b0 : decide (x14_2 < (l3.length : Int)) = true := decide_eq_true c31
              clear c31
              by_cases c32 : 0 ≤ x14_2
              · rw [if_pos c32] at H
                have c32b0 : decide (0 ≤ x14_2) = true := decide_eq_true c32
                clear c32
                replace H := Option.bind_eq_some_iff.mp H
                obtain ⟨⟨t207, t208⟩, A330, H⟩ := H
                replace H : ((limit_Take.f k2 x203000_2 x203001_2 (wrap64 (x12_2 + (Go.bits .and .i64 ((rd_T32 l3 x14_2).f0) 7))) a1 a2 ((rd_T32 l3 x14_2).f1)).bind fun bt210 => (if ((rd_T32 l3 x14_2).f1) ≥ 0 then (if (bt210.2.2 != (decide (((rd_T32 l3 x14_2).f1) ≤ t207))) = true then (barrowlaw23_LimitHolds.j2 k2 a1 a2 l3 t203 a0_0 a0_1 (wrap64 (x12_2 + (Go.bits .and .i64 ((rd_T32 l3 x14_2).f0) 7))) x13_2 x14_2 ((rd_T32 l3 x14_2).f1) bt210.2.2 true bt210.1 bt210.2.1) else (if bt210.2.2 = true then (if bt210.1 = (wrap64 (t207 - ((rd_T32 l3 x14_2).f1))) then ((limit_Right.f bt210.1 bt210.2.1 a2).bind fun t214 => (barrowlaw23_LimitHolds.j2 k2 a1 a2 l3 t203 a0_0 a0_1 (wrap64 (x12_2 + (Go.bits .and .i64 ((rd_T32 l3 x14_2).f0) 7))) x13_2 x14_2 ((rd_T32 l3 x14_2).f1) bt210.2.2 (!t214) bt210.1 bt210.2.1)) else (barrowlaw23_LimitHolds.j2 k2 a1 a2 l3 t203 a0_0 a0_1 (wrap64 (x12_2 + (Go.bits .and .i64 ((rd_T32 l3 x14_2).f0) 7))) x13_2 x14_2 ((rd_T32 l3 x14_2).f1) bt210.2.2 true bt210.1 bt210.2.1)) else (if (!(bt210.1 == t207) || (!(bt210.2.1 == t208))) = true then (barrowlaw23_LimitHolds.j2 k2 a1 a2 l3 t203 a0_0 a0_1 (wrap64 (x12_2 + (Go.bits .and .i64 ((rd_T32 l3 x14_2).f0) 7))) x13_2 x14_2 ((rd_T32 l3 x14_2).f1) bt210.2.2 true bt210.1 bt210.2.1) else ((limit_Right.f bt210.1 bt210.2.1 a2).bind fun t215 => (barrowlaw23_LimitHolds.j2 k2 a1 a2 l3 t203 a0_0 a0_1 (wrap64 (x12_2 + (Go.bits .and .i64 ((rd_T32 l3 x14_2).f0) 7))) x13_2 x14_2 ((rd_T32 l3 x14_2).f1) bt210.2.2 (!t215) bt210.1 bt210.2.1))))) else (if (bt210.2.2 != false) = true then (barrowlaw23_LimitHolds.j2 k2 a1 a2 l3 t203 a0_0 a0_1 (wrap64 (x12_2 + (Go.bits .and .i64 ((rd_T32 l3 x14_2).f0) 7))) x13_2 x14_2 ((rd_T32 l3 x14_2).f1) bt210.2.2 true bt210.1 bt210.2.1) else (if bt210.2.2 = true then (if bt210.1 = (wrap64 (t207 - ((rd_T32 l3 x14_2).f1))) then ((limit_Right.f bt210.1 bt210.2.1 a2).bind fun t216 => (barrowlaw23_LimitHolds.j2 k2 a1 a2 l3 t203 a0_0 a0_1 (wrap64 (x12_2 + (Go.bits .and .i64 ((rd_T32 l3 x14_2).f0) 7))) x13_2 x14_2 ((rd_T32 l3 x14_2).f1) bt210.2.2 (!t216) bt210.1 bt210.2.1)) else (barrowlaw23_LimitHolds.j2 k2 a1 a2 l3 t203 a0_0 a0_1 (wrap64 (x12_2 + (Go.bits .and .i64 ((rd_T32 l3 x14_2).f0) 7))) x13_2 x14_2 ((rd_T32 l3 x14_2).f1) bt210.2.2 true bt210.1 bt210.2.1)) else (if (!(bt210.1 == t207) || (!(bt210.2.1 == t208))) = true then (barrowlaw23_LimitHolds.j2 k2 a1 a2 l3 t203 a0_0 a0_1 (wrap64 (x12_2 + (Go.bits .and .i64 ((rd_T32 l3 x14_2).f0) 7))) x13_2 x14_2 ((rd_T32 l3 x14_2).f1) bt210.2.2 true bt210.1 bt210.2.1) else ((limit_Right.f bt210.1 bt210.2.1 a2).bind fun t217 => (barrowlaw23_LimitHolds.j2 k2 a1 a2 l3 t203 a0_0 a0_1 (wrap64 (x12_2 + (Go.bits .and .i64 ((rd_T32 l3 x14_2).f0) 7))) x13_2 x14_2 ((rd_T32 l3 x14_2).f1) bt210.2.2 (!t217) bt210.1 bt210.2.1))))))) = some r := H
                have A33 := Aside0.mk A330
                clear A330
                replace H := Option.bind_eq_some_iff.mp H
                obtain ⟨⟨t210, t211, t212⟩, A340, H⟩ := H
                replace H : (if ((rd_T32 l3 x14_2).f1) ≥ 0 then (if (t212 != (decide (((rd_T32 l3 x14_2).f1) ≤ t207))) = true then (barrowlaw23_LimitHolds.j2 k2 a1 a2 l3 t203 a0_0 a0_1 (wrap64 (x12_2 + (Go.bits .and .i64 ((rd_T32 l3 x14_2).f0) 7))) x13_2 x14_2 ((rd_T32 l3 x14_2).f1) t212 true t210 t211) else (if t212 = true then (if t210 = (wrap64 (t207 - ((rd_T32 l3 x14_2).f1))) then ((limit_Right.f t210 t211 a2).bind fun t214 => (barrowlaw23_LimitHolds.j2 k2 a1 a2 l3 t203 a0_0 a0_1 (wrap64 (x12_2 + (Go.bits .and .i64 ((rd_T32 l3 x14_2).f0) 7))) x13_2 x14_2 ((rd_T32 l3 x14_2).f1) t212 (!t214) t210 t211)) else (barrowlaw23_LimitHolds.j2 k2 a1 a2 l3 t203 a0_0 a0_1 (wrap64 (x12_2 + (Go.bits .and .i64 ((rd_T32 l3 x14_2).f0) 7))) x13_2 x14_2 ((rd_T32 l3 x14_2).f1) t212 true t210 t211)) else (if (!(t210 == t207) || (!(t211 == t208))) = true then (barrowlaw23_LimitHolds.j2 k2 a1 a2 l3 t203 a0_0 a0_1 (wrap64 (x12_2 + (Go.bits .and .i64 ((rd_T32 l3 x14_2).f0) 7))) x13_2 x14_2 ((rd_T32 l3 x14_2).f1) t212 true t210 t211) else ((limit_Right.f t210 t211 a2).bind fun t215 => (barrowlaw23_LimitHolds.j2 k2 a1 a2 l3 t203 a0_0 a0_1 (wrap64 (x12_2 + (Go.bits .and .i64 ((rd_T32 l3 x14_2).f0) 7))) x13_2 x14_2 ((rd_T32 l3 x14_2).f1) t212 (!t215) t210 t211))))) else (if (t212 != false) = true then (barrowlaw23_LimitHolds.j2 k2 a1 a2 l3 t203 a0_0 a0_1 (wrap64 (x12_2 + (Go.bits .and .i64 ((rd_T32 l3 x14_2).f0) 7))) x13_2 x14_2 ((rd_T32 l3 x14_2).f1) t212 true t210 t211) else (if t212 = true then (if t210 = (wrap64 (t207 - ((rd_T32 l3 x14_2).f1))) then ((limit_Right.f t210 t211 a2).bind fun t216 => (barrowlaw23_LimitHolds.j2 k2 a1 a2 l3 t203 a0_0 a0_1 (wrap64 (x12_2 + (Go.bits .and .i64 ((rd_T32 l3 x14_2).f0) 7))) x13_2 x14_2 ((rd_T32 l3 x14_2).f1) t212 (!t216) t210 t211)) else (barrowlaw23_LimitHolds.j2 k2 a1 a2 l3 t203 a0_0 a0_1 (wrap64 (x12_2 + (Go.bits .and .i64 ((rd_T32 l3 x14_2).f0) 7))) x13_2 x14_2 ((rd_T32 l3 x14_2).f1) t212 true t210 t211)) else (if (!(t210 == t207) || (!(t211 == t208))) = true then (barrowlaw23_LimitHolds.j2 k2 a1 a2 l3 t203 a0_0 a0_1 (wrap64 (x12_2 + (Go.bits .and .i64 ((rd_T32 l3 x14_2).f0) 7))) x13_2 x14_2 ((rd_T32 l3 x14_2).f1) t212 true t210 t211) else ((limit_Right.f t210 t211 a2).bind fun t217 => (barrowlaw23_LimitHolds.j2 k2 a1 a2 l3 t203 a0_0 a0_1 (wrap64 (x12_2 + (Go.bits .and .i64 ((rd_T32 l3 x14_2).f0) 7))) x13_2 x14_2 ((rd_T32 l3 x14_2).f1) t212 (!t217) t210 t211)))))) = some r := H
                have A34 := Aside0.mk A340
                clear A340
                have HC35 := Aside0.mk H
                clear H
                have p205 : 0 ≤ (x14_2 : Int) := of_decide_eq_true (by first | (with_reducible assumption) | assumption)
                have q205 : x14_2 < (l3.length : Int) := of_decide_eq_true (by first | (with_reducible assumption) | assumption)
                obtain ⟨ad205, e205, hx205_0, hx205_1⟩ := at_T32 HR3.out x14_2 p205 q205
                cases e205
                replace hx205_0 := (HB.out.cell (World.block_lt_of_cell? w _ hx205_0)).trans hx205_0
                replace hx205_1 := (HB.out.cell (World.block_lt_of_cell? w _ hx205_1)).trans hx205_1
                replace p205 := eq_true p205
                replace q205 := eq_true q205
                have p206 : 0 ≤ (x14_2 : Int) := of_decide_eq_true (by first | (with_reducible assumption) | assumption)
                have q206 : x14_2 < (l3.length : Int) := of_decide_eq_true (by first | (with_reducible assumption) | assumption)
                obtain ⟨ad206, e206, hx206_0, hx206_1⟩ := at_T32 HR3.out x14_2 p206 q206
                obtain rfl : ad205 = ad206 := (by injection e206)
                replace hx206_0 := (HB.out.cell (World.block_lt_of_cell? w _ hx206_0)).trans hx206_0
                replace hx206_1 := (HB.out.cell (World.block_lt_of_cell? w _ hx206_1)).trans hx206_1
                replace p206 := eq_true p206
                replace q206 := eq_true q206
                have hcz36_0 : wr.cell? ⟨gb202, 0, none⟩ = some (.int .i64 x203000_2) := (blk_cell BK202.out 0).trans rfl
                have hcz36_1 : wr.cell? ⟨gb202, 1, none⟩ = some (.int .i64 x203001_2) := (blk_cell BK202.out 1).trans rfl
                have hfz36_0 := blk_frozen BK202.out 0
                have hfz36_1 := blk_frozen BK202.out 1
                go_upto_region 15 with (first | ((with_reducible refine gate_callee (f := 10) rfl ?_); refine goesL_ (some 77) rfl rfl Try.func10 (by kernel_rfl) rfl #[.agg #[.int .i64 x203000_2, .int .i64 x203001_2], .int .i64 (wrap64 (x12_2 + (Go.bits .and .i64 ((rd_T32 l3 x14_2).f0) 7))), .int .i64 a1, .int .i64 a2] rfl (by (try simp only [List.map_toArray, List.map_cons, List.map_nil]); first | done | rfl | (simp only [List.length_drop, List.length_take]; rfl)) ?_; (with_reducible refine (limit_Fill.calls k2 x203000_2 x203001_2 (wrap64 (x12_2 + (Go.bits .and .i64 ((rd_T32 l3 x14_2).f0) 7))) a1 a2 t207 t208 _ A33.out).mono ?_); rintro e w37 ⟨rfl, hb⟩; refine ⟨_, rfl, ?_⟩; have n0_ := Aside0.mk (blk_below (g := gb202) (o := .cells #[.int .i64 x203000_2, .int .i64 x203001_2] 23 (0, 0)) (by (with_reducible repeat (first | refine blk_drewN ?_ _ | refine blk_drew ?_ | refine blk_alloc ?_ _)); exact BK202.out) hb); have n1_ := Aside0.mk (below_step (by repeat (first | (with_reducible first | exact HB.out | apply below_alloc | apply pw_below_drewN | apply below_drew1 | refine below_set ?_ GE202.out) | exact HB.out)) hb); clear BK202; clear HB; have BK202 := n0_; have HB := n1_; clear n0_ n1_; (try clear hb); (try clear hb2); (try clear hk); (try clear hi)) | ((with_reducible refine gate_dst (N := 16) rfl ?_); refine box_event ?hg (N := 16) ?hd (cs := #[.int .i64 0, .int .i64 0]) (t := 23) ?hr ?_; (case hd => rfl); (case hg => rfl); (case hr => first | (go_simp; done) | (go_simp; rfl)); intro gb209 hg w38 hbox hb; have n0_ := Aside0.mk (blk_below (g := gb202) (o := .cells #[.int .i64 x203000_2, .int .i64 x203001_2] 23 (0, 0)) (by (with_reducible repeat (first | refine blk_drewN ?_ _ | refine blk_drew ?_ | refine blk_alloc ?_ _)); exact BK202.out) hb); have n1_ := Aside0.mk (below_step (by repeat (first | (with_reducible first | exact HB.out | apply below_alloc | apply pw_below_drewN | apply below_drew1 | refine below_set ?_ GE202.out) | exact HB.out)) hb); have n2_ := Aside0.mk (hbox); have n3_ := Aside0.mk ((by rw [hg]; exact (below_size (by repeat (first | (with_reducible first | exact HB.out | apply below_alloc | apply pw_below_drewN | apply below_drew1 | refine below_set ?_ GE202.out) | exact HB.out))) : w.heap.size ≤ gb209)); have n4_ := Aside0.mk ((by rw [hg]; exact (below_size (by repeat (first | (with_reducible first | exact HB.out | apply below_alloc | apply pw_below_drewN | apply below_drew1 | refine below_set ?_ GE202.out) | exact HB.out))) : w.heap.size ≤ gb209)); have n5_ := Aside0.mk ((by rw [hg]; exact Nat.ne_of_lt (blk_lt (g := gb202) (o := .cells #[.int .i64 x203000_2, .int .i64 x203001_2] 23 (0, 0)) (by (with_reducible repeat (first | refine blk_drewN ?_ _ | refine blk_drew ?_ | refine blk_alloc ?_ _)); exact BK202.out)) : gb202 ≠ gb209)); have n6_ := Aside0.mk ((by rw [hg]; exact Nat.ne_of_gt (blk_lt (g := gb202) (o := .cells #[.int .i64 x203000_2, .int .i64 x203001_2] 23 (0, 0)) (by (with_reducible repeat (first | refine blk_drewN ?_ _ | refine blk_drew ?_ | refine blk_alloc ?_ _)); exact BK202.out)) : gb209 ≠ gb202)); clear BK202; clear HB; have BK202 := n0_; have HB := n1_; have BK209 := n2_; have GW209 := n3_; have GE209 := n4_; have NB202_209 := n5_; have NB209_202 := n6_; clear n0_ n1_ n2_ n3_ n4_ n5_ n6_; clear hb hbox hg; have hnb39 := NB209_202.out; have hnc39 := NB202_209.out; have hcz40_0 : w38.cell? ⟨gb209, 0, none⟩ = some (.int .i64 0) := (blk_cell BK209.out 0).trans rfl; have hcz40_1 : w38.cell? ⟨gb209, 1, none⟩ = some (.int .i64 0) := (blk_cell BK209.out 1).trans rfl; have hfz40_0 := blk_frozen BK209.out 0; have hfz40_1 := blk_frozen BK209.out 1; have hcz41_0 : w38.cell? ⟨gb202, 0, none⟩ = some (.int .i64 x203000_2) := (blk_cell BK202.out 0).trans rfl; have hcz41_1 : w38.cell? ⟨gb202, 1, none⟩ = some (.int .i64 x203001_2) := (blk_cell BK202.out 1).trans rfl; have hfz41_0 := blk_frozen BK202.out 0; have hfz41_1 := blk_frozen BK202.out 1) | ((with_reducible refine gate_callee (f := 8) rfl ?_); refine goesL_ (some 84) rfl rfl Try.func8 (by kernel_rfl) rfl #[.agg #[.int .i64 x203000_2, .int .i64 x203001_2], .int .i64 (wrap64 (x12_2 + (Go.bits .and .i64 ((rd_T32 l3 x14_2).f0) 7))), .int .i64 a1, .int .i64 a2, .int .i64 ((rd_T32 l3 x14_2).f1)] rfl (by (try simp only [List.map_toArray, List.map_cons, List.map_nil]); first | done | rfl | (simp only [List.length_drop, List.length_take]; rfl)) ?_; (with_reducible refine (limit_Take.calls k2 x203000_2 x203001_2 (wrap64 (x12_2 + (Go.bits .and .i64 ((rd_T32 l3 x14_2).f0) 7))) a1 a2 ((rd_T32 l3 x14_2).f1) t210 t211 t212 _ A34.out).mono ?_); rintro e w42 ⟨rfl, hb⟩; refine ⟨_, rfl, ?_⟩; have n0_ := Aside0.mk (blk_below (g := gb202) (o := .cells #[.int .i64 x203000_2, .int .i64 x203001_2] 23 (0, 0)) (by (with_reducible repeat (first | refine blk_drewN ?_ _ | refine blk_drew ?_ | refine blk_alloc ?_ _)); refine blk_far ?_ NB202_209.out _; (with_reducible repeat (first | refine blk_drewN ?_ _ | refine blk_drew ?_ | refine blk_alloc ?_ _)); refine blk_far ?_ NB202_209.out _; (with_reducible repeat (first | refine blk_drewN ?_ _ | refine blk_drew ?_ | refine blk_alloc ?_ _)); exact BK202.out) hb); have n1_ := Aside0.mk (blk_below (g := gb209) (o := .cells #[.int .i64 t207, .int .i64 t208] 23 (0, 0)) (by (with_reducible repeat (first | refine blk_drewN ?_ _ | refine blk_drew ?_ | refine blk_alloc ?_ _)); refine blk_put (cs := #[.int .i64 t207, .int .i64 0]) ?_ 1 _ rfl; (with_reducible repeat (first | refine blk_drewN ?_ _ | refine blk_drew ?_ | refine blk_alloc ?_ _)); refine blk_put (cs := #[.int .i64 0, .int .i64 0]) ?_ 0 _ rfl; (with_reducible repeat (first | refine blk_drewN ?_ _ | refine blk_drew ?_ | refine blk_alloc ?_ _)); exact BK209.out) hb); have n2_ := Aside0.mk (below_step (by repeat (first | (with_reducible first | exact HB.out | apply below_alloc | apply pw_below_drewN | apply below_drew1 | refine below_set ?_ GE202.out | refine below_set ?_ GE209.out) | exact HB.out)) hb); clear BK202; clear BK209; clear HB; have BK202 := n0_; have BK209 := n1_; have HB := n2_; clear n0_ n1_ n2_; (try clear hb); (try clear hb2); (try clear hk); (try clear hi)) | ((with_reducible refine gate_dst (N := 17) rfl ?_); refine box_event ?hg (N := 17) ?hd (cs := #[.int .i64 0, .int .i64 0]) (t := 23) ?hr ?_; (case hd => rfl); (case hg => rfl); (case hr => first | (go_simp; done) | (go_simp; rfl)); intro gb213 hg w43 hbox hb; have n0_ := Aside0.mk (blk_below (g := gb202) (o := .cells #[.int .i64 x203000_2, .int .i64 x203001_2] 23 (0, 0)) (by (with_reducible repeat (first | refine blk_drewN ?_ _ | refine blk_drew ?_ | refine blk_alloc ?_ _)); exact BK202.out) hb); have n1_ := Aside0.mk (blk_below (g := gb209) (o := .cells #[.int .i64 t207, .int .i64 t208] 23 (0, 0)) (by (with_reducible repeat (first | refine blk_drewN ?_ _ | refine blk_drew ?_ | refine blk_alloc ?_ _)); exact BK209.out) hb); have n2_ := Aside0.mk (below_step (by repeat (first | (with_reducible first | exact HB.out | apply below_alloc | apply pw_below_drewN | apply below_drew1 | refine below_set ?_ GE202.out | refine below_set ?_ GE209.out) | exact HB.out)) hb); have n3_ := Aside0.mk (hbox); have n4_ := Aside0.mk ((by rw [hg]; exact (below_size (by repeat (first | (with_reducible first | exact HB.out | apply below_alloc | apply pw_below_drewN | apply below_drew1 | refine below_set ?_ GE202.out | refine below_set ?_ GE209.out) | exact HB.out))) : w.heap.size ≤ gb213)); have n5_ := Aside0.mk ((by rw [hg]; exact (below_size (by repeat (first | (with_reducible first | exact HB.out | apply below_alloc | apply pw_below_drewN | apply below_drew1 | refine below_set ?_ GE202.out | refine below_set ?_ GE209.out) | exact HB.out))) : w.heap.size ≤ gb213)); have n6_ := Aside0.mk ((by rw [hg]; exact Nat.ne_of_lt (blk_lt (g := gb202) (o := .cells #[.int .i64 x203000_2, .int .i64 x203001_2] 23 (0, 0)) (by (with_reducible repeat (first | refine blk_drewN ?_ _ | refine blk_drew ?_ | refine blk_alloc ?_ _)); exact BK202.out)) : gb202 ≠ gb213)); have n7_ := Aside0.mk ((by rw [hg]; exact Nat.ne_of_gt (blk_lt (g := gb202) (o := .cells #[.int .i64 x203000_2, .int .i64 x203001_2] 23 (0, 0)) (by (with_reducible repeat (first | refine blk_drewN ?_ _ | refine blk_drew ?_ | refine blk_alloc ?_ _)); exact BK202.out)) : gb213 ≠ gb202)); have n8_ := Aside0.mk ((by rw [hg]; exact Nat.ne_of_lt (blk_lt (g := gb209) (o := .cells #[.int .i64 t207, .int .i64 t208] 23 (0, 0)) (by (with_reducible repeat (first | refine blk_drewN ?_ _ | refine blk_drew ?_ | refine blk_alloc ?_ _)); exact BK209.out)) : gb209 ≠ gb213)); have n9_ := Aside0.mk ((by rw [hg]; exact Nat.ne_of_gt (blk_lt (g := gb209) (o := .cells #[.int .i64 t207, .int .i64 t208] 23 (0, 0)) (by (with_reducible repeat (first | refine blk_drewN ?_ _ | refine blk_drew ?_ | refine blk_alloc ?_ _)); exact BK209.out)) : gb213 ≠ gb209)); clear BK202; clear BK209; clear HB; have BK202 := n0_; have BK209 := n1_; have HB := n2_; have BK213 := n3_; have GW213 := n4_; have GE213 := n5_; have NB202_213 := n6_; have NB213_202 := n7_; have NB209_213 := n8_; have NB213_209 := n9_; clear n0_ n1_ n2_ n3_ n4_ n5_ n6_ n7_ n8_ n9_; clear hb hbox hg; have hnb44 := NB213_202.out; have hnc44 := NB202_213.out; have hnb45 := NB213_209.out; have hnc45 := NB209_213.out; have hcz46_0 : w43.cell? ⟨gb213, 0, none⟩ = some (.int .i64 0) := (blk_cell BK213.out 0).trans rfl; have hcz46_1 : w43.cell? ⟨gb213, 1, none⟩ = some (.int .i64 0) := (blk_cell BK213.out 1).trans rfl; have hfz46_0 := blk_frozen BK213.out 0; have hfz46_1 := blk_frozen BK213.out 1))
                (try simp only [Act.put, List.setIfInBounds_toArray, List.set_cons_zero, List.set_cons_succ])
                go_cut [123, 9, 18] (fun v123 v9 v18 wc => ∃ (kq : Nat) (x123_34 : Bool), v123 = .bool x123_34 ∧ v9 = .bool t203 ∧ v18 = .bool t212 ∧ Aside0 (barrowlaw23_LimitHolds.j2 kq a1 a2 l3 t203 a0_0 a0_1 (wrap64 (x12_2 + (Go.bits .and .i64 ((rd_T32 l3 x14_2).f0) 7))) x13_2 x14_2 ((rd_T32 l3 x14_2).f1) t212 x123_34 t210 t211 = some r) ∧ Aside0 (kq ≤ k2) ∧ Aside0 (wc.heap[gb202]? = some (.cells #[.int .i64 x203000_2, .int .i64 x203001_2] 23 (0, 0))) ∧ Aside0 (wc.heap[gb209]? = some (.cells #[.int .i64 t207, .int .i64 t208] 23 (0, 0))) ∧ Aside0 (wc.heap[gb213]? = some (.cells #[.int .i64 t210, .int .i64 t211] 23 (0, 0))) ∧ Aside0 (Below w.heap.size w wc))
                case first =>
                  have H := HC35.out
                  clear HC35
                  by_cases c47 : ((rd_T32 l3 x14_2).f1) ≥ 0
                  · rw [if_pos c47] at H
                    have c47b0 : decide (0 ≤ ((rd_T32 l3 x14_2).f1)) = true := decide_eq_true c47
                    clear c47
                    (first | rw [c47b0] | (simp only [i64_w, i32_w]; rw [c47b0]) | skip)
                    by_cases c48 : (t212 != (decide (((rd_T32 l3 x14_2).f1) ≤ t207))) = true
                    · rw [if_pos c48] at H
                      have c48b0 : (t212 != (decide (((rd_T32 l3 x14_2).f1) ≤ t207))) = true := c48
                      (try (have c48b1 : decide (t212 = (decide (((rd_T32 l3 x14_2).f1) ≤ t207))) = false := by simpa using c48))
                      (try (have c48b2 : (t212 == (decide (((rd_T32 l3 x14_2).f1) ≤ t207))) = false := by simpa using c48))
                      (try (have c48b3 : ¬ (t212 = (decide (((rd_T32 l3 x14_2).f1) ≤ t207))) := by simpa using c48))
                      clear c48
                      have H' := Aside0.mk H
                      clear H
                      have hnb49 := NB209_202.out
                      have hnc49 := NB202_209.out
                      have hnb50 := NB209_213.out
                      have hnc50 := NB213_209.out
                      have hcz51_0 : w43.cell? ⟨gb209, 0, none⟩ = some (.int .i64 t207) := (blk_cell BK209.out 0).trans rfl
                      have hcz51_1 : w43.cell? ⟨gb209, 1, none⟩ = some (.int .i64 t208) := (blk_cell BK209.out 1).trans rfl
                      have hfz51_0 := blk_frozen BK209.out 0
                      have hfz51_1 := blk_frozen BK209.out 1
                      go_wp2
                      go_meet
                      case rel => exact ⟨_, (true), (by first | rfl | (simp; done) | (simp [*]; done)), (by first | rfl | (simp; done) | (simp [*]; done)), (by first | rfl | (simp; done) | (simp [*]; done)), H', ⟨by have := HJ5.out; have := HK2.out; first | omega | exact Nat.le_refl _⟩, ⟨by (with_reducible repeat (first | refine blk_drewN ?_ _ | refine blk_drew ?_ | refine blk_alloc ?_ _)); refine blk_far ?_ NB202_213.out _; (with_reducible repeat (first | refine blk_drewN ?_ _ | refine blk_drew ?_ | refine blk_alloc ?_ _)); refine blk_far ?_ NB202_213.out _; (with_reducible repeat (first | refine blk_drewN ?_ _ | refine blk_drew ?_ | refine blk_alloc ?_ _)); exact BK202.out⟩, ⟨by (with_reducible repeat (first | refine blk_drewN ?_ _ | refine blk_drew ?_ | refine blk_alloc ?_ _)); refine blk_far ?_ NB209_213.out _; (with_reducible repeat (first | refine blk_drewN ?_ _ | refine blk_drew ?_ | refine blk_alloc ?_ _)); refine blk_far ?_ NB209_213.out _; (with_reducible repeat (first | refine blk_drewN ?_ _ | refine blk_drew ?_ | refine blk_alloc ?_ _)); exact BK209.out⟩, ⟨by (with_reducible repeat (first | refine blk_drewN ?_ _ | refine blk_drew ?_ | refine blk_alloc ?_ _)); refine blk_put (cs := #[.int .i64 t210, .int .i64 0]) ?_ 1 _ rfl; (with_reducible repeat (first | refine blk_drewN ?_ _ | refine blk_drew ?_ | refine blk_alloc ?_ _)); refine blk_put (cs := #[.int .i64 0, .int .i64 0]) ?_ 0 _ rfl; (with_reducible repeat (first | refine blk_drewN ?_ _ | refine blk_drew ?_ | refine blk_alloc ?_ _)); exact BK213.out⟩, ⟨by repeat (first | (with_reducible first | exact HB.out | apply below_alloc | apply pw_below_drewN | apply below_drew1 | refine below_set ?_ GE202.out | refine below_set ?_ GE209.out | refine below_set ?_ GE213.out) | exact HB.out)⟩⟩
                    · rw [if_neg c48] at H
                      have c48b0 : (t212 != (decide (((rd_T32 l3 x14_2).f1) ≤ t207))) = false := by simpa using c48
                      (try (have c48b1 : decide (t212 = (decide (((rd_T32 l3 x14_2).f1) ≤ t207))) = true := by simpa using c48))
                      (try (have c48b2 : (t212 == (decide (((rd_T32 l3 x14_2).f1) ≤ t207))) = true := by simpa using c48))
                      clear c48
                      by_cases c52 : t212 = true
                      · subst c52
                        have H1 : (if t210 = (wrap64 (t207 - ((rd_T32 l3 x14_2).f1))) then ((limit_Right.f t210 t211 a2).bind fun t214 => (barrowlaw23_LimitHolds.j2 k2 a1 a2 l3 t203 a0_0 a0_1 (wrap64 (x12_2 + (Go.bits .and .i64 ((rd_T32 l3 x14_2).f0) 7))) x13_2 x14_2 ((rd_T32 l3 x14_2).f1) true (!t214) t210 t211)) else (barrowlaw23_LimitHolds.j2 k2 a1 a2 l3 t203 a0_0 a0_1 (wrap64 (x12_2 + (Go.bits .and .i64 ((rd_T32 l3 x14_2).f0) 7))) x13_2 x14_2 ((rd_T32 l3 x14_2).f1) true true t210 t211)) = some r := by rw [if_pos rfl] at H; exact H
                        clear H
                        have H := H1
                        clear H1
                        by_cases c53 : t210 = (wrap64 (t207 - ((rd_T32 l3 x14_2).f1)))
                        · rw [if_pos c53] at H
                          have c53b0 : (t210 == (wrap64 (t207 - ((rd_T32 l3 x14_2).f1)))) = true := beq_iff_eq.mpr c53
                          have c53b1 : (t210 != (wrap64 (t207 - ((rd_T32 l3 x14_2).f1)))) = false := bne_eq_false_iff_eq.mpr c53
                          clear c53
                          replace H := Option.bind_eq_some_iff.mp H
                          obtain ⟨t214, A540, H⟩ := H
                          replace H : (barrowlaw23_LimitHolds.j2 k2 a1 a2 l3 t203 a0_0 a0_1 (wrap64 (x12_2 + (Go.bits .and .i64 ((rd_T32 l3 x14_2).f0) 7))) x13_2 x14_2 ((rd_T32 l3 x14_2).f1) true (!t214) t210 t211) = some r := H
                          have A54 := Aside0.mk A540
                          clear A540
                          have H' := Aside0.mk H
                          clear H
                          have hnb55 := NB209_202.out
                          have hnc55 := NB202_209.out
                          have hnb56 := NB209_213.out
                          have hnc56 := NB213_209.out
                          have hcz57_0 : w43.cell? ⟨gb209, 0, none⟩ = some (.int .i64 t207) := (blk_cell BK209.out 0).trans rfl
                          have hcz57_1 : w43.cell? ⟨gb209, 1, none⟩ = some (.int .i64 t208) := (blk_cell BK209.out 1).trans rfl
                          have hfz57_0 := blk_frozen BK209.out 0
                          have hfz57_1 := blk_frozen BK209.out 1
                          have hnb58 := NB213_202.out
                          have hnc58 := NB202_213.out
                          have hcz59_0 : w43.cell? ⟨gb213, 0, none⟩ = some (.int .i64 0) := (blk_cell BK213.out 0).trans rfl
                          have hcz59_1 : w43.cell? ⟨gb213, 1, none⟩ = some (.int .i64 0) := (blk_cell BK213.out 1).trans rfl
                          have hfz59_0 := blk_frozen BK213.out 0
                          have hfz59_1 := blk_frozen BK213.out 1
                          go_wp2_with (first | (go_at_call 12; (with_reducible refine (limit_Right.calls t210 t211 a2 t214 _ A54.out).mono ?_); rintro e w60 ⟨rfl, hb⟩; have n0_ := Aside0.mk (blk_below (g := gb202) (o := .cells #[.int .i64 x203000_2, .int .i64 x203001_2] 23 (0, 0)) (by (with_reducible repeat (first | refine blk_drewN ?_ _ | refine blk_drew ?_ | refine blk_alloc ?_ _)); refine blk_far ?_ NB202_213.out _; (with_reducible repeat (first | refine blk_drewN ?_ _ | refine blk_drew ?_ | refine blk_alloc ?_ _)); refine blk_far ?_ NB202_213.out _; (with_reducible repeat (first | refine blk_drewN ?_ _ | refine blk_drew ?_ | refine blk_alloc ?_ _)); exact BK202.out) hb); have n1_ := Aside0.mk (blk_below (g := gb209) (o := .cells #[.int .i64 t207, .int .i64 t208] 23 (0, 0)) (by (with_reducible repeat (first | refine blk_drewN ?_ _ | refine blk_drew ?_ | refine blk_alloc ?_ _)); refine blk_far ?_ NB209_213.out _; (with_reducible repeat (first | refine blk_drewN ?_ _ | refine blk_drew ?_ | refine blk_alloc ?_ _)); refine blk_far ?_ NB209_213.out _; (with_reducible repeat (first | refine blk_drewN ?_ _ | refine blk_drew ?_ | refine blk_alloc ?_ _)); exact BK209.out) hb); have n2_ := Aside0.mk (blk_below (g := gb213) (o := .cells #[.int .i64 t210, .int .i64 t211] 23 (0, 0)) (by (with_reducible repeat (first | refine blk_drewN ?_ _ | refine blk_drew ?_ | refine blk_alloc ?_ _)); refine blk_put (cs := #[.int .i64 t210, .int .i64 0]) ?_ 1 _ rfl; (with_reducible repeat (first | refine blk_drewN ?_ _ | refine blk_drew ?_ | refine blk_alloc ?_ _)); refine blk_put (cs := #[.int .i64 0, .int .i64 0]) ?_ 0 _ rfl; (with_reducible repeat (first | refine blk_drewN ?_ _ | refine blk_drew ?_ | refine blk_alloc ?_ _)); exact BK213.out) hb); have n3_ := Aside0.mk (below_step (by repeat (first | (with_reducible first | exact HB.out | apply below_alloc | apply pw_below_drewN | apply below_drew1 | refine below_set ?_ GE202.out | refine below_set ?_ GE209.out | refine below_set ?_ GE213.out) | exact HB.out)) hb); clear BK202; clear BK209; clear BK213; clear HB; have BK202 := n0_; have BK209 := n1_; have BK213 := n2_; have HB := n3_; clear n0_ n1_ n2_ n3_; (try clear hb); (try clear hb2); (try clear hk); (try clear hi)))
                          go_meet
                          case rel => exact ⟨_, (!t214), (by first | rfl | (simp; done) | (simp [*]; done)), (by first | rfl | (simp; done) | (simp [*]; done)), (by first | rfl | (simp; done) | (simp [*]; done)), H', ⟨by have := HJ5.out; have := HK2.out; first | omega | exact Nat.le_refl _⟩, ⟨by (with_reducible repeat (first | refine blk_drewN ?_ _ | refine blk_drew ?_ | refine blk_alloc ?_ _)); exact BK202.out⟩, ⟨by (with_reducible repeat (first | refine blk_drewN ?_ _ | refine blk_drew ?_ | refine blk_alloc ?_ _)); exact BK209.out⟩, ⟨by (with_reducible repeat (first | refine blk_drewN ?_ _ | refine blk_drew ?_ | refine blk_alloc ?_ _)); exact BK213.out⟩, ⟨by repeat (first | (with_reducible first | exact HB.out | apply below_alloc | apply pw_below_drewN | apply below_drew1 | refine below_set ?_ GE202.out | refine below_set ?_ GE209.out | refine below_set ?_ GE213.out) | exact HB.out)⟩⟩
                        · rw [if_neg c53] at H
                          have c53b0 : (t210 == (wrap64 (t207 - ((rd_T32 l3 x14_2).f1)))) = false := beq_eq_false_iff_ne.mpr c53
                          have c53b1 : (t210 != (wrap64 (t207 - ((rd_T32 l3 x14_2).f1)))) = true := bne_iff_ne.mpr c53
                          have H' := Aside0.mk H
                          clear H
                          have hnb61 := NB209_202.out
                          have hnc61 := NB202_209.out
                          have hnb62 := NB209_213.out
                          have hnc62 := NB213_209.out
                          have hcz63_0 : w43.cell? ⟨gb209, 0, none⟩ = some (.int .i64 t207) := (blk_cell BK209.out 0).trans rfl
                          have hcz63_1 : w43.cell? ⟨gb209, 1, none⟩ = some (.int .i64 t208) := (blk_cell BK209.out 1).trans rfl
                          have hfz63_0 := blk_frozen BK209.out 0
                          have hfz63_1 := blk_frozen BK209.out 1
                          have hnb64 := NB213_202.out
                          have hnc64 := NB202_213.out
                          have hcz65_0 : w43.cell? ⟨gb213, 0, none⟩ = some (.int .i64 0) := (blk_cell BK213.out 0).trans rfl
                          have hcz65_1 : w43.cell? ⟨gb213, 1, none⟩ = some (.int .i64 0) := (blk_cell BK213.out 1).trans rfl
                          have hfz65_0 := blk_frozen BK213.out 0
                          have hfz65_1 := blk_frozen BK213.out 1
                          go_wp2
                          go_meet
                          case rel => exact ⟨_, (true), (by first | rfl | (simp; done) | (simp [*]; done)), (by first | rfl | (simp; done) | (simp [*]; done)), (by first | rfl | (simp; done) | (simp [*]; done)), H', ⟨by have := HJ5.out; have := HK2.out; first | omega | exact Nat.le_refl _⟩, ⟨by (with_reducible repeat (first | refine blk_drewN ?_ _ | refine blk_drew ?_ | refine blk_alloc ?_ _)); refine blk_far ?_ NB202_213.out _; (with_reducible repeat (first | refine blk_drewN ?_ _ | refine blk_drew ?_ | refine blk_alloc ?_ _)); refine blk_far ?_ NB202_213.out _; (with_reducible repeat (first | refine blk_drewN ?_ _ | refine blk_drew ?_ | refine blk_alloc ?_ _)); exact BK202.out⟩, ⟨by (with_reducible repeat (first | refine blk_drewN ?_ _ | refine blk_drew ?_ | refine blk_alloc ?_ _)); refine blk_far ?_ NB209_213.out _; (with_reducible repeat (first | refine blk_drewN ?_ _ | refine blk_drew ?_ | refine blk_alloc ?_ _)); refine blk_far ?_ NB209_213.out _; (with_reducible repeat (first | refine blk_drewN ?_ _ | refine blk_drew ?_ | refine blk_alloc ?_ _)); exact BK209.out⟩, ⟨by (with_reducible repeat (first | refine blk_drewN ?_ _ | refine blk_drew ?_ | refine blk_alloc ?_ _)); refine blk_put (cs := #[.int .i64 t210, .int .i64 0]) ?_ 1 _ rfl; (with_reducible repeat (first | refine blk_drewN ?_ _ | refine blk_drew ?_ | refine blk_alloc ?_ _)); refine blk_put (cs := #[.int .i64 0, .int .i64 0]) ?_ 0 _ rfl; (with_reducible repeat (first | refine blk_drewN ?_ _ | refine blk_drew ?_ | refine blk_alloc ?_ _)); exact BK213.out⟩, ⟨by repeat (first | (with_reducible first | exact HB.out | apply below_alloc | apply pw_below_drewN | apply below_drew1 | refine below_set ?_ GE202.out | refine below_set ?_ GE209.out | refine below_set ?_ GE213.out) | exact HB.out)⟩⟩
                      · replace c52 := Bool.eq_false_iff.mpr c52
                        subst c52
                        have H1 : (if (!(t210 == t207) || (!(t211 == t208))) = true then (barrowlaw23_LimitHolds.j2 k2 a1 a2 l3 t203 a0_0 a0_1 (wrap64 (x12_2 + (Go.bits .and .i64 ((rd_T32 l3 x14_2).f0) 7))) x13_2 x14_2 ((rd_T32 l3 x14_2).f1) false true t210 t211) else ((limit_Right.f t210 t211 a2).bind fun t215 => (barrowlaw23_LimitHolds.j2 k2 a1 a2 l3 t203 a0_0 a0_1 (wrap64 (x12_2 + (Go.bits .and .i64 ((rd_T32 l3 x14_2).f0) 7))) x13_2 x14_2 ((rd_T32 l3 x14_2).f1) false (!t215) t210 t211))) = some r := by rw [if_neg (show ¬ (false = true) by decide)] at H; exact H
                        clear H
                        have H := H1
                        clear H1
                        by_cases c66 : (!(t210 == t207) || (!(t211 == t208))) = true
                        · rw [if_pos c66] at H
                          have c66b0 : (!(t210 == t207) || (!(t211 == t208))) = true := c66
                          clear c66
                          have H' := Aside0.mk H
                          clear H
                          have hnb67 := NB209_202.out
                          have hnc67 := NB202_209.out
                          have hnb68 := NB209_213.out
                          have hnc68 := NB213_209.out
                          have hcz69_0 : w43.cell? ⟨gb209, 0, none⟩ = some (.int .i64 t207) := (blk_cell BK209.out 0).trans rfl
                          have hcz69_1 : w43.cell? ⟨gb209, 1, none⟩ = some (.int .i64 t208) := (blk_cell BK209.out 1).trans rfl
                          have hfz69_0 := blk_frozen BK209.out 0
                          have hfz69_1 := blk_frozen BK209.out 1
                          have hnb70 := NB213_202.out
                          have hnc70 := NB202_213.out
                          have hcz71_0 : w43.cell? ⟨gb213, 0, none⟩ = some (.int .i64 0) := (blk_cell BK213.out 0).trans rfl
                          have hcz71_1 : w43.cell? ⟨gb213, 1, none⟩ = some (.int .i64 0) := (blk_cell BK213.out 1).trans rfl
                          have hfz71_0 := blk_frozen BK213.out 0
                          have hfz71_1 := blk_frozen BK213.out 1
                          go_wp2
                          go_meet
                          case rel => exact ⟨_, (true), (by first | rfl | (simp; done) | (simp [*]; done)), (by first | rfl | (simp; done) | (simp [*]; done)), (by first | rfl | (simp; done) | (simp [*]; done)), H', ⟨by have := HJ5.out; have := HK2.out; first | omega | exact Nat.le_refl _⟩, ⟨by (with_reducible repeat (first | refine blk_drewN ?_ _ | refine blk_drew ?_ | refine blk_alloc ?_ _)); refine blk_far ?_ NB202_213.out _; (with_reducible repeat (first | refine blk_drewN ?_ _ | refine blk_drew ?_ | refine blk_alloc ?_ _)); refine blk_far ?_ NB202_213.out _; (with_reducible repeat (first | refine blk_drewN ?_ _ | refine blk_drew ?_ | refine blk_alloc ?_ _)); exact BK202.out⟩, ⟨by (with_reducible repeat (first | refine blk_drewN ?_ _ | refine blk_drew ?_ | refine blk_alloc ?_ _)); refine blk_far ?_ NB209_213.out _; (with_reducible repeat (first | refine blk_drewN ?_ _ | refine blk_drew ?_ | refine blk_alloc ?_ _)); refine blk_far ?_ NB209_213.out _; (with_reducible repeat (first | refine blk_drewN ?_ _ | refine blk_drew ?_ | refine blk_alloc ?_ _)); exact BK209.out⟩, ⟨by (with_reducible repeat (first | refine blk_drewN ?_ _ | refine blk_drew ?_ | refine blk_alloc ?_ _)); refine blk_put (cs := #[.int .i64 t210, .int .i64 0]) ?_ 1 _ rfl; (with_reducible repeat (first | refine blk_drewN ?_ _ | refine blk_drew ?_ | refine blk_alloc ?_ _)); refine blk_put (cs := #[.int .i64 0, .int .i64 0]) ?_ 0 _ rfl; (with_reducible repeat (first | refine blk_drewN ?_ _ | refine blk_drew ?_ | refine blk_alloc ?_ _)); exact BK213.out⟩, ⟨by repeat (first | (with_reducible first | exact HB.out | apply below_alloc | apply pw_below_drewN | apply below_drew1 | refine below_set ?_ GE202.out | refine below_set ?_ GE209.out | refine below_set ?_ GE213.out) | exact HB.out)⟩⟩
                        · rw [if_neg c66] at H
                          have c66b0 : (!(t210 == t207) || (!(t211 == t208))) = false := by simpa using c66
                          clear c66
                          replace H := Option.bind_eq_some_iff.mp H
                          obtain ⟨t215, A720, H⟩ := H
                          replace H : (barrowlaw23_LimitHolds.j2 k2 a1 a2 l3 t203 a0_0 a0_1 (wrap64 (x12_2 + (Go.bits .and .i64 ((rd_T32 l3 x14_2).f0) 7))) x13_2 x14_2 ((rd_T32 l3 x14_2).f1) false (!t215) t210 t211) = some r := H
                          have A72 := Aside0.mk A720
                          clear A720
                          have H' := Aside0.mk H
                          clear H
                          have hnb73 := NB209_202.out
                          have hnc73 := NB202_209.out
                          have hnb74 := NB209_213.out
                          have hnc74 := NB213_209.out
                          have hcz75_0 : w43.cell? ⟨gb209, 0, none⟩ = some (.int .i64 t207) := (blk_cell BK209.out 0).trans rfl
                          have hcz75_1 : w43.cell? ⟨gb209, 1, none⟩ = some (.int .i64 t208) := (blk_cell BK209.out 1).trans rfl
                          have hfz75_0 := blk_frozen BK209.out 0
                          have hfz75_1 := blk_frozen BK209.out 1
                          have hnb76 := NB213_202.out
                          have hnc76 := NB202_213.out
                          have hcz77_0 : w43.cell? ⟨gb213, 0, none⟩ = some (.int .i64 0) := (blk_cell BK213.out 0).trans rfl
                          have hcz77_1 : w43.cell? ⟨gb213, 1, none⟩ = some (.int .i64 0) := (blk_cell BK213.out 1).trans rfl
                          have hfz77_0 := blk_frozen BK213.out 0
                          have hfz77_1 := blk_frozen BK213.out 1
                          go_wp2_with (first | (go_at_call 12; (with_reducible refine (limit_Right.calls t210 t211 a2 t215 _ A72.out).mono ?_); rintro e w78 ⟨rfl, hb⟩; have n0_ := Aside0.mk (blk_below (g := gb202) (o := .cells #[.int .i64 x203000_2, .int .i64 x203001_2] 23 (0, 0)) (by (with_reducible repeat (first | refine blk_drewN ?_ _ | refine blk_drew ?_ | refine blk_alloc ?_ _)); refine blk_far ?_ NB202_213.out _; (with_reducible repeat (first | refine blk_drewN ?_ _ | refine blk_drew ?_ | refine blk_alloc ?_ _)); refine blk_far ?_ NB202_213.out _; (with_reducible repeat (first | refine blk_drewN ?_ _ | refine blk_drew ?_ | refine blk_alloc ?_ _)); exact BK202.out) hb); have n1_ := Aside0.mk (blk_below (g := gb209) (o := .cells #[.int .i64 t207, .int .i64 t208] 23 (0, 0)) (by (with_reducible repeat (first | refine blk_drewN ?_ _ | refine blk_drew ?_ | refine blk_alloc ?_ _)); refine blk_far ?_ NB209_213.out _; (with_reducible repeat (first | refine blk_drewN ?_ _ | refine blk_drew ?_ | refine blk_alloc ?_ _)); refine blk_far ?_ NB209_213.out _; (with_reducible repeat (first | refine blk_drewN ?_ _ | refine blk_drew ?_ | refine blk_alloc ?_ _)); exact BK209.out) hb); have n2_ := Aside0.mk (blk_below (g := gb213) (o := .cells #[.int .i64 t210, .int .i64 t211] 23 (0, 0)) (by (with_reducible repeat (first | refine blk_drewN ?_ _ | refine blk_drew ?_ | refine blk_alloc ?_ _)); refine blk_put (cs := #[.int .i64 t210, .int .i64 0]) ?_ 1 _ rfl; (with_reducible repeat (first | refine blk_drewN ?_ _ | refine blk_drew ?_ | refine blk_alloc ?_ _)); refine blk_put (cs := #[.int .i64 0, .int .i64 0]) ?_ 0 _ rfl; (with_reducible repeat (first | refine blk_drewN ?_ _ | refine blk_drew ?_ | refine blk_alloc ?_ _)); exact BK213.out) hb); have n3_ := Aside0.mk (below_step (by repeat (first | (with_reducible first | exact HB.out | apply below_alloc | apply pw_below_drewN | apply below_drew1 | refine below_set ?_ GE202.out | refine below_set ?_ GE209.out | refine below_set ?_ GE213.out) | exact HB.out)) hb); clear BK202; clear BK209; clear BK213; clear HB; have BK202 := n0_; have BK209 := n1_; have BK213 := n2_; have HB := n3_; clear n0_ n1_ n2_ n3_; (try clear hb); (try clear hb2); (try clear hk); (try clear hi)))
                          go_meet
                          case rel => exact ⟨_, (!t215), (by first | rfl | (simp; done) | (simp [*]; done)), (by first | rfl | (simp; done) | (simp [*]; done)), (by first | rfl | (simp; done) | (simp [*]; done)), H', ⟨by have := HJ5.out; have := HK2.out; first | omega | exact Nat.le_refl _⟩, ⟨by (with_reducible repeat (first | refine blk_drewN ?_ _ | refine blk_drew ?_ | refine blk_alloc ?_ _)); exact BK202.out⟩, ⟨by (with_reducible repeat (first | refine blk_drewN ?_ _ | refine blk_drew ?_ | refine blk_alloc ?_ _)); exact BK209.out⟩, ⟨by (with_reducible repeat (first | refine blk_drewN ?_ _ | refine blk_drew ?_ | refine blk_alloc ?_ _)); exact BK213.out⟩, ⟨by repeat (first | (with_reducible first | exact HB.out | apply below_alloc | apply pw_below_drewN | apply below_drew1 | refine below_set ?_ GE202.out | refine below_set ?_ GE209.out | refine below_set ?_ GE213.out) | exact HB.out)⟩⟩
                  · rw [if_neg c47] at H
                    have c47b0 : decide (0 ≤ ((rd_T32 l3 x14_2).f1)) = false := decide_eq_false c47
                    clear c47
                    (first | rw [c47b0] | (simp only [i64_w, i32_w]; rw [c47b0]) | skip)
                    by_cases c79 : (t212 != false) = true
                    · rw [if_pos c79] at H
                      have c79b0 : (t212 != false) = true := c79
                      (try (have c79b1 : decide (t212 = false) = false := by simpa using c79))
                      (try (have c79b2 : (t212 == false) = false := by simpa using c79))
                      (try (have c79b3 : ¬ (t212 = false) := by simpa using c79))
                      clear c79
                      have H' := Aside0.mk H
                      clear H
                      go_wp2
                      go_meet
                      case rel => exact ⟨_, (true), (by first | rfl | (simp; done) | (simp [*]; done)), (by first | rfl | (simp; done) | (simp [*]; done)), (by first | rfl | (simp; done) | (simp [*]; done)), H', ⟨by have := HJ5.out; have := HK2.out; first | omega | exact Nat.le_refl _⟩, ⟨by (with_reducible repeat (first | refine blk_drewN ?_ _ | refine blk_drew ?_ | refine blk_alloc ?_ _)); refine blk_far ?_ NB202_213.out _; (with_reducible repeat (first | refine blk_drewN ?_ _ | refine blk_drew ?_ | refine blk_alloc ?_ _)); refine blk_far ?_ NB202_213.out _; (with_reducible repeat (first | refine blk_drewN ?_ _ | refine blk_drew ?_ | refine blk_alloc ?_ _)); exact BK202.out⟩, ⟨by (with_reducible repeat (first | refine blk_drewN ?_ _ | refine blk_drew ?_ | refine blk_alloc ?_ _)); refine blk_far ?_ NB209_213.out _; (with_reducible repeat (first | refine blk_drewN ?_ _ | refine blk_drew ?_ | refine blk_alloc ?_ _)); refine blk_far ?_ NB209_213.out _; (with_reducible repeat (first | refine blk_drewN ?_ _ | refine blk_drew ?_ | refine blk_alloc ?_ _)); exact BK209.out⟩, ⟨by (with_reducible repeat (first | refine blk_drewN ?_ _ | refine blk_drew ?_ | refine blk_alloc ?_ _)); refine blk_put (cs := #[.int .i64 t210, .int .i64 0]) ?_ 1 _ rfl; (with_reducible repeat (first | refine blk_drewN ?_ _ | refine blk_drew ?_ | refine blk_alloc ?_ _)); refine blk_put (cs := #[.int .i64 0, .int .i64 0]) ?_ 0 _ rfl; (with_reducible repeat (first | refine blk_drewN ?_ _ | refine blk_drew ?_ | refine blk_alloc ?_ _)); exact BK213.out⟩, ⟨by repeat (first | (with_reducible first | exact HB.out | apply below_alloc | apply pw_below_drewN | apply below_drew1 | refine below_set ?_ GE202.out | refine below_set ?_ GE209.out | refine below_set ?_ GE213.out) | exact HB.out)⟩⟩
                    · rw [if_neg c79] at H
                      have c79b0 : (t212 != false) = false := by simpa using c79
                      (try (have c79b1 : decide (t212 = false) = true := by simpa using c79))
                      (try (have c79b2 : (t212 == false) = true := by simpa using c79))
                      clear c79
                      by_cases c80 : t212 = true
                      · subst c80
                        have H1 : (if t210 = (wrap64 (t207 - ((rd_T32 l3 x14_2).f1))) then ((limit_Right.f t210 t211 a2).bind fun t216 => (barrowlaw23_LimitHolds.j2 k2 a1 a2 l3 t203 a0_0 a0_1 (wrap64 (x12_2 + (Go.bits .and .i64 ((rd_T32 l3 x14_2).f0) 7))) x13_2 x14_2 ((rd_T32 l3 x14_2).f1) true (!t216) t210 t211)) else (barrowlaw23_LimitHolds.j2 k2 a1 a2 l3 t203 a0_0 a0_1 (wrap64 (x12_2 + (Go.bits .and .i64 ((rd_T32 l3 x14_2).f0) 7))) x13_2 x14_2 ((rd_T32 l3 x14_2).f1) true true t210 t211)) = some r := by rw [if_pos rfl] at H; exact H
                        clear H
                        have H := H1
                        clear H1
                        by_cases c81 : t210 = (wrap64 (t207 - ((rd_T32 l3 x14_2).f1)))
                        · rw [if_pos c81] at H
                          have c81b0 : (t210 == (wrap64 (t207 - ((rd_T32 l3 x14_2).f1)))) = true := beq_iff_eq.mpr c81
                          have c81b1 : (t210 != (wrap64 (t207 - ((rd_T32 l3 x14_2).f1)))) = false := bne_eq_false_iff_eq.mpr c81
                          clear c81
                          replace H := Option.bind_eq_some_iff.mp H
                          obtain ⟨t216, A820, H⟩ := H
                          replace H : (barrowlaw23_LimitHolds.j2 k2 a1 a2 l3 t203 a0_0 a0_1 (wrap64 (x12_2 + (Go.bits .and .i64 ((rd_T32 l3 x14_2).f0) 7))) x13_2 x14_2 ((rd_T32 l3 x14_2).f1) true (!t216) t210 t211) = some r := H
                          have A82 := Aside0.mk A820
                          clear A820
                          have H' := Aside0.mk H
                          clear H
                          have hnb83 := NB213_202.out
                          have hnc83 := NB202_213.out
                          have hnb84 := NB213_209.out
                          have hnc84 := NB209_213.out
                          have hcz85_0 : w43.cell? ⟨gb213, 0, none⟩ = some (.int .i64 0) := (blk_cell BK213.out 0).trans rfl
                          have hcz85_1 : w43.cell? ⟨gb213, 1, none⟩ = some (.int .i64 0) := (blk_cell BK213.out 1).trans rfl
                          have hfz85_0 := blk_frozen BK213.out 0
                          have hfz85_1 := blk_frozen BK213.out 1
                          have hnb86 := NB209_202.out
                          have hnc86 := NB202_209.out
                          have hcz87_0 : w43.cell? ⟨gb209, 0, none⟩ = some (.int .i64 t207) := (blk_cell BK209.out 0).trans rfl
                          have hcz87_1 : w43.cell? ⟨gb209, 1, none⟩ = some (.int .i64 t208) := (blk_cell BK209.out 1).trans rfl
                          have hfz87_0 := blk_frozen BK209.out 0
                          have hfz87_1 := blk_frozen BK209.out 1
                          go_wp2_with (first | (go_at_call 12; (with_reducible refine (limit_Right.calls t210 t211 a2 t216 _ A82.out).mono ?_); rintro e w88 ⟨rfl, hb⟩; have n0_ := Aside0.mk (blk_below (g := gb202) (o := .cells #[.int .i64 x203000_2, .int .i64 x203001_2] 23 (0, 0)) (by (with_reducible repeat (first | refine blk_drewN ?_ _ | refine blk_drew ?_ | refine blk_alloc ?_ _)); refine blk_far ?_ NB202_213.out _; (with_reducible repeat (first | refine blk_drewN ?_ _ | refine blk_drew ?_ | refine blk_alloc ?_ _)); refine blk_far ?_ NB202_213.out _; (with_reducible repeat (first | refine blk_drewN ?_ _ | refine blk_drew ?_ | refine blk_alloc ?_ _)); exact BK202.out) hb); have n1_ := Aside0.mk (blk_below (g := gb209) (o := .cells #[.int .i64 t207, .int .i64 t208] 23 (0, 0)) (by (with_reducible repeat (first | refine blk_drewN ?_ _ | refine blk_drew ?_ | refine blk_alloc ?_ _)); refine blk_far ?_ NB209_213.out _; (with_reducible repeat (first | refine blk_drewN ?_ _ | refine blk_drew ?_ | refine blk_alloc ?_ _)); refine blk_far ?_ NB209_213.out _; (with_reducible repeat (first | refine blk_drewN ?_ _ | refine blk_drew ?_ | refine blk_alloc ?_ _)); exact BK209.out) hb); have n2_ := Aside0.mk (blk_below (g := gb213) (o := .cells #[.int .i64 t210, .int .i64 t211] 23 (0, 0)) (by (with_reducible repeat (first | refine blk_drewN ?_ _ | refine blk_drew ?_ | refine blk_alloc ?_ _)); refine blk_put (cs := #[.int .i64 t210, .int .i64 0]) ?_ 1 _ rfl; (with_reducible repeat (first | refine blk_drewN ?_ _ | refine blk_drew ?_ | refine blk_alloc ?_ _)); refine blk_put (cs := #[.int .i64 0, .int .i64 0]) ?_ 0 _ rfl; (with_reducible repeat (first | refine blk_drewN ?_ _ | refine blk_drew ?_ | refine blk_alloc ?_ _)); exact BK213.out) hb); have n3_ := Aside0.mk (below_step (by repeat (first | (with_reducible first | exact HB.out | apply below_alloc | apply pw_below_drewN | apply below_drew1 | refine below_set ?_ GE202.out | refine below_set ?_ GE209.out | refine below_set ?_ GE213.out) | exact HB.out)) hb); clear BK202; clear BK209; clear BK213; clear HB; have BK202 := n0_; have BK209 := n1_; have BK213 := n2_; have HB := n3_; clear n0_ n1_ n2_ n3_; (try clear hb); (try clear hb2); (try clear hk); (try clear hi)))
                          go_meet
                          case rel => exact ⟨_, (!t216), (by first | rfl | (simp; done) | (simp [*]; done)), (by first | rfl | (simp; done) | (simp [*]; done)), (by first | rfl | (simp; done) | (simp [*]; done)), H', ⟨by have := HJ5.out; have := HK2.out; first | omega | exact Nat.le_refl _⟩, ⟨by (with_reducible repeat (first | refine blk_drewN ?_ _ | refine blk_drew ?_ | refine blk_alloc ?_ _)); exact BK202.out⟩, ⟨by (with_reducible repeat (first | refine blk_drewN ?_ _ | refine blk_drew ?_ | refine blk_alloc ?_ _)); exact BK209.out⟩, ⟨by (with_reducible repeat (first | refine blk_drewN ?_ _ | refine blk_drew ?_ | refine blk_alloc ?_ _)); exact BK213.out⟩, ⟨by repeat (first | (with_reducible first | exact HB.out | apply below_alloc | apply pw_below_drewN | apply below_drew1 | refine below_set ?_ GE202.out | refine below_set ?_ GE209.out | refine below_set ?_ GE213.out) | exact HB.out)⟩⟩
                        · rw [if_neg c81] at H
                          have c81b0 : (t210 == (wrap64 (t207 - ((rd_T32 l3 x14_2).f1)))) = false := beq_eq_false_iff_ne.mpr c81
                          have c81b1 : (t210 != (wrap64 (t207 - ((rd_T32 l3 x14_2).f1)))) = true := bne_iff_ne.mpr c81
                          have H' := Aside0.mk H
                          clear H
                          have hnb89 := NB213_202.out
                          have hnc89 := NB202_213.out
                          have hnb90 := NB213_209.out
                          have hnc90 := NB209_213.out
                          have hcz91_0 : w43.cell? ⟨gb213, 0, none⟩ = some (.int .i64 0) := (blk_cell BK213.out 0).trans rfl
                          have hcz91_1 : w43.cell? ⟨gb213, 1, none⟩ = some (.int .i64 0) := (blk_cell BK213.out 1).trans rfl
                          have hfz91_0 := blk_frozen BK213.out 0
                          have hfz91_1 := blk_frozen BK213.out 1
                          have hnb92 := NB209_202.out
                          have hnc92 := NB202_209.out
                          have hcz93_0 : w43.cell? ⟨gb209, 0, none⟩ = some (.int .i64 t207) := (blk_cell BK209.out 0).trans rfl
                          have hcz93_1 : w43.cell? ⟨gb209, 1, none⟩ = some (.int .i64 t208) := (blk_cell BK209.out 1).trans rfl
                          have hfz93_0 := blk_frozen BK209.out 0
                          have hfz93_1 := blk_frozen BK209.out 1
                          go_wp2
                          go_meet
                          case rel => exact ⟨_, (true), (by first | rfl | (simp; done) | (simp [*]; done)), (by first | rfl | (simp; done) | (simp [*]; done)), (by first | rfl | (simp; done) | (simp [*]; done)), H', ⟨by have := HJ5.out; have := HK2.out; first | omega | exact Nat.le_refl _⟩, ⟨by (with_reducible repeat (first | refine blk_drewN ?_ _ | refine blk_drew ?_ | refine blk_alloc ?_ _)); refine blk_far ?_ NB202_213.out _; (with_reducible repeat (first | refine blk_drewN ?_ _ | refine blk_drew ?_ | refine blk_alloc ?_ _)); refine blk_far ?_ NB202_213.out _; (with_reducible repeat (first | refine blk_drewN ?_ _ | refine blk_drew ?_ | refine blk_alloc ?_ _)); exact BK202.out⟩, ⟨by (with_reducible repeat (first | refine blk_drewN ?_ _ | refine blk_drew ?_ | refine blk_alloc ?_ _)); refine blk_far ?_ NB209_213.out _; (with_reducible repeat (first | refine blk_drewN ?_ _ | refine blk_drew ?_ | refine blk_alloc ?_ _)); refine blk_far ?_ NB209_213.out _; (with_reducible repeat (first | refine blk_drewN ?_ _ | refine blk_drew ?_ | refine blk_alloc ?_ _)); exact BK209.out⟩, ⟨by (with_reducible repeat (first | refine blk_drewN ?_ _ | refine blk_drew ?_ | refine blk_alloc ?_ _)); refine blk_put (cs := #[.int .i64 t210, .int .i64 0]) ?_ 1 _ rfl; (with_reducible repeat (first | refine blk_drewN ?_ _ | refine blk_drew ?_ | refine blk_alloc ?_ _)); refine blk_put (cs := #[.int .i64 0, .int .i64 0]) ?_ 0 _ rfl; (with_reducible repeat (first | refine blk_drewN ?_ _ | refine blk_drew ?_ | refine blk_alloc ?_ _)); exact BK213.out⟩, ⟨by repeat (first | (with_reducible first | exact HB.out | apply below_alloc | apply pw_below_drewN | apply below_drew1 | refine below_set ?_ GE202.out | refine below_set ?_ GE209.out | refine below_set ?_ GE213.out) | exact HB.out)⟩⟩
                      · replace c80 := Bool.eq_false_iff.mpr c80
                        subst c80
                        have H1 : (if (!(t210 == t207) || (!(t211 == t208))) = true then (barrowlaw23_LimitHolds.j2 k2 a1 a2 l3 t203 a0_0 a0_1 (wrap64 (x12_2 + (Go.bits .and .i64 ((rd_T32 l3 x14_2).f0) 7))) x13_2 x14_2 ((rd_T32 l3 x14_2).f1) false true t210 t211) else ((limit_Right.f t210 t211 a2).bind fun t217 => (barrowlaw23_LimitHolds.j2 k2 a1 a2 l3 t203 a0_0 a0_1 (wrap64 (x12_2 + (Go.bits .and .i64 ((rd_T32 l3 x14_2).f0) 7))) x13_2 x14_2 ((rd_T32 l3 x14_2).f1) false (!t217) t210 t211))) = some r := by rw [if_neg (show ¬ (false = true) by decide)] at H; exact H
                        clear H
                        have H := H1
                        clear H1
                        by_cases c94 : (!(t210 == t207) || (!(t211 == t208))) = true
                        · rw [if_pos c94] at H
                          have c94b0 : (!(t210 == t207) || (!(t211 == t208))) = true := c94
                          clear c94
                          have H' := Aside0.mk H
                          clear H
                          have hnb95 := NB213_202.out
                          have hnc95 := NB202_213.out
                          have hnb96 := NB213_209.out
                          have hnc96 := NB209_213.out
                          have hcz97_0 : w43.cell? ⟨gb213, 0, none⟩ = some (.int .i64 0) := (blk_cell BK213.out 0).trans rfl
                          have hcz97_1 : w43.cell? ⟨gb213, 1, none⟩ = some (.int .i64 0) := (blk_cell BK213.out 1).trans rfl
                          have hfz97_0 := blk_frozen BK213.out 0
                          have hfz97_1 := blk_frozen BK213.out 1
                          have hnb98 := NB209_202.out
                          have hnc98 := NB202_209.out
                          have hcz99_0 : w43.cell? ⟨gb209, 0, none⟩ = some (.int .i64 t207) := (blk_cell BK209.out 0).trans rfl
                          have hcz99_1 : w43.cell? ⟨gb209, 1, none⟩ = some (.int .i64 t208) := (blk_cell BK209.out 1).trans rfl
                          have hfz99_0 := blk_frozen BK209.out 0
                          have hfz99_1 := blk_frozen BK209.out 1
                          go_wp2
                          go_meet
                          case rel => exact ⟨_, (true), (by first | rfl | (simp; done) | (simp [*]; done)), (by first | rfl | (simp; done) | (simp [*]; done)), (by first | rfl | (simp; done) | (simp [*]; done)), H', ⟨by have := HJ5.out; have := HK2.out; first | omega | exact Nat.le_refl _⟩, ⟨by (with_reducible repeat (first | refine blk_drewN ?_ _ | refine blk_drew ?_ | refine blk_alloc ?_ _)); refine blk_far ?_ NB202_213.out _; (with_reducible repeat (first | refine blk_drewN ?_ _ | refine blk_drew ?_ | refine blk_alloc ?_ _)); refine blk_far ?_ NB202_213.out _; (with_reducible repeat (first | refine blk_drewN ?_ _ | refine blk_drew ?_ | refine blk_alloc ?_ _)); exact BK202.out⟩, ⟨by (with_reducible repeat (first | refine blk_drewN ?_ _ | refine blk_drew ?_ | refine blk_alloc ?_ _)); refine blk_far ?_ NB209_213.out _; (with_reducible repeat (first | refine blk_drewN ?_ _ | refine blk_drew ?_ | refine blk_alloc ?_ _)); refine blk_far ?_ NB209_213.out _; (with_reducible repeat (first | refine blk_drewN ?_ _ | refine blk_drew ?_ | refine blk_alloc ?_ _)); exact BK209.out⟩, ⟨by (with_reducible repeat (first | refine blk_drewN ?_ _ | refine blk_drew ?_ | refine blk_alloc ?_ _)); refine blk_put (cs := #[.int .i64 t210, .int .i64 0]) ?_ 1 _ rfl; (with_reducible repeat (first | refine blk_drewN ?_ _ | refine blk_drew ?_ | refine blk_alloc ?_ _)); refine blk_put (cs := #[.int .i64 0, .int .i64 0]) ?_ 0 _ rfl; (with_reducible repeat (first | refine blk_drewN ?_ _ | refine blk_drew ?_ | refine blk_alloc ?_ _)); exact BK213.out⟩, ⟨by repeat (first | (with_reducible first | exact HB.out | apply below_alloc | apply pw_below_drewN | apply below_drew1 | refine below_set ?_ GE202.out | refine below_set ?_ GE209.out | refine below_set ?_ GE213.out) | exact HB.out)⟩⟩
                        · rw [if_neg c94] at H
                          have c94b0 : (!(t210 == t207) || (!(t211 == t208))) = false := by simpa using c94
                          clear c94
                          replace H := Option.bind_eq_some_iff.mp H
                          obtain ⟨t217, A1000, H⟩ := H
                          replace H : (barrowlaw23_LimitHolds.j2 k2 a1 a2 l3 t203 a0_0 a0_1 (wrap64 (x12_2 + (Go.bits .and .i64 ((rd_T32 l3 x14_2).f0) 7))) x13_2 x14_2 ((rd_T32 l3 x14_2).f1) false (!t217) t210 t211) = some r := H
                          have A100 := Aside0.mk A1000
                          clear A1000
                          have H' := Aside0.mk H
                          clear H
                          have hnb101 := NB213_202.out
                          have hnc101 := NB202_213.out
                          have hnb102 := NB213_209.out
                          have hnc102 := NB209_213.out
                          have hcz103_0 : w43.cell? ⟨gb213, 0, none⟩ = some (.int .i64 0) := (blk_cell BK213.out 0).trans rfl
                          have hcz103_1 : w43.cell? ⟨gb213, 1, none⟩ = some (.int .i64 0) := (blk_cell BK213.out 1).trans rfl
                          have hfz103_0 := blk_frozen BK213.out 0
                          have hfz103_1 := blk_frozen BK213.out 1
                          have hnb104 := NB209_202.out
                          have hnc104 := NB202_209.out
                          have hcz105_0 : w43.cell? ⟨gb209, 0, none⟩ = some (.int .i64 t207) := (blk_cell BK209.out 0).trans rfl
                          have hcz105_1 : w43.cell? ⟨gb209, 1, none⟩ = some (.int .i64 t208) := (blk_cell BK209.out 1).trans rfl
                          have hfz105_0 := blk_frozen BK209.out 0
                          have hfz105_1 := blk_frozen BK209.out 1
                          go_wp2_with (first | (go_at_call 12; (with_reducible refine (limit_Right.calls t210 t211 a2 t217 _ A100.out).mono ?_); rintro e w106 ⟨rfl, hb⟩; have n0_ := Aside0.mk (blk_below (g := gb202) (o := .cells #[.int .i64 x203000_2, .int .i64 x203001_2] 23 (0, 0)) (by (with_reducible repeat (first | refine blk_drewN ?_ _ | refine blk_drew ?_ | refine blk_alloc ?_ _)); refine blk_far ?_ NB202_213.out _; (with_reducible repeat (first | refine blk_drewN ?_ _ | refine blk_drew ?_ | refine blk_alloc ?_ _)); refine blk_far ?_ NB202_213.out _; (with_reducible repeat (first | refine blk_drewN ?_ _ | refine blk_drew ?_ | refine blk_alloc ?_ _)); exact BK202.out) hb); have n1_ := Aside0.mk (blk_below (g := gb209) (o := .cells #[.int .i64 t207, .int .i64 t208] 23 (0, 0)) (by (with_reducible repeat (first | refine blk_drewN ?_ _ | refine blk_drew ?_ | refine blk_alloc ?_ _)); refine blk_far ?_ NB209_213.out _; (with_reducible repeat (first | refine blk_drewN ?_ _ | refine blk_drew ?_ | refine blk_alloc ?_ _)); refine blk_far ?_ NB209_213.out _; (with_reducible repeat (first | refine blk_drewN ?_ _ | refine blk_drew ?_ | refine blk_alloc ?_ _)); exact BK209.out) hb); have n2_ := Aside0.mk (blk_below (g := gb213) (o := .cells #[.int .i64 t210, .int .i64 t211] 23 (0, 0)) (by (with_reducible repeat (first | refine blk_drewN ?_ _ | refine blk_drew ?_ | refine blk_alloc ?_ _)); refine blk_put (cs := #[.int .i64 t210, .int .i64 0]) ?_ 1 _ rfl; (with_reducible repeat (first | refine blk_drewN ?_ _ | refine blk_drew ?_ | refine blk_alloc ?_ _)); refine blk_put (cs := #[.int .i64 0, .int .i64 0]) ?_ 0 _ rfl; (with_reducible repeat (first | refine blk_drewN ?_ _ | refine blk_drew ?_ | refine blk_alloc ?_ _)); exact BK213.out) hb); have n3_ := Aside0.mk (below_step (by repeat (first | (with_reducible first | exact HB.out | apply below_alloc | apply pw_below_drewN | apply below_drew1 | refine below_set ?_ GE202.out | refine below_set ?_ GE209.out | refine below_set ?_ GE213.out) | exact HB.out)) hb); clear BK202; clear BK209; clear BK213; clear HB; have BK202 := n0_; have BK209 := n1_; have BK213 := n2_; have HB := n3_; clear n0_ n1_ n2_ n3_; (try clear hb); (try clear hb2); (try clear hk); (try clear hi)))
                          go_meet
                          case rel => exact ⟨_, (!t217), (by first | rfl | (simp; done) | (simp [*]; done)), (by first | rfl | (simp; done) | (simp [*]; done)), (by first | rfl | (simp; done) | (simp [*]; done)), H', ⟨by have := HJ5.out; have := HK2.out; first | omega | exact Nat.le_refl _⟩, ⟨by (with_reducible repeat (first | refine blk_drewN ?_ _ | refine blk_drew ?_ | refine blk_alloc ?_ _)); exact BK202.out⟩, ⟨by (with_reducible repeat (first | refine blk_drewN ?_ _ | refine blk_drew ?_ | refine blk_alloc ?_ _)); exact BK209.out⟩, ⟨by (with_reducible repeat (first | refine blk_drewN ?_ _ | refine blk_drew ?_ | refine blk_alloc ?_ _)); exact BK213.out⟩, ⟨by repeat (first | (with_reducible first | exact HB.out | apply below_alloc | apply pw_below_drewN | apply below_drew1 | refine below_set ?_ GE202.out | refine below_set ?_ GE209.out | refine below_set ?_ GE213.out) | exact HB.out)⟩⟩
                case rest =>
                  clear HC35
                  try clear c1
                  try clear c2
                  try clear p2
                  try clear q2
                  try clear hx2
                  try clear c3
                  try clear c4
                  try clear c5
                  try clear c6
                  try clear p6
                  try clear c7
                  try clear c8
                  try clear c9
                  try clear c9b0
                  try clear c9b1
                  try clear c10
                  try clear c11
                  try clear c12
                  try clear c12b0
                  try clear c16
                  try clear c16b0
                  try clear c20
                  try clear c20b0
                  try clear p20
                  try clear q20
                  try clear hx20
                  try clear c29
                  try clear c31
                  try clear c31b0
                  try clear c32
                  try clear c32b0
                  try clear c39
                  try clear c44
                  try clear c45
                  try clear c47
                  try clear c47b0
                  try clear c48
                  try clear c48b0
                  try clear c48b1
                  try clear c48b2
                  try clear c49
                  try clear c50
                  try clear c52
                  try clear c53
                  try clear c53b0
                  try clear c53b1
                  try clear c55
                  try clear c56
                  try clear c58
                  try clear c61
                  try clear c62
                  try clear c64
                  try clear p64
                  try clear c66
                  try clear c66b0
                  try clear c67
                  try clear c68
                  try clear c70
                  try clear c73
                  try clear c74
                  try clear c76
                  try clear c79
                  try clear c79b0
                  try clear c79b1
                  try clear c79b2
                  try clear c80
                  try clear c81
                  try clear c81b0
                  try clear c81b1
                  try clear c83
                  try clear c84
                  try clear c86
                  try clear c89
                  try clear c90
                  try clear c92
                  try clear c94
                  try clear c94b0
                  try clear c95
                  try clear c96
                  try clear c98
                  try clear c101
                  try clear c102
                  try clear c104
                  try clear hcz103_0
                  try clear hcz103_1
                  try clear hcz105_0
                  try clear hcz105_1
                  try clear hcz13_0
                  try clear hcz13_1
                  try clear hcz15_0
                  try clear hcz15_1
                  try clear hcz17_0
                  try clear hcz17_1
                  try clear hcz19_0
                  try clear hcz19_1
                  try clear hcz21_0
                  try clear hcz21_1
                  try clear hcz23_0
                  try clear hcz23_1
                  try clear hcz24_0
                  try clear hcz24_1
                  try clear hcz26_0
                  try clear hcz26_1
                  try clear hcz27_0
                  try clear hcz27_1
                  try clear hcz30_0
                  try clear hcz30_1
                  try clear hcz36_0
                  try clear hcz36_1
                  try clear hcz40_0
                  try clear hcz40_1
                  try clear hcz41_0
                  try clear hcz41_1
                  try clear hcz46_0
                  try clear hcz46_1
                  try clear hcz51_0
                  try clear hcz51_1
                  try clear hcz57_0
                  try clear hcz57_1
                  try clear hcz59_0
                  try clear hcz59_1
                  try clear hcz63_0
                  try clear hcz63_1
                  try clear hcz65_0
                  try clear hcz65_1
                  try clear hcz69_0
                  try clear hcz69_1
                  try clear hcz71_0
                  try clear hcz71_1
                  try clear hcz75_0
                  try clear hcz75_1
                  try clear hcz77_0
                  try clear hcz77_1
                  try clear hcz85_0
                  try clear hcz85_1
                  try clear hcz87_0
                  try clear hcz87_1
                  try clear hcz91_0
                  try clear hcz91_1
                  try clear hcz93_0
                  try clear hcz93_1
                  try clear hcz97_0
                  try clear hcz97_1
                  try clear hcz99_0
                  try clear hcz99_1
                  try clear hfz103_0
                  try clear hfz103_1
                  try clear hfz105_0
                  try clear hfz105_1
                  try clear hfz13_0
                  try clear hfz13_1
                  try clear hfz15_0
                  try clear hfz15_1
                  try clear hfz17_0
                  try clear hfz17_1
                  try clear hfz19_0
                  try clear hfz19_1
                  try clear hfz21_0
                  try clear hfz21_1
                  try clear hfz23_0
                  try clear hfz23_1
                  try clear hfz24_0
                  try clear hfz24_1
                  try clear hfz26_0
                  try clear hfz26_1
                  try clear hfz27_0
                  try clear hfz27_1
                  try clear hfz30_0
                  try clear hfz30_1
                  try clear hfz36_0
                  try clear hfz36_1
                  try clear hfz40_0
                  try clear hfz40_1
                  try clear hfz41_0
                  try clear hfz41_1
                  try clear hfz46_0
                  try clear hfz46_1
                  try clear hfz51_0
                  try clear hfz51_1
                  try clear hfz57_0
                  try clear hfz57_1
                  try clear hfz59_0
                  try clear hfz59_1
                  try clear hfz63_0
                  try clear hfz63_1
                  try clear hfz65_0
                  try clear hfz65_1
                  try clear hfz69_0
                  try clear hfz69_1
                  try clear hfz71_0
                  try clear hfz71_1
                  try clear hfz75_0
                  try clear hfz75_1
                  try clear hfz77_0
                  try clear hfz77_1
                  try clear hfz85_0
                  try clear hfz85_1
                  try clear hfz87_0
                  try clear hfz87_1
                  try clear hfz91_0
                  try clear hfz91_1
                  try clear hfz93_0
                  try clear hfz93_1
                  try clear hfz97_0
                  try clear hfz97_1
                  try clear hfz99_0
                  try clear hfz99_1
                  try clear hx205_0
                  try clear hx205_1
                  try clear hx206_0
                  try clear hx206_1
                  try clear p2
                  try clear p205
                  try clear p206
                  try clear q205
                  try clear q206
                  obtain ⟨kq, x123_34, rfl, rfl, rfl, HA, HJ34, BK202, BK209, BK213, HB⟩ := hcut
                  cases kq with
                  | zero => exact absurd HA.out (by simp [barrowlaw23_LimitHolds.j2])
                  | succ kj34 =>
                    have H := HA.out
                    clear HA
                    simp only [barrowlaw23_LimitHolds.j2] at H
                    by_cases c107 : x123_34 = true
                    · subst c107
                      have H1 : (some false) = some r := by rw [if_pos rfl] at H; exact H
                      clear H
                      have H := H1
                      clear H1
                      obtain rfl := Option.some.inj H
                      go_wp2
                      go_ret
                      exact ⟨by first | rfl | (simp [errW_none, errW_some] <;> rfl) | (simp [*, errW_none, errW_some] <;> rfl), by repeat (first | (with_reducible first | exact HB.out | apply below_alloc | apply pw_below_drewN | apply below_drew1 | refine below_set ?_ GE202.out | refine below_set ?_ GE209.out | refine below_set ?_ GE213.out) | exact HB.out)⟩
                    · replace c107 := Bool.eq_false_iff.mpr c107
                      subst c107
                      have H1 : (if t212 = true then (if (wrap64 (x13_2 + ((rd_T32 l3 x14_2).f1))) > (wrap64 (a0_0 + (wrap64 (a1 * (wrap64 ((wrap64 (x12_2 + (Go.bits .and .i64 ((rd_T32 l3 x14_2).f0) 7))) - a0_1)))))) then (some false) else (barrowlaw23_LimitHolds.l0 kj34 a1 a2 l3 t203 a0_0 a0_1 (wrap64 (x12_2 + (Go.bits .and .i64 ((rd_T32 l3 x14_2).f0) 7))) (wrap64 (x13_2 + ((rd_T32 l3 x14_2).f1))) (wrap64 (x14_2 + 1)) t210 t211)) else (if x13_2 > (wrap64 (a0_0 + (wrap64 (a1 * (wrap64 ((wrap64 (x12_2 + (Go.bits .and .i64 ((rd_T32 l3 x14_2).f0) 7))) - a0_1)))))) then (some false) else (barrowlaw23_LimitHolds.l0 kj34 a1 a2 l3 t203 a0_0 a0_1 (wrap64 (x12_2 + (Go.bits .and .i64 ((rd_T32 l3 x14_2).f0) 7))) x13_2 (wrap64 (x14_2 + 1)) t210 t211))) = some r := by rw [if_neg (show ¬ (false = true) by decide)] at H; exact H
                      clear H
                      have H := H1
                      clear H1
                      by_cases c108 : t212 = true
                      · subst c108
                        have H1 : (if (wrap64 (x13_2 + ((rd_T32 l3 x14_2).f1))) > (wrap64 (a0_0 + (wrap64 (a1 * (wrap64 ((wrap64 (x12_2 + (Go.bits .and .i64 ((rd_T32 l3 x14_2).f0) 7))) - a0_1)))))) then (some false) else (barrowlaw23_LimitHolds.l0 kj34 a1 a2 l3 t203 a0_0 a0_1 (wrap64 (x12_2 + (Go.bits .and .i64 ((rd_T32 l3 x14_2).f0) 7))) (wrap64 (x13_2 + ((rd_T32 l3 x14_2).f1))) (wrap64 (x14_2 + 1)) t210 t211)) = some r := by rw [if_pos rfl] at H; exact H
                        clear H
                        have H := H1
                        clear H1
                        by_cases c109 : (wrap64 (x13_2 + ((rd_T32 l3 x14_2).f1))) > (wrap64 (a0_0 + (wrap64 (a1 * (wrap64 ((wrap64 (x12_2 + (Go.bits .and .i64 ((rd_T32 l3 x14_2).f0) 7))) - a0_1))))))
                        · rw [if_pos c109] at H
                          have c109b0 : decide ((wrap64 (a0_0 + (wrap64 (a1 * (wrap64 ((wrap64 (x12_2 + (Go.bits .and .i64 ((rd_T32 l3 x14_2).f0) 7))) - a0_1)))))) < (wrap64 (x13_2 + ((rd_T32 l3 x14_2).f1)))) = true := decide_eq_true c109
                          clear c109
                          obtain rfl := Option.some.inj H
                          go_wp2
                          go_ret
                          exact ⟨by first | rfl | (simp [errW_none, errW_some] <;> rfl) | (simp [*, errW_none, errW_some] <;> rfl), by repeat (first | (with_reducible first | exact HB.out | apply below_alloc | apply pw_below_drewN | apply below_drew1 | refine below_set ?_ GE202.out | refine below_set ?_ GE209.out | refine below_set ?_ GE213.out) | exact HB.out)⟩
                        · rw [if_neg c109] at H
                          have c109b0 : decide ((wrap64 (a0_0 + (wrap64 (a1 * (wrap64 ((wrap64 (x12_2 + (Go.bits .and .i64 ((rd_T32 l3 x14_2).f0) 7))) - a0_1)))))) < (wrap64 (x13_2 + ((rd_T32 l3 x14_2).f1)))) = false := decide_eq_false c109
                          clear c109
                          have H' := Aside0.mk H
                          clear H
                          have hnb110 := NB213_202.out
                          have hnc110 := NB202_213.out
                          have hnb111 := NB213_209.out
                          have hnc111 := NB209_213.out
                          have hcz112_0 : wc.cell? ⟨gb213, 0, none⟩ = some (.int .i64 t210) := (blk_cell BK213.out 0).trans rfl
                          have hcz112_1 : wc.cell? ⟨gb213, 1, none⟩ = some (.int .i64 t211) := (blk_cell BK213.out 1).trans rfl
                          have hfz112_0 := blk_frozen BK213.out 0
                          have hfz112_1 := blk_frozen BK213.out 1
                          have hnb113 := NB202_209.out
                          have hnc113 := NB209_202.out
                          have hcz114_0 : wc.cell? ⟨gb202, 0, none⟩ = some (.int .i64 x203000_2) := (blk_cell BK202.out 0).trans rfl
                          have hcz114_1 : wc.cell? ⟨gb202, 1, none⟩ = some (.int .i64 x203001_2) := (blk_cell BK202.out 1).trans rfl
                          have hfz114_0 := blk_frozen BK202.out 0
                          have hfz114_1 := blk_frozen BK202.out 1
                          go_wp2
                          go_roundg kj34
                          case measure => have := HJ5.out; have := HK2.out; have := HJ34.out; omega
                          case rel => exact ⟨((wrap64 (x12_2 + (Go.bits .and .i64 ((rd_T32 l3 x14_2).f0) 7)))), (wrap64 (x13_2 + ((rd_T32 l3 x14_2).f1))), (wrap64 (x14_2 + 1)), (t210), (t211), (by first | rfl | (simp; done) | (simp [*]; done)), (by first | rfl | (simp; done) | (simp [*]; done)), (by first | rfl | (simp; done) | (simp [*]; done)), H', ⟨by have := HJ5.out; have := HK2.out; have := HJ34.out; omega⟩, ⟨by (with_reducible repeat (first | refine blk_drewN ?_ _ | refine blk_drew ?_ | refine blk_alloc ?_ _)); refine blk_put (cs := #[.int .i64 t210, .int .i64 x203001_2]) ?_ 1 _ rfl; (with_reducible repeat (first | refine blk_drewN ?_ _ | refine blk_drew ?_ | refine blk_alloc ?_ _)); refine blk_put (cs := #[.int .i64 x203000_2, .int .i64 x203001_2]) ?_ 0 _ rfl; (with_reducible repeat (first | refine blk_drewN ?_ _ | refine blk_drew ?_ | refine blk_alloc ?_ _)); exact BK202.out⟩, ⟨by repeat (first | (with_reducible first | exact HB.out | apply below_alloc | apply pw_below_drewN | apply below_drew1 | refine below_set ?_ GE202.out | refine below_set ?_ GE209.out | refine below_set ?_ GE213.out) | exact HB.out)⟩⟩
                      · replace c108 := Bool.eq_false_iff.mpr c108
                        subst c108
                        have H1 : (if x13_2 > (wrap64 (a0_0 + (wrap64 (a1 * (wrap64 ((wrap64 (x12_2 + (Go.bits .and .i64 ((rd_T32 l3 x14_2).f0) 7))) - a0_1)))))) then (some false) else (barrowlaw23_LimitHolds.l0 kj34 a1 a2 l3 t203 a0_0 a0_1 (wrap64 (x12_2 + (Go.bits .and .i64 ((rd_T32 l3 x14_2).f0) 7))) x13_2 (wrap64 (x14_2 + 1)) t210 t211)) = some r := by rw [if_neg (show ¬ (false = true) by decide)] at H; exact H
                        clear H
                        have H := H1
                        clear H1
                        by_cases c115 : x13_2 > (wrap64 (a0_0 + (wrap64 (a1 * (wrap64 ((wrap64 (x12_2 + (Go.bits .and .i64 ((rd_T32 l3 x14_2).f0) 7))) - a0_1))))))
                        · rw [if_pos c115] at H
                          have c115b0 : decide ((wrap64 (a0_0 + (wrap64 (a1 * (wrap64 ((wrap64 (x12_2 + (Go.bits .and .i64 ((rd_T32 l3 x14_2).f0) 7))) - a0_1)))))) < x13_2) = true := decide_eq_true c115
                          clear c115
                          obtain rfl := Option.some.inj H
                          go_wp2
                          go_ret
                          exact ⟨by first | rfl | (simp [errW_none, errW_some] <;> rfl) | (simp [*, errW_none, errW_some] <;> rfl), by repeat (first | (with_reducible first | exact HB.out | apply below_alloc | apply pw_below_drewN | apply below_drew1 | refine below_set ?_ GE202.out | refine below_set ?_ GE209.out | refine below_set ?_ GE213.out) | exact HB.out)⟩
                        · rw [if_neg c115] at H
                          have c115b0 : decide ((wrap64 (a0_0 + (wrap64 (a1 * (wrap64 ((wrap64 (x12_2 + (Go.bits .and .i64 ((rd_T32 l3 x14_2).f0) 7))) - a0_1)))))) < x13_2) = false := decide_eq_false c115
                          clear c115
                          have H' := Aside0.mk H
                          clear H
                          have hnb116 := NB213_202.out
                          have hnc116 := NB202_213.out
                          have hnb117 := NB213_209.out
                          have hnc117 := NB209_213.out
                          have hcz118_0 : wc.cell? ⟨gb213, 0, none⟩ = some (.int .i64 t210) := (blk_cell BK213.out 0).trans rfl
                          have hcz118_1 : wc.cell? ⟨gb213, 1, none⟩ = some (.int .i64 t211) := (blk_cell BK213.out 1).trans rfl
                          have hfz118_0 := blk_frozen BK213.out 0
                          have hfz118_1 := blk_frozen BK213.out 1
                          have hnb119 := NB202_209.out
                          have hnc119 := NB209_202.out
                          have hcz120_0 : wc.cell? ⟨gb202, 0, none⟩ = some (.int .i64 x203000_2) := (blk_cell BK202.out 0).trans rfl
                          have hcz120_1 : wc.cell? ⟨gb202, 1, none⟩ = some (.int .i64 x203001_2) := (blk_cell BK202.out 1).trans rfl
                          have hfz120_0 := blk_frozen BK202.out 0
                          have hfz120_1 := blk_frozen BK202.out 1
                          go_wp2
                          go_roundg kj34
                          case measure => have := HJ5.out; have := HK2.out; have := HJ34.out; omega
                          case rel => exact ⟨((wrap64 (x12_2 + (Go.bits .and .i64 ((rd_T32 l3 x14_2).f0) 7)))), (x13_2), (wrap64 (x14_2 + 1)), (t210), (t211), (by first | rfl | (simp; done) | (simp [*]; done)), (by first | rfl | (simp; done) | (simp [*]; done)), (by first | rfl | (simp; done) | (simp [*]; done)), H', ⟨by have := HJ5.out; have := HK2.out; have := HJ34.out; omega⟩, ⟨by (with_reducible repeat (first | refine blk_drewN ?_ _ | refine blk_drew ?_ | refine blk_alloc ?_ _)); refine blk_put (cs := #[.int .i64 t210, .int .i64 x203001_2]) ?_ 1 _ rfl; (with_reducible repeat (first | refine blk_drewN ?_ _ | refine blk_drew ?_ | refine blk_alloc ?_ _)); refine blk_put (cs := #[.int .i64 x203000_2, .int .i64 x203001_2]) ?_ 0 _ rfl; (with_reducible repeat (first | refine blk_drewN ?_ _ | refine blk_drew ?_ | refine blk_alloc ?_ _)); exact BK202.out⟩, ⟨by repeat (first | (with_reducible first | exact HB.out | apply below_alloc | apply pw_below_drewN | apply below_drew1 | refine below_set ?_ GE202.out | refine below_set ?_ GE209.out | refine below_set ?_ GE213.out) | exact HB.out)⟩⟩
              · rw [if_neg c32] at H
                exact absurd H (by simp)
            · rw [if_neg c31] at H
              have c31b0 : decide (x14_2 < (l3.length : Int)) = false := decide_eq_false c31
              clear c31
              obtain rfl := Option.some.inj H
              go_wp2
              go_ret
              exact ⟨by first | rfl | (simp [errW_none, errW_some] <;> rfl) | (simp [*, errW_none, errW_some] <;> rfl), by repeat (first | (with_reducible first | exact HB.out | apply below_alloc | apply pw_below_drewN | apply below_drew1 | refine below_set ?_ GE202.out) | exact HB.out)⟩

/-- THE ONE PURE STATEMENT of barrowlaw23_LimitHolds. -/
def barrowlaw23_LimitHolds.Pure : Prop := ∀ (a0_0 : Int) (a0_1 : Int) (a1 : Int) (a2 : Int) (l3 : List (S32)), ((Lit.int .i64 a0_0).wf = true) → ((Lit.int .i64 a0_1).wf = true) → ((Lit.int .i64 a1).wf = true) → ((Lit.int .i64 a2).wf = true) → (l3.length ≤ maxLen ∧ l3.length * 16 ≤ 140737488351232 ∧ ∀ x218_ ∈ l3, ((Lit.int .i64 x218_.f0).wf = true) ∧ ((Lit.int .i64 x218_.f1).wf = true)) → ∃ k, barrowlaw23_LimitHolds.f k a0_0 a0_1 a1 a2 l3 = some true

end Go.Proofs.Ytmcfnpoeefgigaa.XLimit
