-- Written by xprint.py (a program of this session) for this claim
import Derived.Test.YtljmecjciifceaaXSGx0
import Derived.Test.YtljmecjciifceaaXSGx8
import Derived.Test.YtljmecjciifceaaXSGx11
namespace Go.Proofs.Ytljmecjciifceaa.XSG
open Go.Proofs.YtljmecjciifceaaV Go.Proofs.YtljmecjciifceaaS
open Go.RowKit Go.Proofs.YtljmecjciifceaaW.PrintWords Go.Proofs.YtljmecjciifceaaW.PrintLast Go.Proofs.YtljmecjciifceaaW.PrintMore
attribute [local go_sem] max2_int min2_int max_two min_two max_three min_three max_four min_four   -- for this text's walks alone
set_option linter.unusedVariables false
set_option linter.unusedSimpArgs false

/-! ### barrowref06_Near: function 55 -/
def barrowref06_Near.f (k : Nat) (a0_0 : Int) (a0_1 : Int) (a1_0 : Int) (a1_1 : Int) (a2 : Int) : Option (Bool) := if a2 ≥ 0 then ((barrowref06_Square.f k a0_0 a0_1 a1_0 a1_1).bind fun t728 => ((barrowref01_Mul.f a2 a2).bind fun t729 => (some (decide (t728 ≤ t729))))) else (some false)
theorem barrowref06_Near.mono : ∀ a0 a1 a2 a3 a4 k, LeO (barrowref06_Near.f k a0 a1 a2 a3 a4) (barrowref06_Near.f (k + 1) a0 a1 a2 a3 a4) := by
  intro a0 a1 a2 a3 a4 k
  unfold barrowref06_Near.f
  repeat' first
      | (with_reducible exact barrowref06_Square.mono _ _ _ _ _)
      | (with_reducible exact LeO.refl _)
      | (with_reducible exact LeO.none _)
      | (with_reducible refine LeO.ite ?_ ?_)
      | (with_reducible refine LeO.bind ?_ (fun _ => ?_))
      | exact barrowref06_Square.mono _ _ _ _ _
      | exact LeO.none _
      | refine LeO.ite ?_ ?_
      | refine LeO.bind ?_ (fun _ => ?_)
set_option maxHeartbeats 8000000 in
set_option maxRecDepth 100000 in
theorem barrowref06_Near.calls (k : Nat) (a0_0 : Int) (a0_1 : Int) (a1_0 : Int) (a1_1 : Int) (a2 : Int) (r : Bool) (w : World) (h : barrowref06_Near.f k a0_0 a0_1 a1_0 a1_1 a2 = some r) :
    Calls Try.prog 55 #[.agg #[.int .i64 a0_0, .int .i64 a0_1], .agg #[.int .i64 a1_0, .int .i64 a1_1], .int .i64 a2] w fun e w' => e = .returned (.bool r) ∧ Below w.heap.size w w' := by
  have hu26 := Try.underlying26
  have HB := Aside0.mk (Below.refl w.heap.size w)
  have H : (if a2 ≥ 0 then ((barrowref06_Square.f k a0_0 a0_1 a1_0 a1_1).bind fun t728 => ((barrowref01_Mul.f a2 a2).bind fun t729 => (some (decide (t728 ≤ t729))))) else (some false)) = some r := h
  clear h
  by_cases c4 : a2 ≥ 0
  · rw [if_pos c4] at H
    have c4b0 : decide (0 ≤ a2) = true := decide_eq_true c4
    clear c4
    replace H := Option.bind_eq_some_iff.mp H
    obtain ⟨t728, A50, H⟩ := H
    replace H : ((barrowref01_Mul.f a2 a2).bind fun t729 => (some (decide (t728 ≤ t729)))) = some r := H
    have A5 := Aside0.mk A50
    clear A50
    replace H := Option.bind_eq_some_iff.mp H
    obtain ⟨t729, A60, H⟩ := H
    replace H : (some (decide (t728 ≤ t729))) = some r := H
    have A6 := Aside0.mk A60
    clear A60
    obtain rfl := Option.some.inj H
    go_enter Try.func55, Try.ntmps55
    go_wp2_with (first | ((with_reducible refine gate_dst (N := 3) rfl ?_); refine box_event ?hg (N := 3) ?hd (cs := #[.int .i64 a0_0, .int .i64 a0_1]) (t := 26) ?hr ?_; (case hd => rfl); (case hg => rfl); (case hr => first | (go_simp; done) | (go_simp; rfl)); intro gb726 hg w7 hbox hb; have n0_ := Aside0.mk (below_step (by repeat (first | (with_reducible first | exact HB.out | apply below_alloc | apply pw_below_drewN | apply below_drew1) | exact HB.out)) hb); have n1_ := Aside0.mk (hbox); have n2_ := Aside0.mk ((by rw [hg]; exact (below_size (by repeat (first | (with_reducible first | exact HB.out | apply below_alloc | apply pw_below_drewN | apply below_drew1) | exact HB.out))) : w.heap.size ≤ gb726)); have n3_ := Aside0.mk ((by rw [hg]; exact (below_size (by repeat (first | (with_reducible first | exact HB.out | apply below_alloc | apply pw_below_drewN | apply below_drew1) | exact HB.out))) : w.heap.size ≤ gb726)); clear HB; have HB := n0_; have BK726 := n1_; have GW726 := n2_; have GE726 := n3_; clear n0_ n1_ n2_ n3_; clear hb hbox hg) | ((with_reducible refine gate_dst (N := 4) rfl ?_); refine box_event ?hg (N := 4) ?hd (cs := #[.int .i64 a1_0, .int .i64 a1_1]) (t := 26) ?hr ?_; (case hd => rfl); (case hg => rfl); (case hr => first | (go_simp; done) | (go_simp; rfl)); intro gb727 hg w8 hbox hb; have n0_ := Aside0.mk (blk_below (g := gb726) (o := .cells #[.int .i64 a0_0, .int .i64 a0_1] 26 (0, 0)) (by (with_reducible repeat (first | refine blk_drewN ?_ _ | refine blk_drew ?_ | refine blk_alloc ?_ _)); exact BK726.out) hb); have n1_ := Aside0.mk (below_step (by repeat (first | (with_reducible first | exact HB.out | apply below_alloc | apply pw_below_drewN | apply below_drew1 | refine below_set ?_ GE726.out) | exact HB.out)) hb); have n2_ := Aside0.mk (hbox); have n3_ := Aside0.mk ((by rw [hg]; exact (below_size (by repeat (first | (with_reducible first | exact HB.out | apply below_alloc | apply pw_below_drewN | apply below_drew1 | refine below_set ?_ GE726.out) | exact HB.out))) : w.heap.size ≤ gb727)); have n4_ := Aside0.mk ((by rw [hg]; exact (below_size (by repeat (first | (with_reducible first | exact HB.out | apply below_alloc | apply pw_below_drewN | apply below_drew1 | refine below_set ?_ GE726.out) | exact HB.out))) : w.heap.size ≤ gb727)); have n5_ := Aside0.mk ((by rw [hg]; exact Nat.ne_of_lt (blk_lt (g := gb726) (o := .cells #[.int .i64 a0_0, .int .i64 a0_1] 26 (0, 0)) (by (with_reducible repeat (first | refine blk_drewN ?_ _ | refine blk_drew ?_ | refine blk_alloc ?_ _)); exact BK726.out)) : gb726 ≠ gb727)); have n6_ := Aside0.mk ((by rw [hg]; exact Nat.ne_of_gt (blk_lt (g := gb726) (o := .cells #[.int .i64 a0_0, .int .i64 a0_1] 26 (0, 0)) (by (with_reducible repeat (first | refine blk_drewN ?_ _ | refine blk_drew ?_ | refine blk_alloc ?_ _)); exact BK726.out)) : gb727 ≠ gb726)); clear BK726; clear HB; have BK726 := n0_; have HB := n1_; have BK727 := n2_; have GW727 := n3_; have GE727 := n4_; have NB726_727 := n5_; have NB727_726 := n6_; clear n0_ n1_ n2_ n3_ n4_ n5_ n6_; clear hb hbox hg; have hnb9 := NB726_727.out; have hnc9 := NB727_726.out; have hcz10_0 : w8.cell? ⟨gb726, 0, none⟩ = some (.int .i64 a0_0) := (blk_cell BK726.out 0).trans rfl; have hcz10_1 : w8.cell? ⟨gb726, 1, none⟩ = some (.int .i64 a0_1) := (blk_cell BK726.out 1).trans rfl; have hfz10_0 := blk_frozen BK726.out 0; have hfz10_1 := blk_frozen BK726.out 1; have hcz11_0 : w8.cell? ⟨gb727, 0, none⟩ = some (.int .i64 a1_0) := (blk_cell BK727.out 0).trans rfl; have hcz11_1 : w8.cell? ⟨gb727, 1, none⟩ = some (.int .i64 a1_1) := (blk_cell BK727.out 1).trans rfl; have hfz11_0 := blk_frozen BK727.out 0; have hfz11_1 := blk_frozen BK727.out 1) | (go_at_call 29; (with_reducible refine (barrowref06_Square.calls k a0_0 a0_1 a1_0 a1_1 t728 _ A5.out).mono ?_); rintro e w12 ⟨rfl, hb⟩; have n0_ := Aside0.mk (blk_below (g := gb726) (o := .cells #[.int .i64 a0_0, .int .i64 a0_1] 26 (0, 0)) (by (with_reducible repeat (first | refine blk_drewN ?_ _ | refine blk_drew ?_ | refine blk_alloc ?_ _)); exact BK726.out) hb); have n1_ := Aside0.mk (blk_below (g := gb727) (o := .cells #[.int .i64 a1_0, .int .i64 a1_1] 26 (0, 0)) (by (with_reducible repeat (first | refine blk_drewN ?_ _ | refine blk_drew ?_ | refine blk_alloc ?_ _)); exact BK727.out) hb); have n2_ := Aside0.mk (below_step (by repeat (first | (with_reducible first | exact HB.out | apply below_alloc | apply pw_below_drewN | apply below_drew1 | refine below_set ?_ GE726.out | refine below_set ?_ GE727.out) | exact HB.out)) hb); clear BK726; clear BK727; clear HB; have BK726 := n0_; have BK727 := n1_; have HB := n2_; clear n0_ n1_ n2_; (try clear hb); (try clear hb2); (try clear hk); (try clear hi)) | (go_at_call 47; (with_reducible refine calls_of_args (args' := #[.int .i64 a2, .int .i64 a2]) rfl ?_); (with_reducible refine (barrowref01_Mul.calls a2 a2 t729 _ A6.out).mono ?_); rintro e w13 ⟨rfl, hb⟩; have n0_ := Aside0.mk (blk_below (g := gb726) (o := .cells #[.int .i64 a0_0, .int .i64 a0_1] 26 (0, 0)) (by (with_reducible repeat (first | refine blk_drewN ?_ _ | refine blk_drew ?_ | refine blk_alloc ?_ _)); exact BK726.out) hb); have n1_ := Aside0.mk (blk_below (g := gb727) (o := .cells #[.int .i64 a1_0, .int .i64 a1_1] 26 (0, 0)) (by (with_reducible repeat (first | refine blk_drewN ?_ _ | refine blk_drew ?_ | refine blk_alloc ?_ _)); exact BK727.out) hb); have n2_ := Aside0.mk (below_step (by repeat (first | (with_reducible first | exact HB.out | apply below_alloc | apply pw_below_drewN | apply below_drew1 | refine below_set ?_ GE726.out | refine below_set ?_ GE727.out) | exact HB.out)) hb); clear BK726; clear BK727; clear HB; have BK726 := n0_; have BK727 := n1_; have HB := n2_; clear n0_ n1_ n2_; (try clear hb); (try clear hb2); (try clear hk); (try clear hi)))
    go_ret
    exact ⟨by first | rfl | (simp [errW_none, errW_some] <;> rfl) | (simp [*, errW_none, errW_some] <;> rfl), by repeat (first | (with_reducible first | exact HB.out | apply below_alloc | apply pw_below_drewN | apply below_drew1 | refine below_set ?_ GE726.out | refine below_set ?_ GE727.out) | exact HB.out)⟩
  · rw [if_neg c4] at H
    have c4b0 : decide (0 ≤ a2) = false := decide_eq_false c4
    clear c4
    obtain rfl := Option.some.inj H
    go_enter Try.func55, Try.ntmps55
    go_wp2_with (first | ((with_reducible refine gate_dst (N := 3) rfl ?_); refine box_event ?hg (N := 3) ?hd (cs := #[.int .i64 a0_0, .int .i64 a0_1]) (t := 26) ?hr ?_; (case hd => rfl); (case hg => rfl); (case hr => first | (go_simp; done) | (go_simp; rfl)); intro gb726 hg w14 hbox hb; have n0_ := Aside0.mk (below_step (by repeat (first | (with_reducible first | exact HB.out | apply below_alloc | apply pw_below_drewN | apply below_drew1) | exact HB.out)) hb); have n1_ := Aside0.mk (hbox); have n2_ := Aside0.mk ((by rw [hg]; exact (below_size (by repeat (first | (with_reducible first | exact HB.out | apply below_alloc | apply pw_below_drewN | apply below_drew1) | exact HB.out))) : w.heap.size ≤ gb726)); have n3_ := Aside0.mk ((by rw [hg]; exact (below_size (by repeat (first | (with_reducible first | exact HB.out | apply below_alloc | apply pw_below_drewN | apply below_drew1) | exact HB.out))) : w.heap.size ≤ gb726)); clear HB; have HB := n0_; have BK726 := n1_; have GW726 := n2_; have GE726 := n3_; clear n0_ n1_ n2_ n3_; clear hb hbox hg) | ((with_reducible refine gate_dst (N := 4) rfl ?_); refine box_event ?hg (N := 4) ?hd (cs := #[.int .i64 a1_0, .int .i64 a1_1]) (t := 26) ?hr ?_; (case hd => rfl); (case hg => rfl); (case hr => first | (go_simp; done) | (go_simp; rfl)); intro gb727 hg w15 hbox hb; have n0_ := Aside0.mk (blk_below (g := gb726) (o := .cells #[.int .i64 a0_0, .int .i64 a0_1] 26 (0, 0)) (by (with_reducible repeat (first | refine blk_drewN ?_ _ | refine blk_drew ?_ | refine blk_alloc ?_ _)); exact BK726.out) hb); have n1_ := Aside0.mk (below_step (by repeat (first | (with_reducible first | exact HB.out | apply below_alloc | apply pw_below_drewN | apply below_drew1 | refine below_set ?_ GE726.out) | exact HB.out)) hb); have n2_ := Aside0.mk (hbox); have n3_ := Aside0.mk ((by rw [hg]; exact (below_size (by repeat (first | (with_reducible first | exact HB.out | apply below_alloc | apply pw_below_drewN | apply below_drew1 | refine below_set ?_ GE726.out) | exact HB.out))) : w.heap.size ≤ gb727)); have n4_ := Aside0.mk ((by rw [hg]; exact (below_size (by repeat (first | (with_reducible first | exact HB.out | apply below_alloc | apply pw_below_drewN | apply below_drew1 | refine below_set ?_ GE726.out) | exact HB.out))) : w.heap.size ≤ gb727)); have n5_ := Aside0.mk ((by rw [hg]; exact Nat.ne_of_lt (blk_lt (g := gb726) (o := .cells #[.int .i64 a0_0, .int .i64 a0_1] 26 (0, 0)) (by (with_reducible repeat (first | refine blk_drewN ?_ _ | refine blk_drew ?_ | refine blk_alloc ?_ _)); exact BK726.out)) : gb726 ≠ gb727)); have n6_ := Aside0.mk ((by rw [hg]; exact Nat.ne_of_gt (blk_lt (g := gb726) (o := .cells #[.int .i64 a0_0, .int .i64 a0_1] 26 (0, 0)) (by (with_reducible repeat (first | refine blk_drewN ?_ _ | refine blk_drew ?_ | refine blk_alloc ?_ _)); exact BK726.out)) : gb727 ≠ gb726)); clear BK726; clear HB; have BK726 := n0_; have HB := n1_; have BK727 := n2_; have GW727 := n3_; have GE727 := n4_; have NB726_727 := n5_; have NB727_726 := n6_; clear n0_ n1_ n2_ n3_ n4_ n5_ n6_; clear hb hbox hg))
    go_ret
    exact ⟨by first | rfl | (simp [errW_none, errW_some] <;> rfl) | (simp [*, errW_none, errW_some] <;> rfl), by repeat (first | (with_reducible first | exact HB.out | apply below_alloc | apply pw_below_drewN | apply below_drew1 | refine below_set ?_ GE726.out | refine below_set ?_ GE727.out) | exact HB.out)⟩

/-! ### barrowref06_Around: function 39 -/
mutual
def barrowref06_Around.l0 : Nat → Int → Int → (List Bool) → Int → Int → Int → Bool → (List (S26)) → Int → Option ((List (S26)))
  | 0, _, _, _, _, _, _, _, _, _ => none
  | k + 1, a0_0, a0_1, l0_2, a1_0, a1_1, a2, t739, x8_0, x9_0 => if x9_0 < a0_1 then (if t739 = true then (if a2 ≤ 256 then (barrowref06_Around.l1 k a0_0 a0_1 l0_2 a1_0 a1_1 a2 t739 x9_0 x8_0 0) else (some x8_0)) else (some x8_0)) else (some x8_0)
def barrowref06_Around.l1 : Nat → Int → Int → (List Bool) → Int → Int → Int → Bool → Int → (List (S26)) → Int → Option ((List (S26)))
  | 0, _, _, _, _, _, _, _, _, _, _ => none
  | k + 1, a0_0, a0_1, l0_2, a1_0, a1_1, a2, t739, x9_0, x8_1, x10_1 => if x10_1 < a0_0 then ((barrowref06_Near.f k a1_0 a1_1 x10_1 x9_0 a2).bind fun t740 => ((barrowref06_Wall.f a0_0 a0_1 l0_2 x10_1 x9_0).bind fun t741 => (if t740 = true then (if t741 = true then (barrowref06_Around.l1 k a0_0 a0_1 l0_2 a1_0 a1_1 a2 t739 x9_0 x8_1 (wrap64 (x10_1 + 1))) else ((some (([(⟨x10_1, x9_0⟩ : S26)] : List (S26)) : List (S26))).bind fun y742 => (if x8_1.length + y742.length < 8796093022208 then ((some (x8_1 ++ y742 : List (S26))).bind fun y743 => (barrowref06_Around.l1 k a0_0 a0_1 l0_2 a1_0 a1_1 a2 t739 x9_0 y743 (wrap64 (x10_1 + 1)))) else (none)))) else (barrowref06_Around.l1 k a0_0 a0_1 l0_2 a1_0 a1_1 a2 t739 x9_0 x8_1 (wrap64 (x10_1 + 1)))))) else (barrowref06_Around.l0 k a0_0 a0_1 l0_2 a1_0 a1_1 a2 t739 x8_1 (wrap64 (x9_0 + 1)))
end
def barrowref06_Around.f (k : Nat) (a0_0 : Int) (a0_1 : Int) (l0_2 : List Bool) (a1_0 : Int) (a1_1 : Int) (a2 : Int) : Option ((List (S26))) := (barrowref06_Right.f a0_0 a0_1 l0_2).bind fun t739 => (barrowref06_Around.l0 k a0_0 a0_1 l0_2 a1_0 a1_1 a2 t739 ([] : List (S26)) 0)
theorem barrowref06_Around.mono_l : ∀ k, (∀ y0 y1 y2 y3 y4 y5 y6 y7 y8, LeO (barrowref06_Around.l0 k y0 y1 y2 y3 y4 y5 y6 y7 y8) (barrowref06_Around.l0 (k + 1) y0 y1 y2 y3 y4 y5 y6 y7 y8)) ∧ (∀ y0 y1 y2 y3 y4 y5 y6 y7 y8 y9, LeO (barrowref06_Around.l1 k y0 y1 y2 y3 y4 y5 y6 y7 y8 y9) (barrowref06_Around.l1 (k + 1) y0 y1 y2 y3 y4 y5 y6 y7 y8 y9))
  | 0 => ⟨fun _ _ _ _ _ _ _ _ _ r h => by simp [barrowref06_Around.l0] at h, fun _ _ _ _ _ _ _ _ _ _ r h => by simp [barrowref06_Around.l1] at h⟩
  | k + 1 => by
    obtain ⟨ih0, ih1⟩ := barrowref06_Around.mono_l k
    refine ⟨?_, ?_⟩
    · intro y0 y1 y2 y3 y4 y5 y6 y7 y8
      unfold barrowref06_Around.l0
      repeat' first
      | (with_reducible exact ih0 _ _ _ _ _ _ _ _ _)
      | (with_reducible exact ih1 _ _ _ _ _ _ _ _ _ _)
      | (with_reducible exact barrowref06_Near.mono _ _ _ _ _ _)
      | (with_reducible exact LeO.refl _)
      | (with_reducible exact LeO.none _)
      | (with_reducible refine LeO.ite ?_ ?_)
      | (with_reducible refine LeO.bind ?_ (fun _ => ?_))
      | exact ih0 _ _ _ _ _ _ _ _ _
      | exact ih1 _ _ _ _ _ _ _ _ _ _
      | exact barrowref06_Near.mono _ _ _ _ _ _
      | exact LeO.none _
      | refine LeO.ite ?_ ?_
      | refine LeO.bind ?_ (fun _ => ?_)
    · intro y0 y1 y2 y3 y4 y5 y6 y7 y8 y9
      unfold barrowref06_Around.l1
      repeat' first
      | (with_reducible exact ih0 _ _ _ _ _ _ _ _ _)
      | (with_reducible exact ih1 _ _ _ _ _ _ _ _ _ _)
      | (with_reducible exact barrowref06_Near.mono _ _ _ _ _ _)
      | (with_reducible exact LeO.refl _)
      | (with_reducible exact LeO.none _)
      | (with_reducible refine LeO.ite ?_ ?_)
      | (with_reducible refine LeO.bind ?_ (fun _ => ?_))
      | exact ih0 _ _ _ _ _ _ _ _ _
      | exact ih1 _ _ _ _ _ _ _ _ _ _
      | exact barrowref06_Near.mono _ _ _ _ _ _
      | exact LeO.none _
      | refine LeO.ite ?_ ?_
      | refine LeO.bind ?_ (fun _ => ?_)
theorem barrowref06_Around.mono : ∀ a0 a1 a2 a3 a4 a5 k, LeO (barrowref06_Around.f k a0 a1 a2 a3 a4 a5) (barrowref06_Around.f (k + 1) a0 a1 a2 a3 a4 a5) := by
  intro a0 a1 a2 a3 a4 a5 k
  obtain ⟨ih0, ih1⟩ := barrowref06_Around.mono_l k
  unfold barrowref06_Around.f
  repeat' first
      | (with_reducible exact ih0 _ _ _ _ _ _ _ _ _)
      | (with_reducible exact ih1 _ _ _ _ _ _ _ _ _ _)
      | (with_reducible exact barrowref06_Near.mono _ _ _ _ _ _)
      | (with_reducible exact LeO.refl _)
      | (with_reducible exact LeO.none _)
      | (with_reducible refine LeO.ite ?_ ?_)
      | (with_reducible refine LeO.bind ?_ (fun _ => ?_))
      | exact ih0 _ _ _ _ _ _ _ _ _
      | exact ih1 _ _ _ _ _ _ _ _ _ _
      | exact barrowref06_Near.mono _ _ _ _ _ _
      | exact LeO.none _
      | refine LeO.ite ?_ ?_
      | refine LeO.bind ?_ (fun _ => ?_)
def barrowref06_Around.Post (r : List (S26)) (S : Nat → Prop) (L : List Asr) (w : World) (e : Ending) (w' : World) : Prop := ∃ (Ar1 : Option Addr) (cr1 : Nat), e = .returned (.slice Ar1 r.length cr1) ∧ SL (row k26 26 (.slice Ar1 r.length cr1) r :: L) w' S ∧ Keep S w w'
set_option maxHeartbeats 8000000 in
set_option maxRecDepth 100000 in
theorem barrowref06_Around.slcalls (k : Nat) (a0_0 : Int) (a0_1 : Int) (A0_2 : Option Addr) (c0_2 : Nat) (l0_2 : List Bool) (a1_0 : Int) (a1_1 : Int) (a2 : Int) (r : List (S26)) (S : Nat → Prop) (L : List Asr) (w : World) (hf : Fresh S w) (hs : SL (L) w S) (hr0_2 : RO S w (fun w_ => Kd.C Kd.bool w_ A0_2 l0_2.length l0_2)) (hc0_2 : l0_2.length ≤ c0_2) (h : barrowref06_Around.f k a0_0 a0_1 l0_2 a1_0 a1_1 a2 = some r) :
    Calls Try.prog 39 #[.agg #[.int .i64 a0_0, .int .i64 a0_1, .slice A0_2 l0_2.length c0_2], .agg #[.int .i64 a1_0, .int .i64 a1_1], .int .i64 a2] w (barrowref06_Around.Post r S L w) := by
  have HR0_2 := Aside0.mk hr0_2
  have HC0_2 := Aside0.mk hc0_2
  clear hr0_2 hc0_2
  have HF := Aside0.mk hf
  have HS := Aside0.mk hs
  have HK := Aside0.mk (Keep.refl S w)
  clear hf hs
  have hu24 := Try.underlying24
  have hu26 := Try.underlying26
  have H : ((barrowref06_Right.f a0_0 a0_1 l0_2).bind fun t739 => (barrowref06_Around.l0 k a0_0 a0_1 l0_2 a1_0 a1_1 a2 t739 ([] : List (S26)) 0)) = some r := h
  clear h
  replace H := Option.bind_eq_some_iff.1 H
  obtain ⟨t739, Hc10, H⟩ := H
  try dsimp only at H
  have Hc1 := Aside0.mk Hc10
  clear Hc10
  have H' := Aside0.mk H
  clear H
  go_enter Try.func39, Try.ntmps39
  go_wp2_with (first | ((with_reducible refine gate_dst (N := 3) rfl ?_); refine wpList_plain rfl (fun K_ hK_ => ?_); refine op_box (S := S) (cs := #[.int .i64 a0_0, .int .i64 a0_1, .slice A0_2 l0_2.length c0_2]) (t := 24) (HF.out.keep HK.out) HS.out (by first | (go_simp; done) | (go_simp; rfl)) ?_; intro g3000113 w2 hs_ hk_; refine hK_ _ _ ?_; clear hK_ K_; replace HS := Aside0.mk (hs_); replace HK := Aside0.mk (HK.out.trans hk_)) | ((with_reducible refine gate_dst (N := 4) rfl ?_); refine wpList_plain rfl (fun K_ hK_ => ?_); refine op_box (S := S) (cs := #[.int .i64 a1_0, .int .i64 a1_1]) (t := 26) (HF.out.keep HK.out) HS.out (by first | (go_simp; done) | (go_simp; rfl)) ?_; intro g3000114 w3 hs_ hk_; refine hK_ _ _ ?_; clear hK_ K_; replace HS := Aside0.mk (hs_); replace HK := Aside0.mk (HK.out.trans hk_); have hb_ := SL.at_ (SL.get1 HS.out); have hz3000113_0_2 := ((blk_cell hb_ 0).trans rfl : _ = some (.int .i64 a0_0)); have hz3000113_1_2 := ((blk_cell hb_ 1).trans rfl : _ = some (.int .i64 a0_1)); have hz3000113_2_2 := ((blk_cell hb_ 2).trans rfl : _ = some (.slice A0_2 l0_2.length c0_2)); clear hb_) | ((with_reducible refine gate_dst (N := 15) rfl ?_); refine goesL_ (some 15) rfl rfl Try.func48 (by kernel_rfl) rfl #[.agg #[.int .i64 a0_0, .int .i64 a0_1, .slice A0_2 l0_2.length c0_2]] rfl (by (try simp only [List.map_toArray, List.map_cons, List.map_nil]); first | done | rfl | (simp; done)) ?_; (with_reducible refine (barrowref06_Right.calls _ _ _ _ _ _ _ (RO.at_ HR0_2.out HK.out) HC0_2.out Hc1.out).mono ?_); rintro e_ w4 ⟨rfl, hb_⟩; refine ⟨_, rfl, ?_⟩; replace HS := Aside0.mk (HS.out.below hb_); replace HK := Aside0.mk (HK.out.trans (Keep.below hb_)); (try clear hz3000113_0_2 hz3000113_1_2 hz3000113_2_2); have n2_ := Aside0.mk (SL.nil_row k26 26 HS.out); clear HS; have HS := n2_; clear n2_))
  go_loopg [8, 9] k (fun kq v8 v9 w' => ∃ (x8_0 : List (S26)) (Ax8_0 : Option Addr) (cx8_0 : Nat) (x9_0 : Int), v8 = .slice Ax8_0 x8_0.length cx8_0 ∧ v9 = .int .i64 x9_0 ∧ Aside0 (barrowref06_Around.l0 kq a0_0 a0_1 l0_2 a1_0 a1_1 a2 t739 x8_0 x9_0 = some r) ∧ Aside0 (kq ≤ k) ∧ Aside0 (SL (row k26 26 (.slice Ax8_0 x8_0.length cx8_0) x8_0 :: cells g3000114 26 [.int .i64 a1_0, .int .i64 a1_1].toArray :: cells g3000113 24 [.int .i64 a0_0, .int .i64 a0_1, .slice A0_2 l0_2.length c0_2].toArray :: L) w' S) ∧ Aside0 (Keep S w w'))
  case atStart => exact ⟨(([] : List (S26))), (none), (0), (0), (by first | rfl | (simp; done) | (simp [*]; done)), (by first | rfl | (simp; done) | (simp [*]; done)), H', ⟨Nat.le_refl _⟩, HS, HK⟩
  case round =>
    clear H' HS HK
    try clear hz3000113_0_0 hz3000113_1_0 hz3000113_2_0
    obtain ⟨x8_0, Ax8_0, cx8_0, x9_0, rfl, rfl, HA, HQ1, HS, HK⟩ := hrel
    cases gk with
    | zero => exact absurd HA.out (by simp [barrowref06_Around.l0])
    | succ k1 =>
      have H := HA.out
      clear HA
      simp only [barrowref06_Around.l0] at H
      by_cases c5 : x9_0 < a0_1
      · rw [if_pos c5] at H
        have c5b0 : decide (x9_0 < a0_1) = true := decide_eq_true c5
        clear c5
        by_cases c6 : t739 = true
        · subst c6
          rw [if_pos rfl] at H
          by_cases c7 : a2 ≤ 256
          · rw [if_pos c7] at H
            have c7b0 : decide (a2 ≤ 256) = true := decide_eq_true c7
            clear c7
            have H' := Aside0.mk H
            clear H
            have hb_ := SL.at_ (SL.get2 HS.out)
            have hz3000113_0_0 := ((blk_cell hb_ 0).trans rfl : _ = some (.int .i64 a0_0))
            have hz3000113_1_0 := ((blk_cell hb_ 1).trans rfl : _ = some (.int .i64 a0_1))
            have hz3000113_2_0 := ((blk_cell hb_ 2).trans rfl : _ = some (.slice A0_2 l0_2.length c0_2))
            clear hb_
            go_wp2
            go_loopg [8, 10] k1 (fun kq v8 v10 w' => ∃ (x8_1 : List (S26)) (Ax8_1 : Option Addr) (cx8_1 : Nat) (x10_1 : Int), v8 = .slice Ax8_1 x8_1.length cx8_1 ∧ v10 = .int .i64 x10_1 ∧ Aside0 (barrowref06_Around.l1 kq a0_0 a0_1 l0_2 a1_0 a1_1 a2 true x9_0 x8_1 x10_1 = some r) ∧ Aside0 (kq ≤ k1) ∧ Aside0 (SL (row k26 26 (.slice Ax8_1 x8_1.length cx8_1) x8_1 :: cells g3000114 26 [.int .i64 a1_0, .int .i64 a1_1].toArray :: cells g3000113 24 [.int .i64 a0_0, .int .i64 a0_1, .slice A0_2 l0_2.length c0_2].toArray :: L) w' S) ∧ Aside0 (Keep S w w'))
            case atStart => exact ⟨(x8_0), (Ax8_0), (cx8_0), (0), (by first | rfl | (simp; done) | (simp [*]; done)), (by first | rfl | (simp; done) | (simp [*]; done)), H', ⟨Nat.le_refl _⟩, HS, HK⟩
            case round =>
              clear H' HS HK
              try clear hz3000113_0_0 hz3000113_1_0 hz3000113_2_0
              obtain ⟨x8_1, Ax8_1, cx8_1, x10_1, rfl, rfl, HA, HQ2, HS, HK⟩ := hrel
              cases gk with
              | zero => exact absurd HA.out (by simp [barrowref06_Around.l1])
              | succ k2 =>
                have H := HA.out
                clear HA
                simp only [barrowref06_Around.l1] at H
                by_cases c8 : x10_1 < a0_0
                · rw [if_pos c8] at H
                  have c8b0 : decide (x10_1 < a0_0) = true := decide_eq_true c8
                  clear c8
                  replace H := Option.bind_eq_some_iff.1 H
                  obtain ⟨t740, Hc90, H⟩ := H
                  try dsimp only at H
                  have Hc9 := Aside0.mk Hc90
                  clear Hc90
                  replace H := Option.bind_eq_some_iff.1 H
                  obtain ⟨t741, Hc100, H⟩ := H
                  try dsimp only at H
                  have Hc10 := Aside0.mk Hc100
                  clear Hc100
                  have H' := Aside0.mk H
                  clear H
                  have hb_ := SL.at_ (SL.get2 HS.out)
                  have hz3000113_0_0 := ((blk_cell hb_ 0).trans rfl : _ = some (.int .i64 a0_0))
                  have hz3000113_1_0 := ((blk_cell hb_ 1).trans rfl : _ = some (.int .i64 a0_1))
                  have hz3000113_2_0 := ((blk_cell hb_ 2).trans rfl : _ = some (.slice A0_2 l0_2.length c0_2))
                  clear hb_
                  go_wp2_with (first | ((with_reducible refine gate_dst (N := 11) rfl ?_); refine wpList_plain rfl (fun K_ hK_ => ?_); refine op_box (S := S) (cs := #[.int .i64 0, .int .i64 0]) (t := 26) (HF.out.keep HK.out) HS.out (by first | (go_simp; done) | (go_simp; rfl)) ?_; intro g3000115 w11 hs_ hk_; refine hK_ _ _ ?_; clear hK_ K_; replace HS := Aside0.mk (hs_); replace HK := Aside0.mk (HK.out.trans hk_); (try clear hz3000113_0_0 hz3000113_1_0 hz3000113_2_0)) | ((with_reducible refine gate_store (t := 26) (p := 11) (v := (.tmp 37)) rfl ?_); refine wpList_plain rfl (fun K_ hK_ => ?_); refine op_store (S := S) 26 (.tmp 11) (.tmp 37) rfl g3000115 0 (.agg #[.int .i64 x10_1, .int .i64 x9_0]) [.int .i64 x10_1, .int .i64 x9_0] rfl rfl rfl (by kernel_rfl) (by simp [Value.oneCell']) HS.out (by simp) ?_; intro w12 hs_ hk_; refine hK_ _ _ ?_; clear hK_ K_; replace HS := Aside0.mk ((show SL (cells g3000115 26 [.int .i64 x10_1, .int .i64 x9_0].toArray :: _) _ _ from hs_)); replace HK := Aside0.mk (HK.out.trans hk_); have hb_ := SL.at_ HS.out; have hz3000115_0_2 := ((blk_cell hb_ 0).trans rfl : _ = some (.int .i64 x10_1)); have hz3000115_1_2 := ((blk_cell hb_ 1).trans rfl : _ = some (.int .i64 x9_0)); clear hb_; have hb_ := SL.at_ (SL.get2 HS.out); have hz3000114_0_2 := ((blk_cell hb_ 0).trans rfl : _ = some (.int .i64 a1_0)); have hz3000114_1_2 := ((blk_cell hb_ 1).trans rfl : _ = some (.int .i64 a1_1)); clear hb_) | ((with_reducible refine gate_dst (N := 41) rfl ?_); refine goesL_ (some 41) rfl rfl Try.func55 (by kernel_rfl) rfl #[.agg #[.int .i64 a1_0, .int .i64 a1_1], .agg #[.int .i64 x10_1, .int .i64 x9_0], .int .i64 a2] rfl (by (try simp only [List.map_toArray, List.map_cons, List.map_nil]); first | done | rfl | (simp; done)) ?_; (with_reducible refine (barrowref06_Near.calls k2 _ _ _ _ _ _ _  Hc9.out).mono ?_); rintro e_ w13 ⟨rfl, hb_⟩; refine ⟨_, rfl, ?_⟩; replace HS := Aside0.mk (HS.out.below hb_); replace HK := Aside0.mk (HK.out.trans (Keep.below hb_)); (try clear hz3000114_0_2 hz3000114_1_2); (try clear hz3000115_0_2 hz3000115_1_2); have hb_ := SL.at_ HS.out; have hz3000115_0_3 := ((blk_cell hb_ 0).trans rfl : _ = some (.int .i64 x10_1)); have hz3000115_1_3 := ((blk_cell hb_ 1).trans rfl : _ = some (.int .i64 x9_0)); clear hb_; have hb_ := SL.at_ (SL.get3 HS.out); have hz3000113_0_3 := ((blk_cell hb_ 0).trans rfl : _ = some (.int .i64 a0_0)); have hz3000113_1_3 := ((blk_cell hb_ 1).trans rfl : _ = some (.int .i64 a0_1)); have hz3000113_2_3 := ((blk_cell hb_ 2).trans rfl : _ = some (.slice A0_2 l0_2.length c0_2)); clear hb_) | ((with_reducible refine gate_dst (N := 44) rfl ?_); refine goesL_ (some 44) rfl rfl Try.func28 (by kernel_rfl) rfl #[.agg #[.int .i64 a0_0, .int .i64 a0_1, .slice A0_2 l0_2.length c0_2], .agg #[.int .i64 x10_1, .int .i64 x9_0]] rfl (by (try simp only [List.map_toArray, List.map_cons, List.map_nil]); first | done | rfl | (simp; done)) ?_; (with_reducible refine (barrowref06_Wall.calls _ _ _ _ _ _ _ _ _ (RO.at_ HR0_2.out HK.out) HC0_2.out Hc10.out).mono ?_); rintro e_ w14 ⟨rfl, hb_⟩; refine ⟨_, rfl, ?_⟩; replace HS := Aside0.mk (HS.out.below hb_); replace HK := Aside0.mk (HK.out.trans (Keep.below hb_)); (try clear hz3000113_0_3 hz3000113_1_3 hz3000113_2_3); (try clear hz3000115_0_3 hz3000115_1_3); refine stop_ ?_; intro G_ hG_))
                  have H := H'.out
                  clear H'
                  by_cases c15 : t740 = true
                  · subst c15
                    rw [if_pos rfl] at H
                    by_cases c16 : t741 = true
                    · subst c16
                      rw [if_pos rfl] at H
                      have H' := Aside0.mk H
                      clear H
                      refine hG_.out ?_
                      go_wp2
                      replace HS := Aside0.mk (SL.tail HS.out)
                      go_roundg k2
                      case measure => have := HQ1.out; have := HQ2.out; omega
                      case rel => exact ⟨(x8_1), (Ax8_1), (cx8_1), (wrap64 (x10_1 + 1)), (by first | rfl | (simp; done) | (simp [*]; done)), (by first | rfl | (simp; done) | (simp [*]; done)), H', ⟨by have := HQ1.out; have := HQ2.out; omega⟩, HS, HK⟩
                    · replace c16 := Bool.eq_false_iff.mpr c16
                      subst c16
                      rw [if_neg (show ¬ (false = true) by decide)] at H
                      replace H := Option.bind_eq_some_iff.1 H
                      obtain ⟨y742, hy7420, H⟩ := H
                      try dsimp only at H
                      have hy742 := Option.some.inj hy7420
                      clear hy7420
                      have Ny742 := Aside0.mk hy742
                      clear hy742
                      by_cases c17 : x8_1.length + y742.length < 8796093022208
                      · rw [if_pos c17] at H
                        have LMc17 := Aside0.mk c17
                        clear c17
                        replace H := Option.bind_eq_some_iff.1 H
                        obtain ⟨y743, hy7430, H⟩ := H
                        try dsimp only at H
                        have hy743 := Option.some.inj hy7430
                        clear hy7430
                        have Ny743 := Aside0.mk hy743
                        clear hy743
                        have H' := Aside0.mk H
                        clear H
                        have hb_ := SL.at_ HS.out
                        have hz3000115_0_0 := ((blk_cell hb_ 0).trans rfl : _ = some (.int .i64 x10_1))
                        have hz3000115_1_0 := ((blk_cell hb_ 1).trans rfl : _ = some (.int .i64 x9_0))
                        clear hb_
                        refine hG_.out ?_
                        go_wp2_with (first | ((with_reducible refine gate_dst (N := 52) rfl ?_); refine wpList_plain rfl (fun K_ hK_ => ?_); refine op_rowF (S := S) (d := k26) ⟨fun h_ => h_⟩ 26 y742 #[.int .i64 x10_1, .int .i64 x9_0] 1 (by rw [← Ny742.out]; exact reps_cons (k26_mkM _ 0 _ (⟨x10_1, x9_0⟩ : S26)) rfl (Reps.none _ _)) (by rw [← Ny742.out]; rfl) (by decide) (HF.out.keep HK.out) HS.out (by first | (go_simp; done) | (go_simp; rfl)) ?_; intro Az3000116 cz3000116 w18 hs_ hk_; refine hK_ _ _ ?_; clear hK_ K_; replace HS := Aside0.mk ((show SL (row k26 26 (.slice Az3000116 1 cz3000116) y742 :: _) _ _ from hs_)); replace HK := Aside0.mk (HK.out.trans hk_); (try clear hz3000115_0_0 hz3000115_1_0)) | ((with_reducible refine gate_dst (N := 53) rfl ?_); refine wpList_plain rfl (fun K_ hK_ => ?_); refine op_appendF (S := S) (d := k26) ⟨fun h_ => h_⟩ (.tmp 50) (.tmp 52) 32 26 (.agg #[(.int .i64 0), (.int .i64 0)]) 16 rfl Try.underlying32 info26 rfl (by decide) (by decide) (.slice Ax8_1 x8_1.length cx8_1) rfl rfl (HF.out.keep HK.out) (SL.get2 HS.out) (SL.row_c HS.out).2.2 (by have := LMc17.out; have e_ := (SL.row_c HS.out).1; omega) y743 Ny743.out ?_; intro A744 c745 w19 hs_ hk_; refine hK_ _ _ ?_; clear hK_ K_; replace HS := Aside0.mk ((SL.back2 (show SL (row k26 26 (.slice A744 y743.length c745) y743 :: _) _ _ from hs_))); replace HK := Aside0.mk (HK.out.trans hk_)))
                        replace HS := Aside0.mk (SL.tail (SL.tail HS.out))
                        go_roundg k2
                        case measure => have := HQ1.out; have := HQ2.out; omega
                        case rel => exact ⟨(y743), (A744), (c745), (wrap64 (x10_1 + 1)), (by first | rfl | (simp; done) | (simp [*]; done)), (by first | rfl | (simp; done) | (simp [*]; done)), H', ⟨by have := HQ1.out; have := HQ2.out; omega⟩, HS, HK⟩
                      · rw [if_neg c17] at H
                        exact absurd H (by simp)
                  · replace c15 := Bool.eq_false_iff.mpr c15
                    subst c15
                    rw [if_neg (show ¬ (false = true) by decide)] at H
                    have H' := Aside0.mk H
                    clear H
                    refine hG_.out ?_
                    go_wp2
                    replace HS := Aside0.mk (SL.tail HS.out)
                    go_roundg k2
                    case measure => have := HQ1.out; have := HQ2.out; omega
                    case rel => exact ⟨(x8_1), (Ax8_1), (cx8_1), (wrap64 (x10_1 + 1)), (by first | rfl | (simp; done) | (simp [*]; done)), (by first | rfl | (simp; done) | (simp [*]; done)), H', ⟨by have := HQ1.out; have := HQ2.out; omega⟩, HS, HK⟩
                · rw [if_neg c8] at H
                  have c8b0 : decide (x10_1 < a0_0) = false := decide_eq_false c8
                  clear c8
                  have H' := Aside0.mk H
                  clear H
                  have hb_ := SL.at_ (SL.get2 HS.out)
                  have hz3000113_0_0 := ((blk_cell hb_ 0).trans rfl : _ = some (.int .i64 a0_0))
                  have hz3000113_1_0 := ((blk_cell hb_ 1).trans rfl : _ = some (.int .i64 a0_1))
                  have hz3000113_2_0 := ((blk_cell hb_ 2).trans rfl : _ = some (.slice A0_2 l0_2.length c0_2))
                  clear hb_
                  go_wp2
                  go_roundg k2
                  case measure => have := HQ1.out; have := HQ2.out; omega
                  case rel => exact ⟨(x8_1), (Ax8_1), (cx8_1), (wrap64 (x9_0 + 1)), (by first | rfl | (simp; done) | (simp [*]; done)), (by first | rfl | (simp; done) | (simp [*]; done)), H', ⟨by have := HQ1.out; have := HQ2.out; omega⟩, HS, HK⟩
          · rw [if_neg c7] at H
            have c7b0 : decide (a2 ≤ 256) = false := decide_eq_false c7
            clear c7
            obtain rfl := Option.some.inj H
            have hb_ := SL.at_ (SL.get2 HS.out)
            have hz3000113_0_0 := ((blk_cell hb_ 0).trans rfl : _ = some (.int .i64 a0_0))
            have hz3000113_1_0 := ((blk_cell hb_ 1).trans rfl : _ = some (.int .i64 a0_1))
            have hz3000113_2_0 := ((blk_cell hb_ 2).trans rfl : _ = some (.slice A0_2 l0_2.length c0_2))
            clear hb_
            go_wp2
            go_ret
            replace HS := Aside0.mk (SL.tail (SL.get1 (SL.tail (SL.get1 HS.out))))
            unfold barrowref06_Around.Post
            exact ⟨Ax8_0, cx8_0, by first | rfl | (simp; done) | (simp [*]; done), HS.out, HK.out⟩
        · replace c6 := Bool.eq_false_iff.mpr c6
          subst c6
          rw [if_neg (show ¬ (false = true) by decide)] at H
          obtain rfl := Option.some.inj H
          have hb_ := SL.at_ (SL.get2 HS.out)
          have hz3000113_0_0 := ((blk_cell hb_ 0).trans rfl : _ = some (.int .i64 a0_0))
          have hz3000113_1_0 := ((blk_cell hb_ 1).trans rfl : _ = some (.int .i64 a0_1))
          have hz3000113_2_0 := ((blk_cell hb_ 2).trans rfl : _ = some (.slice A0_2 l0_2.length c0_2))
          clear hb_
          go_wp2
          go_ret
          replace HS := Aside0.mk (SL.tail (SL.get1 (SL.tail (SL.get1 HS.out))))
          unfold barrowref06_Around.Post
          exact ⟨Ax8_0, cx8_0, by first | rfl | (simp; done) | (simp [*]; done), HS.out, HK.out⟩
      · rw [if_neg c5] at H
        have c5b0 : decide (x9_0 < a0_1) = false := decide_eq_false c5
        clear c5
        obtain rfl := Option.some.inj H
        have hb_ := SL.at_ (SL.get2 HS.out)
        have hz3000113_0_0 := ((blk_cell hb_ 0).trans rfl : _ = some (.int .i64 a0_0))
        have hz3000113_1_0 := ((blk_cell hb_ 1).trans rfl : _ = some (.int .i64 a0_1))
        have hz3000113_2_0 := ((blk_cell hb_ 2).trans rfl : _ = some (.slice A0_2 l0_2.length c0_2))
        clear hb_
        go_wp2
        go_ret
        replace HS := Aside0.mk (SL.tail (SL.get1 (SL.tail (SL.get1 HS.out))))
        unfold barrowref06_Around.Post
        exact ⟨Ax8_0, cx8_0, by first | rfl | (simp; done) | (simp [*]; done), HS.out, HK.out⟩

end Go.Proofs.Ytljmecjciifceaa.XSG
