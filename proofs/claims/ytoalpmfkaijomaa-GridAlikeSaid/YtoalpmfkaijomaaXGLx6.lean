-- Written by xprint.py (a program of this session) for this claim
import Derived.Test.YtoalpmfkaijomaaXGLx0
import Derived.Test.YtoalpmfkaijomaaXGLx1
import Derived.Test.YtoalpmfkaijomaaXGLx3
import Derived.Test.YtoalpmfkaijomaaXGRx0
import Derived.Test.YtoalpmfkaijomaaXGRx1
import Derived.Test.YtoalpmfkaijomaaXGRx2
namespace Go.Proofs.Ytoalpmfkaijomaa.XGL
open Go.Proofs.Ytoalpmfkaijomaa.XGR
open Go.Proofs.YtoalpmfkaijomaaV Go.Proofs.YtoalpmfkaijomaaS
open Go.RowKit Go.Proofs.YtoalpmfkaijomaaW.PrintWords Go.Proofs.YtoalpmfkaijomaaW.PrintLast Go.Proofs.YtoalpmfkaijomaaW.PrintMore
attribute [local go_sem] max2_int min2_int max_two min_two max_three min_three max_four min_four   -- for this text's walks alone
set_option linter.unusedVariables false
set_option linter.unusedSimpArgs false

attribute [local go_sem high] eqA23
/-! ### barrowlaw06_GridAlike: function 5 -/
def barrowlaw06_GridAlike.j0 : Nat → Int → Bool → Int → Bool → Int → Int → Int → Int → Option (Bool)
  | 0, _, _, _, _, _, _, _, _ => none
  | k + 1, x2, x7, x9, x53, x232000, x232001, x233000, x233001 => if x53 = true then (none) else (if x2 < 0 then (if x7 = true then ((grid_Near.f k x232000 x232001 x233000 x233001 x2).bind fun t238 => (some (!t238))) else (none)) else ((grid_Near.f k x232000 x232001 x233000 x233001 x2).bind fun t239 => (if x7 = true then ((grid_Near.f k x233000 x233001 x232000 x232001 x2).bind fun t240 => (if (t239 == t240) = true then (if t239 = true then (if x2 > 2147483648 then (if (!(x232000 == x233000) || (!(x232001 == x233001))) = true then (some true) else (some true)) else (if x9 ≤ x2 then (if (!(x232000 == x233000) || (!(x232001 == x233001))) = true then (some true) else (some true)) else (none))) else (if (!(x232000 == x233000) || (!(x232001 == x233001))) = true then (some true) else (none))) else (none))) else (none))))
def barrowlaw06_GridAlike.f (k : Nat) (a0_0 : Int) (a0_1 : Int) (a1_0 : Int) (a1_1 : Int) (a2 : Int) : Option (Bool) := (barrowlaw06_small.f k).bind fun t233 => ((grid_Square.f k a0_0 a0_1 a1_0 a1_1).bind fun t234 => ((grid_Steps.f k a0_0 a0_1 a1_0 a1_1).bind fun t235 => ((grid_Square.f k a1_0 a1_1 a0_0 a0_1).bind fun t236 => (if t234 = t236 then ((grid_Steps.f k a1_0 a1_1 a0_0 a0_1).bind fun t237 => (if t235 = t237 then (if t234 < 0 then (barrowlaw06_GridAlike.j0 k a2 t233 t235 true a0_0 a0_1 a1_0 a1_1) else (if t235 < 0 then (barrowlaw06_GridAlike.j0 k a2 t233 t235 true a0_0 a0_1 a1_0 a1_1) else (if ((t234 == 0) != (a0_0 == a1_0 && (a0_1 == a1_1))) = true then (barrowlaw06_GridAlike.j0 k a2 t233 t235 true a0_0 a0_1 a1_0 a1_1) else (barrowlaw06_GridAlike.j0 k a2 t233 t235 ((t235 == 0) != (a0_0 == a1_0 && (a0_1 == a1_1))) a0_0 a0_1 a1_0 a1_1)))) else (barrowlaw06_GridAlike.j0 k a2 t233 t235 true a0_0 a0_1 a1_0 a1_1))) else (barrowlaw06_GridAlike.j0 k a2 t233 t235 true a0_0 a0_1 a1_0 a1_1)))))
theorem barrowlaw06_GridAlike.mono_l : ∀ k, (∀ y0 y1 y2 y3 y4 y5 y6 y7, LeO (barrowlaw06_GridAlike.j0 k y0 y1 y2 y3 y4 y5 y6 y7) (barrowlaw06_GridAlike.j0 (k + 1) y0 y1 y2 y3 y4 y5 y6 y7))
  | 0 => fun _ _ _ _ _ _ _ _ r h => by simp [barrowlaw06_GridAlike.j0] at h
  | k + 1 => by
    have ih0 := barrowlaw06_GridAlike.mono_l k
    · intro y0 y1 y2 y3 y4 y5 y6 y7
      unfold barrowlaw06_GridAlike.j0
      repeat' first
      | (with_reducible exact ih0 _ _ _ _ _ _ _ _)
      | (with_reducible exact barrowlaw06_small.mono _)
      | (with_reducible exact grid_Near.mono _ _ _ _ _ _)
      | (with_reducible exact grid_Square.mono _ _ _ _ _)
      | (with_reducible exact grid_Steps.mono _ _ _ _ _)
      | (with_reducible exact LeO.refl _)
      | (with_reducible exact LeO.none _)
      | (with_reducible refine LeO.ite ?_ ?_)
      | (with_reducible refine LeO.bind ?_ (fun _ => ?_))
      | exact ih0 _ _ _ _ _ _ _ _
      | exact barrowlaw06_small.mono _
      | exact grid_Near.mono _ _ _ _ _ _
      | exact grid_Square.mono _ _ _ _ _
      | exact grid_Steps.mono _ _ _ _ _
      | exact LeO.none _
      | refine LeO.ite ?_ ?_
      | refine LeO.bind ?_ (fun _ => ?_)
theorem barrowlaw06_GridAlike.mono : ∀ a0 a1 a2 a3 a4 k, LeO (barrowlaw06_GridAlike.f k a0 a1 a2 a3 a4) (barrowlaw06_GridAlike.f (k + 1) a0 a1 a2 a3 a4) := by
  intro a0 a1 a2 a3 a4 k
  have ih0 := barrowlaw06_GridAlike.mono_l k
  unfold barrowlaw06_GridAlike.f
  repeat' first
      | (with_reducible exact ih0 _ _ _ _ _ _ _ _)
      | (with_reducible exact barrowlaw06_small.mono _)
      | (with_reducible exact grid_Near.mono _ _ _ _ _ _)
      | (with_reducible exact grid_Square.mono _ _ _ _ _)
      | (with_reducible exact grid_Steps.mono _ _ _ _ _)
      | (with_reducible exact LeO.refl _)
      | (with_reducible exact LeO.none _)
      | (with_reducible refine LeO.ite ?_ ?_)
      | (with_reducible refine LeO.bind ?_ (fun _ => ?_))
      | exact ih0 _ _ _ _ _ _ _ _
      | exact barrowlaw06_small.mono _
      | exact grid_Near.mono _ _ _ _ _ _
      | exact grid_Square.mono _ _ _ _ _
      | exact grid_Steps.mono _ _ _ _ _
      | exact LeO.none _
      | refine LeO.ite ?_ ?_
      | refine LeO.bind ?_ (fun _ => ?_)
set_option maxHeartbeats 8000000 in
set_option maxRecDepth 100000 in
theorem barrowlaw06_GridAlike.calls (k : Nat) (a0_0 : Int) (a0_1 : Int) (a1_0 : Int) (a1_1 : Int) (a2 : Int) (r : Bool) (w : World) (h : barrowlaw06_GridAlike.f k a0_0 a0_1 a1_0 a1_1 a2 = some r) :
    Calls Try.prog 5 #[.agg #[.int .i64 a0_0, .int .i64 a0_1], .agg #[.int .i64 a1_0, .int .i64 a1_1], .int .i64 a2] w fun e w' => e = .returned (.bool r) ∧ Below w.heap.size w w' := by
  have hu23 := Try.underlying23
  have HB := Aside0.mk (Below.refl w.heap.size w)
  have H : ((barrowlaw06_small.f k).bind fun t233 => ((grid_Square.f k a0_0 a0_1 a1_0 a1_1).bind fun t234 => ((grid_Steps.f k a0_0 a0_1 a1_0 a1_1).bind fun t235 => ((grid_Square.f k a1_0 a1_1 a0_0 a0_1).bind fun t236 => (if t234 = t236 then ((grid_Steps.f k a1_0 a1_1 a0_0 a0_1).bind fun t237 => (if t235 = t237 then (if t234 < 0 then (barrowlaw06_GridAlike.j0 k a2 t233 t235 true a0_0 a0_1 a1_0 a1_1) else (if t235 < 0 then (barrowlaw06_GridAlike.j0 k a2 t233 t235 true a0_0 a0_1 a1_0 a1_1) else (if ((t234 == 0) != (a0_0 == a1_0 && (a0_1 == a1_1))) = true then (barrowlaw06_GridAlike.j0 k a2 t233 t235 true a0_0 a0_1 a1_0 a1_1) else (barrowlaw06_GridAlike.j0 k a2 t233 t235 ((t235 == 0) != (a0_0 == a1_0 && (a0_1 == a1_1))) a0_0 a0_1 a1_0 a1_1)))) else (barrowlaw06_GridAlike.j0 k a2 t233 t235 true a0_0 a0_1 a1_0 a1_1))) else (barrowlaw06_GridAlike.j0 k a2 t233 t235 true a0_0 a0_1 a1_0 a1_1)))))) = some r := h
  clear h
  replace H := Option.bind_eq_some_iff.mp H
  obtain ⟨t233, A40, H⟩ := H
  replace H : ((grid_Square.f k a0_0 a0_1 a1_0 a1_1).bind fun t234 => ((grid_Steps.f k a0_0 a0_1 a1_0 a1_1).bind fun t235 => ((grid_Square.f k a1_0 a1_1 a0_0 a0_1).bind fun t236 => (if t234 = t236 then ((grid_Steps.f k a1_0 a1_1 a0_0 a0_1).bind fun t237 => (if t235 = t237 then (if t234 < 0 then (barrowlaw06_GridAlike.j0 k a2 t233 t235 true a0_0 a0_1 a1_0 a1_1) else (if t235 < 0 then (barrowlaw06_GridAlike.j0 k a2 t233 t235 true a0_0 a0_1 a1_0 a1_1) else (if ((t234 == 0) != (a0_0 == a1_0 && (a0_1 == a1_1))) = true then (barrowlaw06_GridAlike.j0 k a2 t233 t235 true a0_0 a0_1 a1_0 a1_1) else (barrowlaw06_GridAlike.j0 k a2 t233 t235 ((t235 == 0) != (a0_0 == a1_0 && (a0_1 == a1_1))) a0_0 a0_1 a1_0 a1_1)))) else (barrowlaw06_GridAlike.j0 k a2 t233 t235 true a0_0 a0_1 a1_0 a1_1))) else (barrowlaw06_GridAlike.j0 k a2 t233 t235 true a0_0 a0_1 a1_0 a1_1))))) = some r := H
  have A4 := Aside0.mk A40
  clear A40
  replace H := Option.bind_eq_some_iff.mp H
  obtain ⟨t234, A50, H⟩ := H
  replace H : ((grid_Steps.f k a0_0 a0_1 a1_0 a1_1).bind fun t235 => ((grid_Square.f k a1_0 a1_1 a0_0 a0_1).bind fun t236 => (if t234 = t236 then ((grid_Steps.f k a1_0 a1_1 a0_0 a0_1).bind fun t237 => (if t235 = t237 then (if t234 < 0 then (barrowlaw06_GridAlike.j0 k a2 t233 t235 true a0_0 a0_1 a1_0 a1_1) else (if t235 < 0 then (barrowlaw06_GridAlike.j0 k a2 t233 t235 true a0_0 a0_1 a1_0 a1_1) else (if ((t234 == 0) != (a0_0 == a1_0 && (a0_1 == a1_1))) = true then (barrowlaw06_GridAlike.j0 k a2 t233 t235 true a0_0 a0_1 a1_0 a1_1) else (barrowlaw06_GridAlike.j0 k a2 t233 t235 ((t235 == 0) != (a0_0 == a1_0 && (a0_1 == a1_1))) a0_0 a0_1 a1_0 a1_1)))) else (barrowlaw06_GridAlike.j0 k a2 t233 t235 true a0_0 a0_1 a1_0 a1_1))) else (barrowlaw06_GridAlike.j0 k a2 t233 t235 true a0_0 a0_1 a1_0 a1_1)))) = some r := H
  have A5 := Aside0.mk A50
  clear A50
  replace H := Option.bind_eq_some_iff.mp H
  obtain ⟨t235, A60, H⟩ := H
  replace H : ((grid_Square.f k a1_0 a1_1 a0_0 a0_1).bind fun t236 => (if t234 = t236 then ((grid_Steps.f k a1_0 a1_1 a0_0 a0_1).bind fun t237 => (if t235 = t237 then (if t234 < 0 then (barrowlaw06_GridAlike.j0 k a2 t233 t235 true a0_0 a0_1 a1_0 a1_1) else (if t235 < 0 then (barrowlaw06_GridAlike.j0 k a2 t233 t235 true a0_0 a0_1 a1_0 a1_1) else (if ((t234 == 0) != (a0_0 == a1_0 && (a0_1 == a1_1))) = true then (barrowlaw06_GridAlike.j0 k a2 t233 t235 true a0_0 a0_1 a1_0 a1_1) else (barrowlaw06_GridAlike.j0 k a2 t233 t235 ((t235 == 0) != (a0_0 == a1_0 && (a0_1 == a1_1))) a0_0 a0_1 a1_0 a1_1)))) else (barrowlaw06_GridAlike.j0 k a2 t233 t235 true a0_0 a0_1 a1_0 a1_1))) else (barrowlaw06_GridAlike.j0 k a2 t233 t235 true a0_0 a0_1 a1_0 a1_1))) = some r := H
  have A6 := Aside0.mk A60
  clear A60
  have HC7 := Aside0.mk H
  clear H
  go_enter Try.func5, Try.ntmps5
  go_upto_region 4 with (first | ((with_reducible refine gate_dst (N := 3) rfl ?_); refine box_event ?hg (N := 3) ?hd (cs := #[.int .i64 a0_0, .int .i64 a0_1]) (t := 23) ?hr ?_; (case hd => rfl); (case hg => rfl); (case hr => first | (go_simp; done) | (go_simp; rfl)); intro gb231 hg w8 hbox hb; have n0_ := Aside0.mk (below_step (by repeat (first | (with_reducible first | exact HB.out | apply below_alloc | apply pw_below_drewN | apply below_drew1) | exact HB.out)) hb); have n1_ := Aside0.mk (hbox); have n2_ := Aside0.mk ((by rw [hg]; exact (below_size (by repeat (first | (with_reducible first | exact HB.out | apply below_alloc | apply pw_below_drewN | apply below_drew1) | exact HB.out))) : w.heap.size ≤ gb231)); have n3_ := Aside0.mk ((by rw [hg]; exact (below_size (by repeat (first | (with_reducible first | exact HB.out | apply below_alloc | apply pw_below_drewN | apply below_drew1) | exact HB.out))) : w.heap.size ≤ gb231)); clear HB; have HB := n0_; have BK231 := n1_; have GW231 := n2_; have GE231 := n3_; clear n0_ n1_ n2_ n3_; clear hb hbox hg) | ((with_reducible refine gate_dst (N := 4) rfl ?_); refine box_event ?hg (N := 4) ?hd (cs := #[.int .i64 a1_0, .int .i64 a1_1]) (t := 23) ?hr ?_; (case hd => rfl); (case hg => rfl); (case hr => first | (go_simp; done) | (go_simp; rfl)); intro gb232 hg w9 hbox hb; have n0_ := Aside0.mk (blk_below (g := gb231) (o := .cells #[.int .i64 a0_0, .int .i64 a0_1] 23 (0, 0)) (by (with_reducible repeat (first | refine blk_drewN ?_ _ | refine blk_drew ?_ | refine blk_alloc ?_ _)); exact BK231.out) hb); have n1_ := Aside0.mk (below_step (by repeat (first | (with_reducible first | exact HB.out | apply below_alloc | apply pw_below_drewN | apply below_drew1 | refine below_set ?_ GE231.out) | exact HB.out)) hb); have n2_ := Aside0.mk (hbox); have n3_ := Aside0.mk ((by rw [hg]; exact (below_size (by repeat (first | (with_reducible first | exact HB.out | apply below_alloc | apply pw_below_drewN | apply below_drew1 | refine below_set ?_ GE231.out) | exact HB.out))) : w.heap.size ≤ gb232)); have n4_ := Aside0.mk ((by rw [hg]; exact (below_size (by repeat (first | (with_reducible first | exact HB.out | apply below_alloc | apply pw_below_drewN | apply below_drew1 | refine below_set ?_ GE231.out) | exact HB.out))) : w.heap.size ≤ gb232)); have n5_ := Aside0.mk ((by rw [hg]; exact Nat.ne_of_lt (blk_lt (g := gb231) (o := .cells #[.int .i64 a0_0, .int .i64 a0_1] 23 (0, 0)) (by (with_reducible repeat (first | refine blk_drewN ?_ _ | refine blk_drew ?_ | refine blk_alloc ?_ _)); exact BK231.out)) : gb231 ≠ gb232)); have n6_ := Aside0.mk ((by rw [hg]; exact Nat.ne_of_gt (blk_lt (g := gb231) (o := .cells #[.int .i64 a0_0, .int .i64 a0_1] 23 (0, 0)) (by (with_reducible repeat (first | refine blk_drewN ?_ _ | refine blk_drew ?_ | refine blk_alloc ?_ _)); exact BK231.out)) : gb232 ≠ gb231)); clear BK231; clear HB; have BK231 := n0_; have HB := n1_; have BK232 := n2_; have GW232 := n3_; have GE232 := n4_; have NB231_232 := n5_; have NB232_231 := n6_; clear n0_ n1_ n2_ n3_ n4_ n5_ n6_; clear hb hbox hg) | ((with_reducible refine gate_callee (f := 7) rfl ?_); refine goesL_ (some 11) rfl rfl Try.func7 (by kernel_rfl) rfl #[] rfl (by (try simp only [List.map_toArray, List.map_cons, List.map_nil]); first | done | rfl | (simp only [List.length_drop, List.length_take]; rfl)) ?_; (with_reducible refine (barrowlaw06_small.calls k  t233 _ A4.out).mono ?_); rintro e w10 ⟨rfl, hb⟩; refine ⟨_, rfl, ?_⟩; have n0_ := Aside0.mk (blk_below (g := gb231) (o := .cells #[.int .i64 a0_0, .int .i64 a0_1] 23 (0, 0)) (by (with_reducible repeat (first | refine blk_drewN ?_ _ | refine blk_drew ?_ | refine blk_alloc ?_ _)); exact BK231.out) hb); have n1_ := Aside0.mk (blk_below (g := gb232) (o := .cells #[.int .i64 a1_0, .int .i64 a1_1] 23 (0, 0)) (by (with_reducible repeat (first | refine blk_drewN ?_ _ | refine blk_drew ?_ | refine blk_alloc ?_ _)); exact BK232.out) hb); have n2_ := Aside0.mk (below_step (by repeat (first | (with_reducible first | exact HB.out | apply below_alloc | apply pw_below_drewN | apply below_drew1 | refine below_set ?_ GE231.out | refine below_set ?_ GE232.out) | exact HB.out)) hb); clear BK231; clear BK232; clear HB; have BK231 := n0_; have BK232 := n1_; have HB := n2_; clear n0_ n1_ n2_; (try clear hb); (try clear hb2); (try clear hk); (try clear hi); have hnb11 := NB231_232.out; have hnc11 := NB232_231.out; have hcz12_0 : w10.cell? ⟨gb231, 0, none⟩ = some (.int .i64 a0_0) := (blk_cell BK231.out 0).trans rfl; have hcz12_1 : w10.cell? ⟨gb231, 1, none⟩ = some (.int .i64 a0_1) := (blk_cell BK231.out 1).trans rfl; have hfz12_0 := blk_frozen BK231.out 0; have hfz12_1 := blk_frozen BK231.out 1; have hcz13_0 : w10.cell? ⟨gb232, 0, none⟩ = some (.int .i64 a1_0) := (blk_cell BK232.out 0).trans rfl; have hcz13_1 : w10.cell? ⟨gb232, 1, none⟩ = some (.int .i64 a1_1) := (blk_cell BK232.out 1).trans rfl; have hfz13_0 := blk_frozen BK232.out 0; have hfz13_1 := blk_frozen BK232.out 1) | ((with_reducible refine gate_callee (f := 8) rfl ?_); refine goesL_ (some 14) rfl rfl Try.func8 (by kernel_rfl) rfl #[.agg #[.int .i64 a0_0, .int .i64 a0_1], .agg #[.int .i64 a1_0, .int .i64 a1_1]] rfl (by (try simp only [List.map_toArray, List.map_cons, List.map_nil]); first | done | rfl | (simp only [List.length_drop, List.length_take]; rfl)) ?_; (with_reducible refine (grid_Square.calls k a0_0 a0_1 a1_0 a1_1 t234 _ A5.out).mono ?_); rintro e w14 ⟨rfl, hb⟩; refine ⟨_, rfl, ?_⟩; have n0_ := Aside0.mk (blk_below (g := gb231) (o := .cells #[.int .i64 a0_0, .int .i64 a0_1] 23 (0, 0)) (by (with_reducible repeat (first | refine blk_drewN ?_ _ | refine blk_drew ?_ | refine blk_alloc ?_ _)); exact BK231.out) hb); have n1_ := Aside0.mk (blk_below (g := gb232) (o := .cells #[.int .i64 a1_0, .int .i64 a1_1] 23 (0, 0)) (by (with_reducible repeat (first | refine blk_drewN ?_ _ | refine blk_drew ?_ | refine blk_alloc ?_ _)); exact BK232.out) hb); have n2_ := Aside0.mk (below_step (by repeat (first | (with_reducible first | exact HB.out | apply below_alloc | apply pw_below_drewN | apply below_drew1 | refine below_set ?_ GE231.out | refine below_set ?_ GE232.out) | exact HB.out)) hb); clear BK231; clear BK232; clear HB; have BK231 := n0_; have BK232 := n1_; have HB := n2_; clear n0_ n1_ n2_; (try clear hb); (try clear hb2); (try clear hk); (try clear hi); have hcz15_0 : w14.cell? ⟨gb231, 0, none⟩ = some (.int .i64 a0_0) := (blk_cell BK231.out 0).trans rfl; have hcz15_1 : w14.cell? ⟨gb231, 1, none⟩ = some (.int .i64 a0_1) := (blk_cell BK231.out 1).trans rfl; have hfz15_0 := blk_frozen BK231.out 0; have hfz15_1 := blk_frozen BK231.out 1; have hcz16_0 : w14.cell? ⟨gb232, 0, none⟩ = some (.int .i64 a1_0) := (blk_cell BK232.out 0).trans rfl; have hcz16_1 : w14.cell? ⟨gb232, 1, none⟩ = some (.int .i64 a1_1) := (blk_cell BK232.out 1).trans rfl; have hfz16_0 := blk_frozen BK232.out 0; have hfz16_1 := blk_frozen BK232.out 1) | ((with_reducible refine gate_callee (f := 10) rfl ?_); refine goesL_ (some 17) rfl rfl Try.func10 (by kernel_rfl) rfl #[.agg #[.int .i64 a0_0, .int .i64 a0_1], .agg #[.int .i64 a1_0, .int .i64 a1_1]] rfl (by (try simp only [List.map_toArray, List.map_cons, List.map_nil]); first | done | rfl | (simp only [List.length_drop, List.length_take]; rfl)) ?_; (with_reducible refine (grid_Steps.calls k a0_0 a0_1 a1_0 a1_1 t235 _ A6.out).mono ?_); rintro e w17 ⟨rfl, hb⟩; refine ⟨_, rfl, ?_⟩; have n0_ := Aside0.mk (blk_below (g := gb231) (o := .cells #[.int .i64 a0_0, .int .i64 a0_1] 23 (0, 0)) (by (with_reducible repeat (first | refine blk_drewN ?_ _ | refine blk_drew ?_ | refine blk_alloc ?_ _)); exact BK231.out) hb); have n1_ := Aside0.mk (blk_below (g := gb232) (o := .cells #[.int .i64 a1_0, .int .i64 a1_1] 23 (0, 0)) (by (with_reducible repeat (first | refine blk_drewN ?_ _ | refine blk_drew ?_ | refine blk_alloc ?_ _)); exact BK232.out) hb); have n2_ := Aside0.mk (below_step (by repeat (first | (with_reducible first | exact HB.out | apply below_alloc | apply pw_below_drewN | apply below_drew1 | refine below_set ?_ GE231.out | refine below_set ?_ GE232.out) | exact HB.out)) hb); clear BK231; clear BK232; clear HB; have BK231 := n0_; have BK232 := n1_; have HB := n2_; clear n0_ n1_ n2_; (try clear hb); (try clear hb2); (try clear hk); (try clear hi)))
  (try simp only [Act.put, List.setIfInBounds_toArray, List.set_cons_zero, List.set_cons_succ])
  go_cut [53, 7] (fun v53 v7 wc => ∃ (kq : Nat) (x53_6 : Bool), v53 = .bool x53_6 ∧ v7 = .bool t233 ∧ Aside0 (barrowlaw06_GridAlike.j0 kq a2 t233 t235 x53_6 a0_0 a0_1 a1_0 a1_1 = some r) ∧ Aside0 (kq ≤ k) ∧ Aside0 (wc.heap[gb231]? = some (.cells #[.int .i64 a0_0, .int .i64 a0_1] 23 (0, 0))) ∧ Aside0 (wc.heap[gb232]? = some (.cells #[.int .i64 a1_0, .int .i64 a1_1] 23 (0, 0))) ∧ Aside0 (Below w.heap.size w wc))
  case first =>
    have H := HC7.out
    clear HC7
    replace H := Option.bind_eq_some_iff.mp H
    obtain ⟨t236, A180, H⟩ := H
    replace H : (if t234 = t236 then ((grid_Steps.f k a1_0 a1_1 a0_0 a0_1).bind fun t237 => (if t235 = t237 then (if t234 < 0 then (barrowlaw06_GridAlike.j0 k a2 t233 t235 true a0_0 a0_1 a1_0 a1_1) else (if t235 < 0 then (barrowlaw06_GridAlike.j0 k a2 t233 t235 true a0_0 a0_1 a1_0 a1_1) else (if ((t234 == 0) != (a0_0 == a1_0 && (a0_1 == a1_1))) = true then (barrowlaw06_GridAlike.j0 k a2 t233 t235 true a0_0 a0_1 a1_0 a1_1) else (barrowlaw06_GridAlike.j0 k a2 t233 t235 ((t235 == 0) != (a0_0 == a1_0 && (a0_1 == a1_1))) a0_0 a0_1 a1_0 a1_1)))) else (barrowlaw06_GridAlike.j0 k a2 t233 t235 true a0_0 a0_1 a1_0 a1_1))) else (barrowlaw06_GridAlike.j0 k a2 t233 t235 true a0_0 a0_1 a1_0 a1_1)) = some r := H
    have A18 := Aside0.mk A180
    clear A180
    by_cases c19 : t234 = t236
    · rw [if_pos c19] at H
      have c19b0 : (t234 == t236) = true := beq_iff_eq.mpr c19
      have c19b1 : (t234 != t236) = false := bne_eq_false_iff_eq.mpr c19
      clear c19
      (first | rw [c19b0] | (simp only [i64_w, i32_w]; rw [c19b0]) | skip)
      replace H := Option.bind_eq_some_iff.mp H
      obtain ⟨t237, A200, H⟩ := H
      replace H : (if t235 = t237 then (if t234 < 0 then (barrowlaw06_GridAlike.j0 k a2 t233 t235 true a0_0 a0_1 a1_0 a1_1) else (if t235 < 0 then (barrowlaw06_GridAlike.j0 k a2 t233 t235 true a0_0 a0_1 a1_0 a1_1) else (if ((t234 == 0) != (a0_0 == a1_0 && (a0_1 == a1_1))) = true then (barrowlaw06_GridAlike.j0 k a2 t233 t235 true a0_0 a0_1 a1_0 a1_1) else (barrowlaw06_GridAlike.j0 k a2 t233 t235 ((t235 == 0) != (a0_0 == a1_0 && (a0_1 == a1_1))) a0_0 a0_1 a1_0 a1_1)))) else (barrowlaw06_GridAlike.j0 k a2 t233 t235 true a0_0 a0_1 a1_0 a1_1)) = some r := H
      have A20 := Aside0.mk A200
      clear A200
      by_cases c21 : t235 = t237
      · rw [if_pos c21] at H
        have c21b0 : (t235 == t237) = true := beq_iff_eq.mpr c21
        have c21b1 : (t235 != t237) = false := bne_eq_false_iff_eq.mpr c21
        clear c21
        by_cases c22 : t234 < 0
        · rw [if_pos c22] at H
          have c22b0 : decide (t234 < 0) = true := decide_eq_true c22
          clear c22
          have H' := Aside0.mk H
          clear H
          have hnb23 := NB232_231.out
          have hnc23 := NB231_232.out
          have hcz24_0 : w17.cell? ⟨gb232, 0, none⟩ = some (.int .i64 a1_0) := (blk_cell BK232.out 0).trans rfl
          have hcz24_1 : w17.cell? ⟨gb232, 1, none⟩ = some (.int .i64 a1_1) := (blk_cell BK232.out 1).trans rfl
          have hfz24_0 := blk_frozen BK232.out 0
          have hfz24_1 := blk_frozen BK232.out 1
          have hcz25_0 : w17.cell? ⟨gb231, 0, none⟩ = some (.int .i64 a0_0) := (blk_cell BK231.out 0).trans rfl
          have hcz25_1 : w17.cell? ⟨gb231, 1, none⟩ = some (.int .i64 a0_1) := (blk_cell BK231.out 1).trans rfl
          have hfz25_0 := blk_frozen BK231.out 0
          have hfz25_1 := blk_frozen BK231.out 1
          go_wp2_with (first | ((with_reducible refine gate_callee (f := 8) rfl ?_); refine goesL_ (some 21) rfl rfl Try.func8 (by kernel_rfl) rfl #[.agg #[.int .i64 a1_0, .int .i64 a1_1], .agg #[.int .i64 a0_0, .int .i64 a0_1]] rfl (by (try simp only [List.map_toArray, List.map_cons, List.map_nil]); first | done | rfl | (simp only [List.length_drop, List.length_take]; rfl)) ?_; (with_reducible refine (grid_Square.calls k a1_0 a1_1 a0_0 a0_1 t236 _ A18.out).mono ?_); rintro e w26 ⟨rfl, hb⟩; refine ⟨_, rfl, ?_⟩; have n0_ := Aside0.mk (blk_below (g := gb231) (o := .cells #[.int .i64 a0_0, .int .i64 a0_1] 23 (0, 0)) (by (with_reducible repeat (first | refine blk_drewN ?_ _ | refine blk_drew ?_ | refine blk_alloc ?_ _)); exact BK231.out) hb); have n1_ := Aside0.mk (blk_below (g := gb232) (o := .cells #[.int .i64 a1_0, .int .i64 a1_1] 23 (0, 0)) (by (with_reducible repeat (first | refine blk_drewN ?_ _ | refine blk_drew ?_ | refine blk_alloc ?_ _)); exact BK232.out) hb); have n2_ := Aside0.mk (below_step (by repeat (first | (with_reducible first | exact HB.out | apply below_alloc | apply pw_below_drewN | apply below_drew1 | refine below_set ?_ GE231.out | refine below_set ?_ GE232.out) | exact HB.out)) hb); clear BK231; clear BK232; clear HB; have BK231 := n0_; have BK232 := n1_; have HB := n2_; clear n0_ n1_ n2_; (try clear hb); (try clear hb2); (try clear hk); (try clear hi); have hcz27_0 : w26.cell? ⟨gb232, 0, none⟩ = some (.int .i64 a1_0) := (blk_cell BK232.out 0).trans rfl; have hcz27_1 : w26.cell? ⟨gb232, 1, none⟩ = some (.int .i64 a1_1) := (blk_cell BK232.out 1).trans rfl; have hfz27_0 := blk_frozen BK232.out 0; have hfz27_1 := blk_frozen BK232.out 1; have hcz28_0 : w26.cell? ⟨gb231, 0, none⟩ = some (.int .i64 a0_0) := (blk_cell BK231.out 0).trans rfl; have hcz28_1 : w26.cell? ⟨gb231, 1, none⟩ = some (.int .i64 a0_1) := (blk_cell BK231.out 1).trans rfl; have hfz28_0 := blk_frozen BK231.out 0; have hfz28_1 := blk_frozen BK231.out 1) | (go_at_call 10; (with_reducible refine (grid_Steps.calls k a1_0 a1_1 a0_0 a0_1 t237 _ A20.out).mono ?_); rintro e w29 ⟨rfl, hb⟩; have n0_ := Aside0.mk (blk_below (g := gb231) (o := .cells #[.int .i64 a0_0, .int .i64 a0_1] 23 (0, 0)) (by (with_reducible repeat (first | refine blk_drewN ?_ _ | refine blk_drew ?_ | refine blk_alloc ?_ _)); exact BK231.out) hb); have n1_ := Aside0.mk (blk_below (g := gb232) (o := .cells #[.int .i64 a1_0, .int .i64 a1_1] 23 (0, 0)) (by (with_reducible repeat (first | refine blk_drewN ?_ _ | refine blk_drew ?_ | refine blk_alloc ?_ _)); exact BK232.out) hb); have n2_ := Aside0.mk (below_step (by repeat (first | (with_reducible first | exact HB.out | apply below_alloc | apply pw_below_drewN | apply below_drew1 | refine below_set ?_ GE231.out | refine below_set ?_ GE232.out) | exact HB.out)) hb); clear BK231; clear BK232; clear HB; have BK231 := n0_; have BK232 := n1_; have HB := n2_; clear n0_ n1_ n2_; (try clear hb); (try clear hb2); (try clear hk); (try clear hi)))
          go_meet
          case rel => exact ⟨_, (true), (by first | rfl | (simp; done) | (simp [*]; done)), (by first | rfl | (simp; done) | (simp [*]; done)), H', ⟨by first | omega | exact Nat.le_refl _⟩, ⟨by (with_reducible repeat (first | refine blk_drewN ?_ _ | refine blk_drew ?_ | refine blk_alloc ?_ _)); exact BK231.out⟩, ⟨by (with_reducible repeat (first | refine blk_drewN ?_ _ | refine blk_drew ?_ | refine blk_alloc ?_ _)); exact BK232.out⟩, ⟨by repeat (first | (with_reducible first | exact HB.out | apply below_alloc | apply pw_below_drewN | apply below_drew1 | refine below_set ?_ GE231.out | refine below_set ?_ GE232.out) | exact HB.out)⟩⟩
        · rw [if_neg c22] at H
          have c22b0 : decide (t234 < 0) = false := decide_eq_false c22
          clear c22
          by_cases c30 : t235 < 0
          · rw [if_pos c30] at H
            have c30b0 : decide (t235 < 0) = true := decide_eq_true c30
            clear c30
            have H' := Aside0.mk H
            clear H
            have hnb31 := NB232_231.out
            have hnc31 := NB231_232.out
            have hcz32_0 : w17.cell? ⟨gb232, 0, none⟩ = some (.int .i64 a1_0) := (blk_cell BK232.out 0).trans rfl
            have hcz32_1 : w17.cell? ⟨gb232, 1, none⟩ = some (.int .i64 a1_1) := (blk_cell BK232.out 1).trans rfl
            have hfz32_0 := blk_frozen BK232.out 0
            have hfz32_1 := blk_frozen BK232.out 1
            have hcz33_0 : w17.cell? ⟨gb231, 0, none⟩ = some (.int .i64 a0_0) := (blk_cell BK231.out 0).trans rfl
            have hcz33_1 : w17.cell? ⟨gb231, 1, none⟩ = some (.int .i64 a0_1) := (blk_cell BK231.out 1).trans rfl
            have hfz33_0 := blk_frozen BK231.out 0
            have hfz33_1 := blk_frozen BK231.out 1
            go_wp2_with (first | ((with_reducible refine gate_callee (f := 8) rfl ?_); refine goesL_ (some 21) rfl rfl Try.func8 (by kernel_rfl) rfl #[.agg #[.int .i64 a1_0, .int .i64 a1_1], .agg #[.int .i64 a0_0, .int .i64 a0_1]] rfl (by (try simp only [List.map_toArray, List.map_cons, List.map_nil]); first | done | rfl | (simp only [List.length_drop, List.length_take]; rfl)) ?_; (with_reducible refine (grid_Square.calls k a1_0 a1_1 a0_0 a0_1 t236 _ A18.out).mono ?_); rintro e w34 ⟨rfl, hb⟩; refine ⟨_, rfl, ?_⟩; have n0_ := Aside0.mk (blk_below (g := gb231) (o := .cells #[.int .i64 a0_0, .int .i64 a0_1] 23 (0, 0)) (by (with_reducible repeat (first | refine blk_drewN ?_ _ | refine blk_drew ?_ | refine blk_alloc ?_ _)); exact BK231.out) hb); have n1_ := Aside0.mk (blk_below (g := gb232) (o := .cells #[.int .i64 a1_0, .int .i64 a1_1] 23 (0, 0)) (by (with_reducible repeat (first | refine blk_drewN ?_ _ | refine blk_drew ?_ | refine blk_alloc ?_ _)); exact BK232.out) hb); have n2_ := Aside0.mk (below_step (by repeat (first | (with_reducible first | exact HB.out | apply below_alloc | apply pw_below_drewN | apply below_drew1 | refine below_set ?_ GE231.out | refine below_set ?_ GE232.out) | exact HB.out)) hb); clear BK231; clear BK232; clear HB; have BK231 := n0_; have BK232 := n1_; have HB := n2_; clear n0_ n1_ n2_; (try clear hb); (try clear hb2); (try clear hk); (try clear hi); have hcz35_0 : w34.cell? ⟨gb232, 0, none⟩ = some (.int .i64 a1_0) := (blk_cell BK232.out 0).trans rfl; have hcz35_1 : w34.cell? ⟨gb232, 1, none⟩ = some (.int .i64 a1_1) := (blk_cell BK232.out 1).trans rfl; have hfz35_0 := blk_frozen BK232.out 0; have hfz35_1 := blk_frozen BK232.out 1; have hcz36_0 : w34.cell? ⟨gb231, 0, none⟩ = some (.int .i64 a0_0) := (blk_cell BK231.out 0).trans rfl; have hcz36_1 : w34.cell? ⟨gb231, 1, none⟩ = some (.int .i64 a0_1) := (blk_cell BK231.out 1).trans rfl; have hfz36_0 := blk_frozen BK231.out 0; have hfz36_1 := blk_frozen BK231.out 1) | (go_at_call 10; (with_reducible refine (grid_Steps.calls k a1_0 a1_1 a0_0 a0_1 t237 _ A20.out).mono ?_); rintro e w37 ⟨rfl, hb⟩; have n0_ := Aside0.mk (blk_below (g := gb231) (o := .cells #[.int .i64 a0_0, .int .i64 a0_1] 23 (0, 0)) (by (with_reducible repeat (first | refine blk_drewN ?_ _ | refine blk_drew ?_ | refine blk_alloc ?_ _)); exact BK231.out) hb); have n1_ := Aside0.mk (blk_below (g := gb232) (o := .cells #[.int .i64 a1_0, .int .i64 a1_1] 23 (0, 0)) (by (with_reducible repeat (first | refine blk_drewN ?_ _ | refine blk_drew ?_ | refine blk_alloc ?_ _)); exact BK232.out) hb); have n2_ := Aside0.mk (below_step (by repeat (first | (with_reducible first | exact HB.out | apply below_alloc | apply pw_below_drewN | apply below_drew1 | refine below_set ?_ GE231.out | refine below_set ?_ GE232.out) | exact HB.out)) hb); clear BK231; clear BK232; clear HB; have BK231 := n0_; have BK232 := n1_; have HB := n2_; clear n0_ n1_ n2_; (try clear hb); (try clear hb2); (try clear hk); (try clear hi)))
            go_meet
            case rel => exact ⟨_, (true), (by first | rfl | (simp; done) | (simp [*]; done)), (by first | rfl | (simp; done) | (simp [*]; done)), H', ⟨by first | omega | exact Nat.le_refl _⟩, ⟨by (with_reducible repeat (first | refine blk_drewN ?_ _ | refine blk_drew ?_ | refine blk_alloc ?_ _)); exact BK231.out⟩, ⟨by (with_reducible repeat (first | refine blk_drewN ?_ _ | refine blk_drew ?_ | refine blk_alloc ?_ _)); exact BK232.out⟩, ⟨by repeat (first | (with_reducible first | exact HB.out | apply below_alloc | apply pw_below_drewN | apply below_drew1 | refine below_set ?_ GE231.out | refine below_set ?_ GE232.out) | exact HB.out)⟩⟩
          · rw [if_neg c30] at H
            have c30b0 : decide (t235 < 0) = false := decide_eq_false c30
            clear c30
            by_cases c38 : ((t234 == 0) != (a0_0 == a1_0 && (a0_1 == a1_1))) = true
            · rw [if_pos c38] at H
              have c38b0 : ((t234 == 0) != (a0_0 == a1_0 && (a0_1 == a1_1))) = true := c38
              (try (have c38b1 : decide ((t234 == 0) = (a0_0 == a1_0 && (a0_1 == a1_1))) = false := by simpa using c38))
              (try (have c38b2 : ((t234 == 0) == (a0_0 == a1_0 && (a0_1 == a1_1))) = false := by simpa using c38))
              (try (have c38b3 : ¬ ((t234 == 0) = (a0_0 == a1_0 && (a0_1 == a1_1))) := by simpa using c38))
              clear c38
              have H' := Aside0.mk H
              clear H
              have hnb39 := NB232_231.out
              have hnc39 := NB231_232.out
              have hcz40_0 : w17.cell? ⟨gb232, 0, none⟩ = some (.int .i64 a1_0) := (blk_cell BK232.out 0).trans rfl
              have hcz40_1 : w17.cell? ⟨gb232, 1, none⟩ = some (.int .i64 a1_1) := (blk_cell BK232.out 1).trans rfl
              have hfz40_0 := blk_frozen BK232.out 0
              have hfz40_1 := blk_frozen BK232.out 1
              have hcz41_0 : w17.cell? ⟨gb231, 0, none⟩ = some (.int .i64 a0_0) := (blk_cell BK231.out 0).trans rfl
              have hcz41_1 : w17.cell? ⟨gb231, 1, none⟩ = some (.int .i64 a0_1) := (blk_cell BK231.out 1).trans rfl
              have hfz41_0 := blk_frozen BK231.out 0
              have hfz41_1 := blk_frozen BK231.out 1
              go_wp2_with (first | ((with_reducible refine gate_callee (f := 8) rfl ?_); refine goesL_ (some 21) rfl rfl Try.func8 (by kernel_rfl) rfl #[.agg #[.int .i64 a1_0, .int .i64 a1_1], .agg #[.int .i64 a0_0, .int .i64 a0_1]] rfl (by (try simp only [List.map_toArray, List.map_cons, List.map_nil]); first | done | rfl | (simp only [List.length_drop, List.length_take]; rfl)) ?_; (with_reducible refine (grid_Square.calls k a1_0 a1_1 a0_0 a0_1 t236 _ A18.out).mono ?_); rintro e w42 ⟨rfl, hb⟩; refine ⟨_, rfl, ?_⟩; have n0_ := Aside0.mk (blk_below (g := gb231) (o := .cells #[.int .i64 a0_0, .int .i64 a0_1] 23 (0, 0)) (by (with_reducible repeat (first | refine blk_drewN ?_ _ | refine blk_drew ?_ | refine blk_alloc ?_ _)); exact BK231.out) hb); have n1_ := Aside0.mk (blk_below (g := gb232) (o := .cells #[.int .i64 a1_0, .int .i64 a1_1] 23 (0, 0)) (by (with_reducible repeat (first | refine blk_drewN ?_ _ | refine blk_drew ?_ | refine blk_alloc ?_ _)); exact BK232.out) hb); have n2_ := Aside0.mk (below_step (by repeat (first | (with_reducible first | exact HB.out | apply below_alloc | apply pw_below_drewN | apply below_drew1 | refine below_set ?_ GE231.out | refine below_set ?_ GE232.out) | exact HB.out)) hb); clear BK231; clear BK232; clear HB; have BK231 := n0_; have BK232 := n1_; have HB := n2_; clear n0_ n1_ n2_; (try clear hb); (try clear hb2); (try clear hk); (try clear hi); have hcz43_0 : w42.cell? ⟨gb232, 0, none⟩ = some (.int .i64 a1_0) := (blk_cell BK232.out 0).trans rfl; have hcz43_1 : w42.cell? ⟨gb232, 1, none⟩ = some (.int .i64 a1_1) := (blk_cell BK232.out 1).trans rfl; have hfz43_0 := blk_frozen BK232.out 0; have hfz43_1 := blk_frozen BK232.out 1; have hcz44_0 : w42.cell? ⟨gb231, 0, none⟩ = some (.int .i64 a0_0) := (blk_cell BK231.out 0).trans rfl; have hcz44_1 : w42.cell? ⟨gb231, 1, none⟩ = some (.int .i64 a0_1) := (blk_cell BK231.out 1).trans rfl; have hfz44_0 := blk_frozen BK231.out 0; have hfz44_1 := blk_frozen BK231.out 1) | (go_at_call 10; (with_reducible refine (grid_Steps.calls k a1_0 a1_1 a0_0 a0_1 t237 _ A20.out).mono ?_); rintro e w45 ⟨rfl, hb⟩; have n0_ := Aside0.mk (blk_below (g := gb231) (o := .cells #[.int .i64 a0_0, .int .i64 a0_1] 23 (0, 0)) (by (with_reducible repeat (first | refine blk_drewN ?_ _ | refine blk_drew ?_ | refine blk_alloc ?_ _)); exact BK231.out) hb); have n1_ := Aside0.mk (blk_below (g := gb232) (o := .cells #[.int .i64 a1_0, .int .i64 a1_1] 23 (0, 0)) (by (with_reducible repeat (first | refine blk_drewN ?_ _ | refine blk_drew ?_ | refine blk_alloc ?_ _)); exact BK232.out) hb); have n2_ := Aside0.mk (below_step (by repeat (first | (with_reducible first | exact HB.out | apply below_alloc | apply pw_below_drewN | apply below_drew1 | refine below_set ?_ GE231.out | refine below_set ?_ GE232.out) | exact HB.out)) hb); clear BK231; clear BK232; clear HB; have BK231 := n0_; have BK232 := n1_; have HB := n2_; clear n0_ n1_ n2_; (try clear hb); (try clear hb2); (try clear hk); (try clear hi); have hcz46_0 : w45.cell? ⟨gb231, 0, none⟩ = some (.int .i64 a0_0) := (blk_cell BK231.out 0).trans rfl; have hcz46_1 : w45.cell? ⟨gb231, 1, none⟩ = some (.int .i64 a0_1) := (blk_cell BK231.out 1).trans rfl; have hfz46_0 := blk_frozen BK231.out 0; have hfz46_1 := blk_frozen BK231.out 1; have hcz47_0 : w45.cell? ⟨gb232, 0, none⟩ = some (.int .i64 a1_0) := (blk_cell BK232.out 0).trans rfl; have hcz47_1 : w45.cell? ⟨gb232, 1, none⟩ = some (.int .i64 a1_1) := (blk_cell BK232.out 1).trans rfl; have hfz47_0 := blk_frozen BK232.out 0; have hfz47_1 := blk_frozen BK232.out 1))
              go_meet
              case rel => exact ⟨_, (true), (by first | rfl | (simp; done) | (simp [*]; done)), (by first | rfl | (simp; done) | (simp [*]; done)), H', ⟨by first | omega | exact Nat.le_refl _⟩, ⟨by (with_reducible repeat (first | refine blk_drewN ?_ _ | refine blk_drew ?_ | refine blk_alloc ?_ _)); exact BK231.out⟩, ⟨by (with_reducible repeat (first | refine blk_drewN ?_ _ | refine blk_drew ?_ | refine blk_alloc ?_ _)); exact BK232.out⟩, ⟨by repeat (first | (with_reducible first | exact HB.out | apply below_alloc | apply pw_below_drewN | apply below_drew1 | refine below_set ?_ GE231.out | refine below_set ?_ GE232.out) | exact HB.out)⟩⟩
            · rw [if_neg c38] at H
              have c38b0 : ((t234 == 0) != (a0_0 == a1_0 && (a0_1 == a1_1))) = false := by simpa using c38
              (try (have c38b1 : decide ((t234 == 0) = (a0_0 == a1_0 && (a0_1 == a1_1))) = true := by simpa using c38))
              (try (have c38b2 : ((t234 == 0) == (a0_0 == a1_0 && (a0_1 == a1_1))) = true := by simpa using c38))
              clear c38
              have H' := Aside0.mk H
              clear H
              have hnb48 := NB232_231.out
              have hnc48 := NB231_232.out
              have hcz49_0 : w17.cell? ⟨gb232, 0, none⟩ = some (.int .i64 a1_0) := (blk_cell BK232.out 0).trans rfl
              have hcz49_1 : w17.cell? ⟨gb232, 1, none⟩ = some (.int .i64 a1_1) := (blk_cell BK232.out 1).trans rfl
              have hfz49_0 := blk_frozen BK232.out 0
              have hfz49_1 := blk_frozen BK232.out 1
              have hcz50_0 : w17.cell? ⟨gb231, 0, none⟩ = some (.int .i64 a0_0) := (blk_cell BK231.out 0).trans rfl
              have hcz50_1 : w17.cell? ⟨gb231, 1, none⟩ = some (.int .i64 a0_1) := (blk_cell BK231.out 1).trans rfl
              have hfz50_0 := blk_frozen BK231.out 0
              have hfz50_1 := blk_frozen BK231.out 1
              go_wp2_with (first | ((with_reducible refine gate_callee (f := 8) rfl ?_); refine goesL_ (some 21) rfl rfl Try.func8 (by kernel_rfl) rfl #[.agg #[.int .i64 a1_0, .int .i64 a1_1], .agg #[.int .i64 a0_0, .int .i64 a0_1]] rfl (by (try simp only [List.map_toArray, List.map_cons, List.map_nil]); first | done | rfl | (simp only [List.length_drop, List.length_take]; rfl)) ?_; (with_reducible refine (grid_Square.calls k a1_0 a1_1 a0_0 a0_1 t236 _ A18.out).mono ?_); rintro e w51 ⟨rfl, hb⟩; refine ⟨_, rfl, ?_⟩; have n0_ := Aside0.mk (blk_below (g := gb231) (o := .cells #[.int .i64 a0_0, .int .i64 a0_1] 23 (0, 0)) (by (with_reducible repeat (first | refine blk_drewN ?_ _ | refine blk_drew ?_ | refine blk_alloc ?_ _)); exact BK231.out) hb); have n1_ := Aside0.mk (blk_below (g := gb232) (o := .cells #[.int .i64 a1_0, .int .i64 a1_1] 23 (0, 0)) (by (with_reducible repeat (first | refine blk_drewN ?_ _ | refine blk_drew ?_ | refine blk_alloc ?_ _)); exact BK232.out) hb); have n2_ := Aside0.mk (below_step (by repeat (first | (with_reducible first | exact HB.out | apply below_alloc | apply pw_below_drewN | apply below_drew1 | refine below_set ?_ GE231.out | refine below_set ?_ GE232.out) | exact HB.out)) hb); clear BK231; clear BK232; clear HB; have BK231 := n0_; have BK232 := n1_; have HB := n2_; clear n0_ n1_ n2_; (try clear hb); (try clear hb2); (try clear hk); (try clear hi); have hcz52_0 : w51.cell? ⟨gb232, 0, none⟩ = some (.int .i64 a1_0) := (blk_cell BK232.out 0).trans rfl; have hcz52_1 : w51.cell? ⟨gb232, 1, none⟩ = some (.int .i64 a1_1) := (blk_cell BK232.out 1).trans rfl; have hfz52_0 := blk_frozen BK232.out 0; have hfz52_1 := blk_frozen BK232.out 1; have hcz53_0 : w51.cell? ⟨gb231, 0, none⟩ = some (.int .i64 a0_0) := (blk_cell BK231.out 0).trans rfl; have hcz53_1 : w51.cell? ⟨gb231, 1, none⟩ = some (.int .i64 a0_1) := (blk_cell BK231.out 1).trans rfl; have hfz53_0 := blk_frozen BK231.out 0; have hfz53_1 := blk_frozen BK231.out 1) | (go_at_call 10; (with_reducible refine (grid_Steps.calls k a1_0 a1_1 a0_0 a0_1 t237 _ A20.out).mono ?_); rintro e w54 ⟨rfl, hb⟩; have n0_ := Aside0.mk (blk_below (g := gb231) (o := .cells #[.int .i64 a0_0, .int .i64 a0_1] 23 (0, 0)) (by (with_reducible repeat (first | refine blk_drewN ?_ _ | refine blk_drew ?_ | refine blk_alloc ?_ _)); exact BK231.out) hb); have n1_ := Aside0.mk (blk_below (g := gb232) (o := .cells #[.int .i64 a1_0, .int .i64 a1_1] 23 (0, 0)) (by (with_reducible repeat (first | refine blk_drewN ?_ _ | refine blk_drew ?_ | refine blk_alloc ?_ _)); exact BK232.out) hb); have n2_ := Aside0.mk (below_step (by repeat (first | (with_reducible first | exact HB.out | apply below_alloc | apply pw_below_drewN | apply below_drew1 | refine below_set ?_ GE231.out | refine below_set ?_ GE232.out) | exact HB.out)) hb); clear BK231; clear BK232; clear HB; have BK231 := n0_; have BK232 := n1_; have HB := n2_; clear n0_ n1_ n2_; (try clear hb); (try clear hb2); (try clear hk); (try clear hi); have hcz55_0 : w54.cell? ⟨gb231, 0, none⟩ = some (.int .i64 a0_0) := (blk_cell BK231.out 0).trans rfl; have hcz55_1 : w54.cell? ⟨gb231, 1, none⟩ = some (.int .i64 a0_1) := (blk_cell BK231.out 1).trans rfl; have hfz55_0 := blk_frozen BK231.out 0; have hfz55_1 := blk_frozen BK231.out 1; have hcz56_0 : w54.cell? ⟨gb232, 0, none⟩ = some (.int .i64 a1_0) := (blk_cell BK232.out 0).trans rfl; have hcz56_1 : w54.cell? ⟨gb232, 1, none⟩ = some (.int .i64 a1_1) := (blk_cell BK232.out 1).trans rfl; have hfz56_0 := blk_frozen BK232.out 0; have hfz56_1 := blk_frozen BK232.out 1))
              go_meet
              case rel => exact ⟨_, (((t235 == 0) != (a0_0 == a1_0 && (a0_1 == a1_1)))), (by first | rfl | (simp; done) | (simp [*]; done)), (by first | rfl | (simp; done) | (simp [*]; done)), H', ⟨by first | omega | exact Nat.le_refl _⟩, ⟨by (with_reducible repeat (first | refine blk_drewN ?_ _ | refine blk_drew ?_ | refine blk_alloc ?_ _)); exact BK231.out⟩, ⟨by (with_reducible repeat (first | refine blk_drewN ?_ _ | refine blk_drew ?_ | refine blk_alloc ?_ _)); exact BK232.out⟩, ⟨by repeat (first | (with_reducible first | exact HB.out | apply below_alloc | apply pw_below_drewN | apply below_drew1 | refine below_set ?_ GE231.out | refine below_set ?_ GE232.out) | exact HB.out)⟩⟩
      · rw [if_neg c21] at H
        have c21b0 : (t235 == t237) = false := beq_eq_false_iff_ne.mpr c21
        have c21b1 : (t235 != t237) = true := bne_iff_ne.mpr c21
        have H' := Aside0.mk H
        clear H
        have hnb57 := NB232_231.out
        have hnc57 := NB231_232.out
        have hcz58_0 : w17.cell? ⟨gb232, 0, none⟩ = some (.int .i64 a1_0) := (blk_cell BK232.out 0).trans rfl
        have hcz58_1 : w17.cell? ⟨gb232, 1, none⟩ = some (.int .i64 a1_1) := (blk_cell BK232.out 1).trans rfl
        have hfz58_0 := blk_frozen BK232.out 0
        have hfz58_1 := blk_frozen BK232.out 1
        have hcz59_0 : w17.cell? ⟨gb231, 0, none⟩ = some (.int .i64 a0_0) := (blk_cell BK231.out 0).trans rfl
        have hcz59_1 : w17.cell? ⟨gb231, 1, none⟩ = some (.int .i64 a0_1) := (blk_cell BK231.out 1).trans rfl
        have hfz59_0 := blk_frozen BK231.out 0
        have hfz59_1 := blk_frozen BK231.out 1
        go_wp2_with (first | ((with_reducible refine gate_callee (f := 8) rfl ?_); refine goesL_ (some 21) rfl rfl Try.func8 (by kernel_rfl) rfl #[.agg #[.int .i64 a1_0, .int .i64 a1_1], .agg #[.int .i64 a0_0, .int .i64 a0_1]] rfl (by (try simp only [List.map_toArray, List.map_cons, List.map_nil]); first | done | rfl | (simp only [List.length_drop, List.length_take]; rfl)) ?_; (with_reducible refine (grid_Square.calls k a1_0 a1_1 a0_0 a0_1 t236 _ A18.out).mono ?_); rintro e w60 ⟨rfl, hb⟩; refine ⟨_, rfl, ?_⟩; have n0_ := Aside0.mk (blk_below (g := gb231) (o := .cells #[.int .i64 a0_0, .int .i64 a0_1] 23 (0, 0)) (by (with_reducible repeat (first | refine blk_drewN ?_ _ | refine blk_drew ?_ | refine blk_alloc ?_ _)); exact BK231.out) hb); have n1_ := Aside0.mk (blk_below (g := gb232) (o := .cells #[.int .i64 a1_0, .int .i64 a1_1] 23 (0, 0)) (by (with_reducible repeat (first | refine blk_drewN ?_ _ | refine blk_drew ?_ | refine blk_alloc ?_ _)); exact BK232.out) hb); have n2_ := Aside0.mk (below_step (by repeat (first | (with_reducible first | exact HB.out | apply below_alloc | apply pw_below_drewN | apply below_drew1 | refine below_set ?_ GE231.out | refine below_set ?_ GE232.out) | exact HB.out)) hb); clear BK231; clear BK232; clear HB; have BK231 := n0_; have BK232 := n1_; have HB := n2_; clear n0_ n1_ n2_; (try clear hb); (try clear hb2); (try clear hk); (try clear hi); have hcz61_0 : w60.cell? ⟨gb232, 0, none⟩ = some (.int .i64 a1_0) := (blk_cell BK232.out 0).trans rfl; have hcz61_1 : w60.cell? ⟨gb232, 1, none⟩ = some (.int .i64 a1_1) := (blk_cell BK232.out 1).trans rfl; have hfz61_0 := blk_frozen BK232.out 0; have hfz61_1 := blk_frozen BK232.out 1; have hcz62_0 : w60.cell? ⟨gb231, 0, none⟩ = some (.int .i64 a0_0) := (blk_cell BK231.out 0).trans rfl; have hcz62_1 : w60.cell? ⟨gb231, 1, none⟩ = some (.int .i64 a0_1) := (blk_cell BK231.out 1).trans rfl; have hfz62_0 := blk_frozen BK231.out 0; have hfz62_1 := blk_frozen BK231.out 1) | (go_at_call 10; (with_reducible refine (grid_Steps.calls k a1_0 a1_1 a0_0 a0_1 t237 _ A20.out).mono ?_); rintro e w63 ⟨rfl, hb⟩; have n0_ := Aside0.mk (blk_below (g := gb231) (o := .cells #[.int .i64 a0_0, .int .i64 a0_1] 23 (0, 0)) (by (with_reducible repeat (first | refine blk_drewN ?_ _ | refine blk_drew ?_ | refine blk_alloc ?_ _)); exact BK231.out) hb); have n1_ := Aside0.mk (blk_below (g := gb232) (o := .cells #[.int .i64 a1_0, .int .i64 a1_1] 23 (0, 0)) (by (with_reducible repeat (first | refine blk_drewN ?_ _ | refine blk_drew ?_ | refine blk_alloc ?_ _)); exact BK232.out) hb); have n2_ := Aside0.mk (below_step (by repeat (first | (with_reducible first | exact HB.out | apply below_alloc | apply pw_below_drewN | apply below_drew1 | refine below_set ?_ GE231.out | refine below_set ?_ GE232.out) | exact HB.out)) hb); clear BK231; clear BK232; clear HB; have BK231 := n0_; have BK232 := n1_; have HB := n2_; clear n0_ n1_ n2_; (try clear hb); (try clear hb2); (try clear hk); (try clear hi)))
        go_meet
        case rel => exact ⟨_, (true), (by first | rfl | (simp; done) | (simp [*]; done)), (by first | rfl | (simp; done) | (simp [*]; done)), H', ⟨by first | omega | exact Nat.le_refl _⟩, ⟨by (with_reducible repeat (first | refine blk_drewN ?_ _ | refine blk_drew ?_ | refine blk_alloc ?_ _)); exact BK231.out⟩, ⟨by (with_reducible repeat (first | refine blk_drewN ?_ _ | refine blk_drew ?_ | refine blk_alloc ?_ _)); exact BK232.out⟩, ⟨by repeat (first | (with_reducible first | exact HB.out | apply below_alloc | apply pw_below_drewN | apply below_drew1 | refine below_set ?_ GE231.out | refine below_set ?_ GE232.out) | exact HB.out)⟩⟩
    · rw [if_neg c19] at H
      have c19b0 : (t234 == t236) = false := beq_eq_false_iff_ne.mpr c19
      have c19b1 : (t234 != t236) = true := bne_iff_ne.mpr c19
      (first | rw [c19b0] | (simp only [i64_w, i32_w]; rw [c19b0]) | skip)
      have H' := Aside0.mk H
      clear H
      have hnb64 := NB232_231.out
      have hnc64 := NB231_232.out
      have hcz65_0 : w17.cell? ⟨gb232, 0, none⟩ = some (.int .i64 a1_0) := (blk_cell BK232.out 0).trans rfl
      have hcz65_1 : w17.cell? ⟨gb232, 1, none⟩ = some (.int .i64 a1_1) := (blk_cell BK232.out 1).trans rfl
      have hfz65_0 := blk_frozen BK232.out 0
      have hfz65_1 := blk_frozen BK232.out 1
      have hcz66_0 : w17.cell? ⟨gb231, 0, none⟩ = some (.int .i64 a0_0) := (blk_cell BK231.out 0).trans rfl
      have hcz66_1 : w17.cell? ⟨gb231, 1, none⟩ = some (.int .i64 a0_1) := (blk_cell BK231.out 1).trans rfl
      have hfz66_0 := blk_frozen BK231.out 0
      have hfz66_1 := blk_frozen BK231.out 1
      go_wp2_with (first | ((with_reducible refine gate_callee (f := 8) rfl ?_); refine goesL_ (some 21) rfl rfl Try.func8 (by kernel_rfl) rfl #[.agg #[.int .i64 a1_0, .int .i64 a1_1], .agg #[.int .i64 a0_0, .int .i64 a0_1]] rfl (by (try simp only [List.map_toArray, List.map_cons, List.map_nil]); first | done | rfl | (simp only [List.length_drop, List.length_take]; rfl)) ?_; (with_reducible refine (grid_Square.calls k a1_0 a1_1 a0_0 a0_1 t236 _ A18.out).mono ?_); rintro e w67 ⟨rfl, hb⟩; refine ⟨_, rfl, ?_⟩; have n0_ := Aside0.mk (blk_below (g := gb231) (o := .cells #[.int .i64 a0_0, .int .i64 a0_1] 23 (0, 0)) (by (with_reducible repeat (first | refine blk_drewN ?_ _ | refine blk_drew ?_ | refine blk_alloc ?_ _)); exact BK231.out) hb); have n1_ := Aside0.mk (blk_below (g := gb232) (o := .cells #[.int .i64 a1_0, .int .i64 a1_1] 23 (0, 0)) (by (with_reducible repeat (first | refine blk_drewN ?_ _ | refine blk_drew ?_ | refine blk_alloc ?_ _)); exact BK232.out) hb); have n2_ := Aside0.mk (below_step (by repeat (first | (with_reducible first | exact HB.out | apply below_alloc | apply pw_below_drewN | apply below_drew1 | refine below_set ?_ GE231.out | refine below_set ?_ GE232.out) | exact HB.out)) hb); clear BK231; clear BK232; clear HB; have BK231 := n0_; have BK232 := n1_; have HB := n2_; clear n0_ n1_ n2_; (try clear hb); (try clear hb2); (try clear hk); (try clear hi)))
      go_meet
      case rel => exact ⟨_, (true), (by first | rfl | (simp; done) | (simp [*]; done)), (by first | rfl | (simp; done) | (simp [*]; done)), H', ⟨by first | omega | exact Nat.le_refl _⟩, ⟨by (with_reducible repeat (first | refine blk_drewN ?_ _ | refine blk_drew ?_ | refine blk_alloc ?_ _)); exact BK231.out⟩, ⟨by (with_reducible repeat (first | refine blk_drewN ?_ _ | refine blk_drew ?_ | refine blk_alloc ?_ _)); exact BK232.out⟩, ⟨by repeat (first | (with_reducible first | exact HB.out | apply below_alloc | apply pw_below_drewN | apply below_drew1 | refine below_set ?_ GE231.out | refine below_set ?_ GE232.out) | exact HB.out)⟩⟩
  case rest =>
    clear HC7
    try clear c1
    try clear c2
    try clear p2
    try clear c3
    try clear c4
    try clear c5
    try clear c6
    try clear c7
    try clear c8
    try clear c10
    try clear c11
    try clear c19
    try clear c19b0
    try clear c19b1
    try clear c21
    try clear c21b0
    try clear c21b1
    try clear c22
    try clear c22b0
    try clear c23
    try clear c30
    try clear c30b0
    try clear c31
    try clear c38
    try clear c38b0
    try clear c38b1
    try clear c38b2
    try clear c39
    try clear c48
    try clear c57
    try clear c64
    try clear hcz12_0
    try clear hcz12_1
    try clear hcz13_0
    try clear hcz13_1
    try clear hcz15_0
    try clear hcz15_1
    try clear hcz16_0
    try clear hcz16_1
    try clear hcz24_0
    try clear hcz24_1
    try clear hcz25_0
    try clear hcz25_1
    try clear hcz27_0
    try clear hcz27_1
    try clear hcz28_0
    try clear hcz28_1
    try clear hcz32_0
    try clear hcz32_1
    try clear hcz33_0
    try clear hcz33_1
    try clear hcz35_0
    try clear hcz35_1
    try clear hcz36_0
    try clear hcz36_1
    try clear hcz40_0
    try clear hcz40_1
    try clear hcz41_0
    try clear hcz41_1
    try clear hcz43_0
    try clear hcz43_1
    try clear hcz44_0
    try clear hcz44_1
    try clear hcz46_0
    try clear hcz46_1
    try clear hcz47_0
    try clear hcz47_1
    try clear hcz49_0
    try clear hcz49_1
    try clear hcz50_0
    try clear hcz50_1
    try clear hcz52_0
    try clear hcz52_1
    try clear hcz53_0
    try clear hcz53_1
    try clear hcz55_0
    try clear hcz55_1
    try clear hcz56_0
    try clear hcz56_1
    try clear hcz58_0
    try clear hcz58_1
    try clear hcz59_0
    try clear hcz59_1
    try clear hcz61_0
    try clear hcz61_1
    try clear hcz62_0
    try clear hcz62_1
    try clear hcz65_0
    try clear hcz65_1
    try clear hcz66_0
    try clear hcz66_1
    try clear hfz12_0
    try clear hfz12_1
    try clear hfz13_0
    try clear hfz13_1
    try clear hfz15_0
    try clear hfz15_1
    try clear hfz16_0
    try clear hfz16_1
    try clear hfz24_0
    try clear hfz24_1
    try clear hfz25_0
    try clear hfz25_1
    try clear hfz27_0
    try clear hfz27_1
    try clear hfz28_0
    try clear hfz28_1
    try clear hfz32_0
    try clear hfz32_1
    try clear hfz33_0
    try clear hfz33_1
    try clear hfz35_0
    try clear hfz35_1
    try clear hfz36_0
    try clear hfz36_1
    try clear hfz40_0
    try clear hfz40_1
    try clear hfz41_0
    try clear hfz41_1
    try clear hfz43_0
    try clear hfz43_1
    try clear hfz44_0
    try clear hfz44_1
    try clear hfz46_0
    try clear hfz46_1
    try clear hfz47_0
    try clear hfz47_1
    try clear hfz49_0
    try clear hfz49_1
    try clear hfz50_0
    try clear hfz50_1
    try clear hfz52_0
    try clear hfz52_1
    try clear hfz53_0
    try clear hfz53_1
    try clear hfz55_0
    try clear hfz55_1
    try clear hfz56_0
    try clear hfz56_1
    try clear hfz58_0
    try clear hfz58_1
    try clear hfz59_0
    try clear hfz59_1
    try clear hfz61_0
    try clear hfz61_1
    try clear hfz62_0
    try clear hfz62_1
    try clear hfz65_0
    try clear hfz65_1
    try clear hfz66_0
    try clear hfz66_1
    obtain ⟨kq, x53_6, rfl, rfl, HA, HJ6, BK231, BK232, HB⟩ := hcut
    cases kq with
    | zero => exact absurd HA.out (by simp [barrowlaw06_GridAlike.j0])
    | succ kj6 =>
      have H := HA.out
      clear HA
      simp only [barrowlaw06_GridAlike.j0] at H
      by_cases c68 : x53_6 = true
      · subst c68
        have H1 : (none) = some r := by rw [if_pos rfl] at H; exact H
        clear H
        have H := H1
        clear H1
        exact absurd H (by simp)
      · replace c68 := Bool.eq_false_iff.mpr c68
        subst c68
        have H1 : (if a2 < 0 then (if t233 = true then ((grid_Near.f kj6 a0_0 a0_1 a1_0 a1_1 a2).bind fun t238 => (some (!t238))) else (none)) else ((grid_Near.f kj6 a0_0 a0_1 a1_0 a1_1 a2).bind fun t239 => (if t233 = true then ((grid_Near.f kj6 a1_0 a1_1 a0_0 a0_1 a2).bind fun t240 => (if (t239 == t240) = true then (if t239 = true then (if a2 > 2147483648 then (if (!(a0_0 == a1_0) || (!(a0_1 == a1_1))) = true then (some true) else (some true)) else (if t235 ≤ a2 then (if (!(a0_0 == a1_0) || (!(a0_1 == a1_1))) = true then (some true) else (some true)) else (none))) else (if (!(a0_0 == a1_0) || (!(a0_1 == a1_1))) = true then (some true) else (none))) else (none))) else (none)))) = some r := by rw [if_neg (show ¬ (false = true) by decide)] at H; exact H
        clear H
        have H := H1
        clear H1
        by_cases c69 : a2 < 0
        · rw [if_pos c69] at H
          have c69b0 : decide (a2 < 0) = true := decide_eq_true c69
          clear c69
          by_cases c70 : t233 = true
          · subst c70
            have H1 : ((grid_Near.f kj6 a0_0 a0_1 a1_0 a1_1 a2).bind fun t238 => (some (!t238))) = some r := by rw [if_pos rfl] at H; exact H
            clear H
            have H := H1
            clear H1
            replace H := Option.bind_eq_some_iff.mp H
            obtain ⟨t238, A710, H⟩ := H
            replace H : (some (!t238)) = some r := H
            have A71 := Aside0.mk A710
            clear A710
            obtain rfl := Option.some.inj H
            have hnb72 := NB231_232.out
            have hnc72 := NB232_231.out
            have hcz73_0 : wc.cell? ⟨gb231, 0, none⟩ = some (.int .i64 a0_0) := (blk_cell BK231.out 0).trans rfl
            have hcz73_1 : wc.cell? ⟨gb231, 1, none⟩ = some (.int .i64 a0_1) := (blk_cell BK231.out 1).trans rfl
            have hfz73_0 := blk_frozen BK231.out 0
            have hfz73_1 := blk_frozen BK231.out 1
            have hcz74_0 : wc.cell? ⟨gb232, 0, none⟩ = some (.int .i64 a1_0) := (blk_cell BK232.out 0).trans rfl
            have hcz74_1 : wc.cell? ⟨gb232, 1, none⟩ = some (.int .i64 a1_1) := (blk_cell BK232.out 1).trans rfl
            have hfz74_0 := blk_frozen BK232.out 0
            have hfz74_1 := blk_frozen BK232.out 1
            go_wp2_with (first | (go_at_call 12; (with_reducible refine calls_of_args (args' := #[_, _, .int .i64 a2]) rfl ?_); (with_reducible refine (grid_Near.calls kj6 a0_0 a0_1 a1_0 a1_1 a2 t238 _ A71.out).mono ?_); rintro e w75 ⟨rfl, hb⟩; have n0_ := Aside0.mk (blk_below (g := gb231) (o := .cells #[.int .i64 a0_0, .int .i64 a0_1] 23 (0, 0)) (by (with_reducible repeat (first | refine blk_drewN ?_ _ | refine blk_drew ?_ | refine blk_alloc ?_ _)); exact BK231.out) hb); have n1_ := Aside0.mk (blk_below (g := gb232) (o := .cells #[.int .i64 a1_0, .int .i64 a1_1] 23 (0, 0)) (by (with_reducible repeat (first | refine blk_drewN ?_ _ | refine blk_drew ?_ | refine blk_alloc ?_ _)); exact BK232.out) hb); have n2_ := Aside0.mk (below_step (by repeat (first | (with_reducible first | exact HB.out | apply below_alloc | apply pw_below_drewN | apply below_drew1 | refine below_set ?_ GE231.out | refine below_set ?_ GE232.out) | exact HB.out)) hb); clear BK231; clear BK232; clear HB; have BK231 := n0_; have BK232 := n1_; have HB := n2_; clear n0_ n1_ n2_; (try clear hb); (try clear hb2); (try clear hk); (try clear hi)))
            go_ret
            exact ⟨by first | rfl | (simp [errW_none, errW_some] <;> rfl) | (simp [*, errW_none, errW_some] <;> rfl), by repeat (first | (with_reducible first | exact HB.out | apply below_alloc | apply pw_below_drewN | apply below_drew1 | refine below_set ?_ GE231.out | refine below_set ?_ GE232.out) | exact HB.out)⟩
          · replace c70 := Bool.eq_false_iff.mpr c70
            subst c70
            have H1 : (none) = some r := by rw [if_neg (show ¬ (false = true) by decide)] at H; exact H
            clear H
            have H := H1
            clear H1
            exact absurd H (by simp)
        · rw [if_neg c69] at H
          have c69b0 : decide (a2 < 0) = false := decide_eq_false c69
          clear c69
          replace H := Option.bind_eq_some_iff.mp H
          obtain ⟨t239, A760, H⟩ := H
          replace H : (if t233 = true then ((grid_Near.f kj6 a1_0 a1_1 a0_0 a0_1 a2).bind fun t240 => (if (t239 == t240) = true then (if t239 = true then (if a2 > 2147483648 then (if (!(a0_0 == a1_0) || (!(a0_1 == a1_1))) = true then (some true) else (some true)) else (if t235 ≤ a2 then (if (!(a0_0 == a1_0) || (!(a0_1 == a1_1))) = true then (some true) else (some true)) else (none))) else (if (!(a0_0 == a1_0) || (!(a0_1 == a1_1))) = true then (some true) else (none))) else (none))) else (none)) = some r := H
          have A76 := Aside0.mk A760
          clear A760
          by_cases c77 : t233 = true
          · subst c77
            have H1 : ((grid_Near.f kj6 a1_0 a1_1 a0_0 a0_1 a2).bind fun t240 => (if (t239 == t240) = true then (if t239 = true then (if a2 > 2147483648 then (if (!(a0_0 == a1_0) || (!(a0_1 == a1_1))) = true then (some true) else (some true)) else (if t235 ≤ a2 then (if (!(a0_0 == a1_0) || (!(a0_1 == a1_1))) = true then (some true) else (some true)) else (none))) else (if (!(a0_0 == a1_0) || (!(a0_1 == a1_1))) = true then (some true) else (none))) else (none))) = some r := by rw [if_pos rfl] at H; exact H
            clear H
            have H := H1
            clear H1
            replace H := Option.bind_eq_some_iff.mp H
            obtain ⟨t240, A780, H⟩ := H
            replace H : (if (t239 == t240) = true then (if t239 = true then (if a2 > 2147483648 then (if (!(a0_0 == a1_0) || (!(a0_1 == a1_1))) = true then (some true) else (some true)) else (if t235 ≤ a2 then (if (!(a0_0 == a1_0) || (!(a0_1 == a1_1))) = true then (some true) else (some true)) else (none))) else (if (!(a0_0 == a1_0) || (!(a0_1 == a1_1))) = true then (some true) else (none))) else (none)) = some r := H
            have A78 := Aside0.mk A780
            clear A780
            by_cases c79 : (t239 == t240) = true
            · rw [if_pos c79] at H
              have c79b0 : (t239 == t240) = true := c79
              (try (have c79b1 : decide (t239 = t240) = true := by simpa using c79))
              (try (have c79b2 : (t239 == t240) = true := by simpa using c79))
              clear c79
              by_cases c80 : t239 = true
              · subst c80
                have H1 : (if a2 > 2147483648 then (if (!(a0_0 == a1_0) || (!(a0_1 == a1_1))) = true then (some true) else (some true)) else (if t235 ≤ a2 then (if (!(a0_0 == a1_0) || (!(a0_1 == a1_1))) = true then (some true) else (some true)) else (none))) = some r := by rw [if_pos rfl] at H; exact H
                clear H
                have H := H1
                clear H1
                by_cases c81 : a2 > 2147483648
                · rw [if_pos c81] at H
                  have c81b0 : decide (2147483648 < a2) = true := decide_eq_true c81
                  clear c81
                  by_cases c82 : (!(a0_0 == a1_0) || (!(a0_1 == a1_1))) = true
                  · rw [if_pos c82] at H
                    have c82b0 : (!(a0_0 == a1_0) || (!(a0_1 == a1_1))) = true := c82
                    clear c82
                    obtain rfl := Option.some.inj H
                    have hnb83 := NB231_232.out
                    have hnc83 := NB232_231.out
                    have hcz84_0 : wc.cell? ⟨gb231, 0, none⟩ = some (.int .i64 a0_0) := (blk_cell BK231.out 0).trans rfl
                    have hcz84_1 : wc.cell? ⟨gb231, 1, none⟩ = some (.int .i64 a0_1) := (blk_cell BK231.out 1).trans rfl
                    have hfz84_0 := blk_frozen BK231.out 0
                    have hfz84_1 := blk_frozen BK231.out 1
                    have hcz85_0 : wc.cell? ⟨gb232, 0, none⟩ = some (.int .i64 a1_0) := (blk_cell BK232.out 0).trans rfl
                    have hcz85_1 : wc.cell? ⟨gb232, 1, none⟩ = some (.int .i64 a1_1) := (blk_cell BK232.out 1).trans rfl
                    have hfz85_0 := blk_frozen BK232.out 0
                    have hfz85_1 := blk_frozen BK232.out 1
                    go_wp2_with (first | ((with_reducible refine gate_callee (f := 12) rfl ?_); refine goesL_ (some 67) rfl rfl Try.func12 (by kernel_rfl) rfl #[.agg #[.int .i64 a0_0, .int .i64 a0_1], .agg #[.int .i64 a1_0, .int .i64 a1_1], .int .i64 a2] rfl (by (try simp only [List.map_toArray, List.map_cons, List.map_nil]); first | done | rfl | (simp only [List.length_drop, List.length_take]; rfl)) ?_; (with_reducible refine (grid_Near.calls kj6 a0_0 a0_1 a1_0 a1_1 a2 true _ A76.out).mono ?_); rintro e w86 ⟨rfl, hb⟩; refine ⟨_, rfl, ?_⟩; have n0_ := Aside0.mk (blk_below (g := gb231) (o := .cells #[.int .i64 a0_0, .int .i64 a0_1] 23 (0, 0)) (by (with_reducible repeat (first | refine blk_drewN ?_ _ | refine blk_drew ?_ | refine blk_alloc ?_ _)); exact BK231.out) hb); have n1_ := Aside0.mk (blk_below (g := gb232) (o := .cells #[.int .i64 a1_0, .int .i64 a1_1] 23 (0, 0)) (by (with_reducible repeat (first | refine blk_drewN ?_ _ | refine blk_drew ?_ | refine blk_alloc ?_ _)); exact BK232.out) hb); have n2_ := Aside0.mk (below_step (by repeat (first | (with_reducible first | exact HB.out | apply below_alloc | apply pw_below_drewN | apply below_drew1 | refine below_set ?_ GE231.out | refine below_set ?_ GE232.out) | exact HB.out)) hb); clear BK231; clear BK232; clear HB; have BK231 := n0_; have BK232 := n1_; have HB := n2_; clear n0_ n1_ n2_; (try clear hb); (try clear hb2); (try clear hk); (try clear hi); have hcz87_0 : w86.cell? ⟨gb232, 0, none⟩ = some (.int .i64 a1_0) := (blk_cell BK232.out 0).trans rfl; have hcz87_1 : w86.cell? ⟨gb232, 1, none⟩ = some (.int .i64 a1_1) := (blk_cell BK232.out 1).trans rfl; have hfz87_0 := blk_frozen BK232.out 0; have hfz87_1 := blk_frozen BK232.out 1; have hcz88_0 : w86.cell? ⟨gb231, 0, none⟩ = some (.int .i64 a0_0) := (blk_cell BK231.out 0).trans rfl; have hcz88_1 : w86.cell? ⟨gb231, 1, none⟩ = some (.int .i64 a0_1) := (blk_cell BK231.out 1).trans rfl; have hfz88_0 := blk_frozen BK231.out 0; have hfz88_1 := blk_frozen BK231.out 1) | (go_at_call 12; (with_reducible refine calls_of_args (args' := #[_, _, .int .i64 a2]) rfl ?_); (with_reducible refine (grid_Near.calls kj6 a1_0 a1_1 a0_0 a0_1 a2 t240 _ A78.out).mono ?_); rintro e w89 ⟨rfl, hb⟩; have n0_ := Aside0.mk (blk_below (g := gb231) (o := .cells #[.int .i64 a0_0, .int .i64 a0_1] 23 (0, 0)) (by (with_reducible repeat (first | refine blk_drewN ?_ _ | refine blk_drew ?_ | refine blk_alloc ?_ _)); exact BK231.out) hb); have n1_ := Aside0.mk (blk_below (g := gb232) (o := .cells #[.int .i64 a1_0, .int .i64 a1_1] 23 (0, 0)) (by (with_reducible repeat (first | refine blk_drewN ?_ _ | refine blk_drew ?_ | refine blk_alloc ?_ _)); exact BK232.out) hb); have n2_ := Aside0.mk (below_step (by repeat (first | (with_reducible first | exact HB.out | apply below_alloc | apply pw_below_drewN | apply below_drew1 | refine below_set ?_ GE231.out | refine below_set ?_ GE232.out) | exact HB.out)) hb); clear BK231; clear BK232; clear HB; have BK231 := n0_; have BK232 := n1_; have HB := n2_; clear n0_ n1_ n2_; (try clear hb); (try clear hb2); (try clear hk); (try clear hi); have hcz90_0 : w89.cell? ⟨gb231, 0, none⟩ = some (.int .i64 a0_0) := (blk_cell BK231.out 0).trans rfl; have hcz90_1 : w89.cell? ⟨gb231, 1, none⟩ = some (.int .i64 a0_1) := (blk_cell BK231.out 1).trans rfl; have hfz90_0 := blk_frozen BK231.out 0; have hfz90_1 := blk_frozen BK231.out 1; have hcz91_0 : w89.cell? ⟨gb232, 0, none⟩ = some (.int .i64 a1_0) := (blk_cell BK232.out 0).trans rfl; have hcz91_1 : w89.cell? ⟨gb232, 1, none⟩ = some (.int .i64 a1_1) := (blk_cell BK232.out 1).trans rfl; have hfz91_0 := blk_frozen BK232.out 0; have hfz91_1 := blk_frozen BK232.out 1))
                    go_ret
                    exact ⟨by first | rfl | (simp [errW_none, errW_some] <;> rfl) | (simp [*, errW_none, errW_some] <;> rfl), by repeat (first | (with_reducible first | exact HB.out | apply below_alloc | apply pw_below_drewN | apply below_drew1 | refine below_set ?_ GE231.out | refine below_set ?_ GE232.out) | exact HB.out)⟩
                  · rw [if_neg c82] at H
                    have c82b0 : (!(a0_0 == a1_0) || (!(a0_1 == a1_1))) = false := by simpa using c82
                    clear c82
                    obtain rfl := Option.some.inj H
                    have hnb92 := NB231_232.out
                    have hnc92 := NB232_231.out
                    have hcz93_0 : wc.cell? ⟨gb231, 0, none⟩ = some (.int .i64 a0_0) := (blk_cell BK231.out 0).trans rfl
                    have hcz93_1 : wc.cell? ⟨gb231, 1, none⟩ = some (.int .i64 a0_1) := (blk_cell BK231.out 1).trans rfl
                    have hfz93_0 := blk_frozen BK231.out 0
                    have hfz93_1 := blk_frozen BK231.out 1
                    have hcz94_0 : wc.cell? ⟨gb232, 0, none⟩ = some (.int .i64 a1_0) := (blk_cell BK232.out 0).trans rfl
                    have hcz94_1 : wc.cell? ⟨gb232, 1, none⟩ = some (.int .i64 a1_1) := (blk_cell BK232.out 1).trans rfl
                    have hfz94_0 := blk_frozen BK232.out 0
                    have hfz94_1 := blk_frozen BK232.out 1
                    go_wp2_with (first | ((with_reducible refine gate_callee (f := 12) rfl ?_); refine goesL_ (some 67) rfl rfl Try.func12 (by kernel_rfl) rfl #[.agg #[.int .i64 a0_0, .int .i64 a0_1], .agg #[.int .i64 a1_0, .int .i64 a1_1], .int .i64 a2] rfl (by (try simp only [List.map_toArray, List.map_cons, List.map_nil]); first | done | rfl | (simp only [List.length_drop, List.length_take]; rfl)) ?_; (with_reducible refine (grid_Near.calls kj6 a0_0 a0_1 a1_0 a1_1 a2 true _ A76.out).mono ?_); rintro e w95 ⟨rfl, hb⟩; refine ⟨_, rfl, ?_⟩; have n0_ := Aside0.mk (blk_below (g := gb231) (o := .cells #[.int .i64 a0_0, .int .i64 a0_1] 23 (0, 0)) (by (with_reducible repeat (first | refine blk_drewN ?_ _ | refine blk_drew ?_ | refine blk_alloc ?_ _)); exact BK231.out) hb); have n1_ := Aside0.mk (blk_below (g := gb232) (o := .cells #[.int .i64 a1_0, .int .i64 a1_1] 23 (0, 0)) (by (with_reducible repeat (first | refine blk_drewN ?_ _ | refine blk_drew ?_ | refine blk_alloc ?_ _)); exact BK232.out) hb); have n2_ := Aside0.mk (below_step (by repeat (first | (with_reducible first | exact HB.out | apply below_alloc | apply pw_below_drewN | apply below_drew1 | refine below_set ?_ GE231.out | refine below_set ?_ GE232.out) | exact HB.out)) hb); clear BK231; clear BK232; clear HB; have BK231 := n0_; have BK232 := n1_; have HB := n2_; clear n0_ n1_ n2_; (try clear hb); (try clear hb2); (try clear hk); (try clear hi); have hcz96_0 : w95.cell? ⟨gb232, 0, none⟩ = some (.int .i64 a1_0) := (blk_cell BK232.out 0).trans rfl; have hcz96_1 : w95.cell? ⟨gb232, 1, none⟩ = some (.int .i64 a1_1) := (blk_cell BK232.out 1).trans rfl; have hfz96_0 := blk_frozen BK232.out 0; have hfz96_1 := blk_frozen BK232.out 1; have hcz97_0 : w95.cell? ⟨gb231, 0, none⟩ = some (.int .i64 a0_0) := (blk_cell BK231.out 0).trans rfl; have hcz97_1 : w95.cell? ⟨gb231, 1, none⟩ = some (.int .i64 a0_1) := (blk_cell BK231.out 1).trans rfl; have hfz97_0 := blk_frozen BK231.out 0; have hfz97_1 := blk_frozen BK231.out 1) | (go_at_call 12; (with_reducible refine calls_of_args (args' := #[_, _, .int .i64 a2]) rfl ?_); (with_reducible refine (grid_Near.calls kj6 a1_0 a1_1 a0_0 a0_1 a2 t240 _ A78.out).mono ?_); rintro e w98 ⟨rfl, hb⟩; have n0_ := Aside0.mk (blk_below (g := gb231) (o := .cells #[.int .i64 a0_0, .int .i64 a0_1] 23 (0, 0)) (by (with_reducible repeat (first | refine blk_drewN ?_ _ | refine blk_drew ?_ | refine blk_alloc ?_ _)); exact BK231.out) hb); have n1_ := Aside0.mk (blk_below (g := gb232) (o := .cells #[.int .i64 a1_0, .int .i64 a1_1] 23 (0, 0)) (by (with_reducible repeat (first | refine blk_drewN ?_ _ | refine blk_drew ?_ | refine blk_alloc ?_ _)); exact BK232.out) hb); have n2_ := Aside0.mk (below_step (by repeat (first | (with_reducible first | exact HB.out | apply below_alloc | apply pw_below_drewN | apply below_drew1 | refine below_set ?_ GE231.out | refine below_set ?_ GE232.out) | exact HB.out)) hb); clear BK231; clear BK232; clear HB; have BK231 := n0_; have BK232 := n1_; have HB := n2_; clear n0_ n1_ n2_; (try clear hb); (try clear hb2); (try clear hk); (try clear hi); have hcz99_0 : w98.cell? ⟨gb231, 0, none⟩ = some (.int .i64 a0_0) := (blk_cell BK231.out 0).trans rfl; have hcz99_1 : w98.cell? ⟨gb231, 1, none⟩ = some (.int .i64 a0_1) := (blk_cell BK231.out 1).trans rfl; have hfz99_0 := blk_frozen BK231.out 0; have hfz99_1 := blk_frozen BK231.out 1; have hcz100_0 : w98.cell? ⟨gb232, 0, none⟩ = some (.int .i64 a1_0) := (blk_cell BK232.out 0).trans rfl; have hcz100_1 : w98.cell? ⟨gb232, 1, none⟩ = some (.int .i64 a1_1) := (blk_cell BK232.out 1).trans rfl; have hfz100_0 := blk_frozen BK232.out 0; have hfz100_1 := blk_frozen BK232.out 1))
                    go_ret
                    exact ⟨by first | rfl | (simp [errW_none, errW_some] <;> rfl) | (simp [*, errW_none, errW_some] <;> rfl), by repeat (first | (with_reducible first | exact HB.out | apply below_alloc | apply pw_below_drewN | apply below_drew1 | refine below_set ?_ GE231.out | refine below_set ?_ GE232.out) | exact HB.out)⟩
                · rw [if_neg c81] at H
                  have c81b0 : decide (2147483648 < a2) = false := decide_eq_false c81
                  clear c81
                  by_cases c101 : t235 ≤ a2
                  · rw [if_pos c101] at H
                    have c101b0 : decide (t235 ≤ a2) = true := decide_eq_true c101
                    clear c101
                    by_cases c102 : (!(a0_0 == a1_0) || (!(a0_1 == a1_1))) = true
                    · rw [if_pos c102] at H
                      have c102b0 : (!(a0_0 == a1_0) || (!(a0_1 == a1_1))) = true := c102
                      clear c102
                      obtain rfl := Option.some.inj H
                      have hnb103 := NB231_232.out
                      have hnc103 := NB232_231.out
                      have hcz104_0 : wc.cell? ⟨gb231, 0, none⟩ = some (.int .i64 a0_0) := (blk_cell BK231.out 0).trans rfl
                      have hcz104_1 : wc.cell? ⟨gb231, 1, none⟩ = some (.int .i64 a0_1) := (blk_cell BK231.out 1).trans rfl
                      have hfz104_0 := blk_frozen BK231.out 0
                      have hfz104_1 := blk_frozen BK231.out 1
                      have hcz105_0 : wc.cell? ⟨gb232, 0, none⟩ = some (.int .i64 a1_0) := (blk_cell BK232.out 0).trans rfl
                      have hcz105_1 : wc.cell? ⟨gb232, 1, none⟩ = some (.int .i64 a1_1) := (blk_cell BK232.out 1).trans rfl
                      have hfz105_0 := blk_frozen BK232.out 0
                      have hfz105_1 := blk_frozen BK232.out 1
                      go_wp2_with (first | ((with_reducible refine gate_callee (f := 12) rfl ?_); refine goesL_ (some 67) rfl rfl Try.func12 (by kernel_rfl) rfl #[.agg #[.int .i64 a0_0, .int .i64 a0_1], .agg #[.int .i64 a1_0, .int .i64 a1_1], .int .i64 a2] rfl (by (try simp only [List.map_toArray, List.map_cons, List.map_nil]); first | done | rfl | (simp only [List.length_drop, List.length_take]; rfl)) ?_; (with_reducible refine (grid_Near.calls kj6 a0_0 a0_1 a1_0 a1_1 a2 true _ A76.out).mono ?_); rintro e w106 ⟨rfl, hb⟩; refine ⟨_, rfl, ?_⟩; have n0_ := Aside0.mk (blk_below (g := gb231) (o := .cells #[.int .i64 a0_0, .int .i64 a0_1] 23 (0, 0)) (by (with_reducible repeat (first | refine blk_drewN ?_ _ | refine blk_drew ?_ | refine blk_alloc ?_ _)); exact BK231.out) hb); have n1_ := Aside0.mk (blk_below (g := gb232) (o := .cells #[.int .i64 a1_0, .int .i64 a1_1] 23 (0, 0)) (by (with_reducible repeat (first | refine blk_drewN ?_ _ | refine blk_drew ?_ | refine blk_alloc ?_ _)); exact BK232.out) hb); have n2_ := Aside0.mk (below_step (by repeat (first | (with_reducible first | exact HB.out | apply below_alloc | apply pw_below_drewN | apply below_drew1 | refine below_set ?_ GE231.out | refine below_set ?_ GE232.out) | exact HB.out)) hb); clear BK231; clear BK232; clear HB; have BK231 := n0_; have BK232 := n1_; have HB := n2_; clear n0_ n1_ n2_; (try clear hb); (try clear hb2); (try clear hk); (try clear hi); have hcz107_0 : w106.cell? ⟨gb232, 0, none⟩ = some (.int .i64 a1_0) := (blk_cell BK232.out 0).trans rfl; have hcz107_1 : w106.cell? ⟨gb232, 1, none⟩ = some (.int .i64 a1_1) := (blk_cell BK232.out 1).trans rfl; have hfz107_0 := blk_frozen BK232.out 0; have hfz107_1 := blk_frozen BK232.out 1; have hcz108_0 : w106.cell? ⟨gb231, 0, none⟩ = some (.int .i64 a0_0) := (blk_cell BK231.out 0).trans rfl; have hcz108_1 : w106.cell? ⟨gb231, 1, none⟩ = some (.int .i64 a0_1) := (blk_cell BK231.out 1).trans rfl; have hfz108_0 := blk_frozen BK231.out 0; have hfz108_1 := blk_frozen BK231.out 1) | (go_at_call 12; (with_reducible refine calls_of_args (args' := #[_, _, .int .i64 a2]) rfl ?_); (with_reducible refine (grid_Near.calls kj6 a1_0 a1_1 a0_0 a0_1 a2 t240 _ A78.out).mono ?_); rintro e w109 ⟨rfl, hb⟩; have n0_ := Aside0.mk (blk_below (g := gb231) (o := .cells #[.int .i64 a0_0, .int .i64 a0_1] 23 (0, 0)) (by (with_reducible repeat (first | refine blk_drewN ?_ _ | refine blk_drew ?_ | refine blk_alloc ?_ _)); exact BK231.out) hb); have n1_ := Aside0.mk (blk_below (g := gb232) (o := .cells #[.int .i64 a1_0, .int .i64 a1_1] 23 (0, 0)) (by (with_reducible repeat (first | refine blk_drewN ?_ _ | refine blk_drew ?_ | refine blk_alloc ?_ _)); exact BK232.out) hb); have n2_ := Aside0.mk (below_step (by repeat (first | (with_reducible first | exact HB.out | apply below_alloc | apply pw_below_drewN | apply below_drew1 | refine below_set ?_ GE231.out | refine below_set ?_ GE232.out) | exact HB.out)) hb); clear BK231; clear BK232; clear HB; have BK231 := n0_; have BK232 := n1_; have HB := n2_; clear n0_ n1_ n2_; (try clear hb); (try clear hb2); (try clear hk); (try clear hi); have hcz110_0 : w109.cell? ⟨gb231, 0, none⟩ = some (.int .i64 a0_0) := (blk_cell BK231.out 0).trans rfl; have hcz110_1 : w109.cell? ⟨gb231, 1, none⟩ = some (.int .i64 a0_1) := (blk_cell BK231.out 1).trans rfl; have hfz110_0 := blk_frozen BK231.out 0; have hfz110_1 := blk_frozen BK231.out 1; have hcz111_0 : w109.cell? ⟨gb232, 0, none⟩ = some (.int .i64 a1_0) := (blk_cell BK232.out 0).trans rfl; have hcz111_1 : w109.cell? ⟨gb232, 1, none⟩ = some (.int .i64 a1_1) := (blk_cell BK232.out 1).trans rfl; have hfz111_0 := blk_frozen BK232.out 0; have hfz111_1 := blk_frozen BK232.out 1))
                      go_ret
                      exact ⟨by first | rfl | (simp [errW_none, errW_some] <;> rfl) | (simp [*, errW_none, errW_some] <;> rfl), by repeat (first | (with_reducible first | exact HB.out | apply below_alloc | apply pw_below_drewN | apply below_drew1 | refine below_set ?_ GE231.out | refine below_set ?_ GE232.out) | exact HB.out)⟩
                    · rw [if_neg c102] at H
                      have c102b0 : (!(a0_0 == a1_0) || (!(a0_1 == a1_1))) = false := by simpa using c102
                      clear c102
                      obtain rfl := Option.some.inj H
                      have hnb112 := NB231_232.out
                      have hnc112 := NB232_231.out
                      have hcz113_0 : wc.cell? ⟨gb231, 0, none⟩ = some (.int .i64 a0_0) := (blk_cell BK231.out 0).trans rfl
                      have hcz113_1 : wc.cell? ⟨gb231, 1, none⟩ = some (.int .i64 a0_1) := (blk_cell BK231.out 1).trans rfl
                      have hfz113_0 := blk_frozen BK231.out 0
                      have hfz113_1 := blk_frozen BK231.out 1
                      have hcz114_0 : wc.cell? ⟨gb232, 0, none⟩ = some (.int .i64 a1_0) := (blk_cell BK232.out 0).trans rfl
                      have hcz114_1 : wc.cell? ⟨gb232, 1, none⟩ = some (.int .i64 a1_1) := (blk_cell BK232.out 1).trans rfl
                      have hfz114_0 := blk_frozen BK232.out 0
                      have hfz114_1 := blk_frozen BK232.out 1
                      go_wp2_with (first | ((with_reducible refine gate_callee (f := 12) rfl ?_); refine goesL_ (some 67) rfl rfl Try.func12 (by kernel_rfl) rfl #[.agg #[.int .i64 a0_0, .int .i64 a0_1], .agg #[.int .i64 a1_0, .int .i64 a1_1], .int .i64 a2] rfl (by (try simp only [List.map_toArray, List.map_cons, List.map_nil]); first | done | rfl | (simp only [List.length_drop, List.length_take]; rfl)) ?_; (with_reducible refine (grid_Near.calls kj6 a0_0 a0_1 a1_0 a1_1 a2 true _ A76.out).mono ?_); rintro e w115 ⟨rfl, hb⟩; refine ⟨_, rfl, ?_⟩; have n0_ := Aside0.mk (blk_below (g := gb231) (o := .cells #[.int .i64 a0_0, .int .i64 a0_1] 23 (0, 0)) (by (with_reducible repeat (first | refine blk_drewN ?_ _ | refine blk_drew ?_ | refine blk_alloc ?_ _)); exact BK231.out) hb); have n1_ := Aside0.mk (blk_below (g := gb232) (o := .cells #[.int .i64 a1_0, .int .i64 a1_1] 23 (0, 0)) (by (with_reducible repeat (first | refine blk_drewN ?_ _ | refine blk_drew ?_ | refine blk_alloc ?_ _)); exact BK232.out) hb); have n2_ := Aside0.mk (below_step (by repeat (first | (with_reducible first | exact HB.out | apply below_alloc | apply pw_below_drewN | apply below_drew1 | refine below_set ?_ GE231.out | refine below_set ?_ GE232.out) | exact HB.out)) hb); clear BK231; clear BK232; clear HB; have BK231 := n0_; have BK232 := n1_; have HB := n2_; clear n0_ n1_ n2_; (try clear hb); (try clear hb2); (try clear hk); (try clear hi); have hcz116_0 : w115.cell? ⟨gb232, 0, none⟩ = some (.int .i64 a1_0) := (blk_cell BK232.out 0).trans rfl; have hcz116_1 : w115.cell? ⟨gb232, 1, none⟩ = some (.int .i64 a1_1) := (blk_cell BK232.out 1).trans rfl; have hfz116_0 := blk_frozen BK232.out 0; have hfz116_1 := blk_frozen BK232.out 1; have hcz117_0 : w115.cell? ⟨gb231, 0, none⟩ = some (.int .i64 a0_0) := (blk_cell BK231.out 0).trans rfl; have hcz117_1 : w115.cell? ⟨gb231, 1, none⟩ = some (.int .i64 a0_1) := (blk_cell BK231.out 1).trans rfl; have hfz117_0 := blk_frozen BK231.out 0; have hfz117_1 := blk_frozen BK231.out 1) | (go_at_call 12; (with_reducible refine calls_of_args (args' := #[_, _, .int .i64 a2]) rfl ?_); (with_reducible refine (grid_Near.calls kj6 a1_0 a1_1 a0_0 a0_1 a2 t240 _ A78.out).mono ?_); rintro e w118 ⟨rfl, hb⟩; have n0_ := Aside0.mk (blk_below (g := gb231) (o := .cells #[.int .i64 a0_0, .int .i64 a0_1] 23 (0, 0)) (by (with_reducible repeat (first | refine blk_drewN ?_ _ | refine blk_drew ?_ | refine blk_alloc ?_ _)); exact BK231.out) hb); have n1_ := Aside0.mk (blk_below (g := gb232) (o := .cells #[.int .i64 a1_0, .int .i64 a1_1] 23 (0, 0)) (by (with_reducible repeat (first | refine blk_drewN ?_ _ | refine blk_drew ?_ | refine blk_alloc ?_ _)); exact BK232.out) hb); have n2_ := Aside0.mk (below_step (by repeat (first | (with_reducible first | exact HB.out | apply below_alloc | apply pw_below_drewN | apply below_drew1 | refine below_set ?_ GE231.out | refine below_set ?_ GE232.out) | exact HB.out)) hb); clear BK231; clear BK232; clear HB; have BK231 := n0_; have BK232 := n1_; have HB := n2_; clear n0_ n1_ n2_; (try clear hb); (try clear hb2); (try clear hk); (try clear hi); have hcz119_0 : w118.cell? ⟨gb231, 0, none⟩ = some (.int .i64 a0_0) := (blk_cell BK231.out 0).trans rfl; have hcz119_1 : w118.cell? ⟨gb231, 1, none⟩ = some (.int .i64 a0_1) := (blk_cell BK231.out 1).trans rfl; have hfz119_0 := blk_frozen BK231.out 0; have hfz119_1 := blk_frozen BK231.out 1; have hcz120_0 : w118.cell? ⟨gb232, 0, none⟩ = some (.int .i64 a1_0) := (blk_cell BK232.out 0).trans rfl; have hcz120_1 : w118.cell? ⟨gb232, 1, none⟩ = some (.int .i64 a1_1) := (blk_cell BK232.out 1).trans rfl; have hfz120_0 := blk_frozen BK232.out 0; have hfz120_1 := blk_frozen BK232.out 1))
                      go_ret
                      exact ⟨by first | rfl | (simp [errW_none, errW_some] <;> rfl) | (simp [*, errW_none, errW_some] <;> rfl), by repeat (first | (with_reducible first | exact HB.out | apply below_alloc | apply pw_below_drewN | apply below_drew1 | refine below_set ?_ GE231.out | refine below_set ?_ GE232.out) | exact HB.out)⟩
                  · rw [if_neg c101] at H
                    exact absurd H (by simp)
              · replace c80 := Bool.eq_false_iff.mpr c80
                subst c80
                have H1 : (if (!(a0_0 == a1_0) || (!(a0_1 == a1_1))) = true then (some true) else (none)) = some r := by rw [if_neg (show ¬ (false = true) by decide)] at H; exact H
                clear H
                have H := H1
                clear H1
                by_cases c121 : (!(a0_0 == a1_0) || (!(a0_1 == a1_1))) = true
                · rw [if_pos c121] at H
                  have c121b0 : (!(a0_0 == a1_0) || (!(a0_1 == a1_1))) = true := c121
                  clear c121
                  obtain rfl := Option.some.inj H
                  have hnb122 := NB231_232.out
                  have hnc122 := NB232_231.out
                  have hcz123_0 : wc.cell? ⟨gb231, 0, none⟩ = some (.int .i64 a0_0) := (blk_cell BK231.out 0).trans rfl
                  have hcz123_1 : wc.cell? ⟨gb231, 1, none⟩ = some (.int .i64 a0_1) := (blk_cell BK231.out 1).trans rfl
                  have hfz123_0 := blk_frozen BK231.out 0
                  have hfz123_1 := blk_frozen BK231.out 1
                  have hcz124_0 : wc.cell? ⟨gb232, 0, none⟩ = some (.int .i64 a1_0) := (blk_cell BK232.out 0).trans rfl
                  have hcz124_1 : wc.cell? ⟨gb232, 1, none⟩ = some (.int .i64 a1_1) := (blk_cell BK232.out 1).trans rfl
                  have hfz124_0 := blk_frozen BK232.out 0
                  have hfz124_1 := blk_frozen BK232.out 1
                  go_wp2_with (first | ((with_reducible refine gate_callee (f := 12) rfl ?_); refine goesL_ (some 67) rfl rfl Try.func12 (by kernel_rfl) rfl #[.agg #[.int .i64 a0_0, .int .i64 a0_1], .agg #[.int .i64 a1_0, .int .i64 a1_1], .int .i64 a2] rfl (by (try simp only [List.map_toArray, List.map_cons, List.map_nil]); first | done | rfl | (simp only [List.length_drop, List.length_take]; rfl)) ?_; (with_reducible refine (grid_Near.calls kj6 a0_0 a0_1 a1_0 a1_1 a2 false _ A76.out).mono ?_); rintro e w125 ⟨rfl, hb⟩; refine ⟨_, rfl, ?_⟩; have n0_ := Aside0.mk (blk_below (g := gb231) (o := .cells #[.int .i64 a0_0, .int .i64 a0_1] 23 (0, 0)) (by (with_reducible repeat (first | refine blk_drewN ?_ _ | refine blk_drew ?_ | refine blk_alloc ?_ _)); exact BK231.out) hb); have n1_ := Aside0.mk (blk_below (g := gb232) (o := .cells #[.int .i64 a1_0, .int .i64 a1_1] 23 (0, 0)) (by (with_reducible repeat (first | refine blk_drewN ?_ _ | refine blk_drew ?_ | refine blk_alloc ?_ _)); exact BK232.out) hb); have n2_ := Aside0.mk (below_step (by repeat (first | (with_reducible first | exact HB.out | apply below_alloc | apply pw_below_drewN | apply below_drew1 | refine below_set ?_ GE231.out | refine below_set ?_ GE232.out) | exact HB.out)) hb); clear BK231; clear BK232; clear HB; have BK231 := n0_; have BK232 := n1_; have HB := n2_; clear n0_ n1_ n2_; (try clear hb); (try clear hb2); (try clear hk); (try clear hi); have hcz126_0 : w125.cell? ⟨gb232, 0, none⟩ = some (.int .i64 a1_0) := (blk_cell BK232.out 0).trans rfl; have hcz126_1 : w125.cell? ⟨gb232, 1, none⟩ = some (.int .i64 a1_1) := (blk_cell BK232.out 1).trans rfl; have hfz126_0 := blk_frozen BK232.out 0; have hfz126_1 := blk_frozen BK232.out 1; have hcz127_0 : w125.cell? ⟨gb231, 0, none⟩ = some (.int .i64 a0_0) := (blk_cell BK231.out 0).trans rfl; have hcz127_1 : w125.cell? ⟨gb231, 1, none⟩ = some (.int .i64 a0_1) := (blk_cell BK231.out 1).trans rfl; have hfz127_0 := blk_frozen BK231.out 0; have hfz127_1 := blk_frozen BK231.out 1) | (go_at_call 12; (with_reducible refine calls_of_args (args' := #[_, _, .int .i64 a2]) rfl ?_); (with_reducible refine (grid_Near.calls kj6 a1_0 a1_1 a0_0 a0_1 a2 t240 _ A78.out).mono ?_); rintro e w128 ⟨rfl, hb⟩; have n0_ := Aside0.mk (blk_below (g := gb231) (o := .cells #[.int .i64 a0_0, .int .i64 a0_1] 23 (0, 0)) (by (with_reducible repeat (first | refine blk_drewN ?_ _ | refine blk_drew ?_ | refine blk_alloc ?_ _)); exact BK231.out) hb); have n1_ := Aside0.mk (blk_below (g := gb232) (o := .cells #[.int .i64 a1_0, .int .i64 a1_1] 23 (0, 0)) (by (with_reducible repeat (first | refine blk_drewN ?_ _ | refine blk_drew ?_ | refine blk_alloc ?_ _)); exact BK232.out) hb); have n2_ := Aside0.mk (below_step (by repeat (first | (with_reducible first | exact HB.out | apply below_alloc | apply pw_below_drewN | apply below_drew1 | refine below_set ?_ GE231.out | refine below_set ?_ GE232.out) | exact HB.out)) hb); clear BK231; clear BK232; clear HB; have BK231 := n0_; have BK232 := n1_; have HB := n2_; clear n0_ n1_ n2_; (try clear hb); (try clear hb2); (try clear hk); (try clear hi); have hcz129_0 : w128.cell? ⟨gb231, 0, none⟩ = some (.int .i64 a0_0) := (blk_cell BK231.out 0).trans rfl; have hcz129_1 : w128.cell? ⟨gb231, 1, none⟩ = some (.int .i64 a0_1) := (blk_cell BK231.out 1).trans rfl; have hfz129_0 := blk_frozen BK231.out 0; have hfz129_1 := blk_frozen BK231.out 1; have hcz130_0 : w128.cell? ⟨gb232, 0, none⟩ = some (.int .i64 a1_0) := (blk_cell BK232.out 0).trans rfl; have hcz130_1 : w128.cell? ⟨gb232, 1, none⟩ = some (.int .i64 a1_1) := (blk_cell BK232.out 1).trans rfl; have hfz130_0 := blk_frozen BK232.out 0; have hfz130_1 := blk_frozen BK232.out 1))
                  go_ret
                  exact ⟨by first | rfl | (simp [errW_none, errW_some] <;> rfl) | (simp [*, errW_none, errW_some] <;> rfl), by repeat (first | (with_reducible first | exact HB.out | apply below_alloc | apply pw_below_drewN | apply below_drew1 | refine below_set ?_ GE231.out | refine below_set ?_ GE232.out) | exact HB.out)⟩
                · rw [if_neg c121] at H
                  exact absurd H (by simp)
            · rw [if_neg c79] at H
              exact absurd H (by simp)
          · replace c77 := Bool.eq_false_iff.mpr c77
            subst c77
            have H1 : (none) = some r := by rw [if_neg (show ¬ (false = true) by decide)] at H; exact H
            clear H
            have H := H1
            clear H1
            exact absurd H (by simp)

/-- THE ONE PURE STATEMENT of barrowlaw06_GridAlike. -/
def barrowlaw06_GridAlike.Pure : Prop := ∀ (a0_0 : Int) (a0_1 : Int) (a1_0 : Int) (a1_1 : Int) (a2 : Int), ((Lit.int .i64 a0_0).wf = true) → ((Lit.int .i64 a0_1).wf = true) → ((Lit.int .i64 a1_0).wf = true) → ((Lit.int .i64 a1_1).wf = true) → ((Lit.int .i64 a2).wf = true) → ∃ k, barrowlaw06_GridAlike.f k a0_0 a0_1 a1_0 a1_1 a2 = some true

end Go.Proofs.Ytoalpmfkaijomaa.XGL
