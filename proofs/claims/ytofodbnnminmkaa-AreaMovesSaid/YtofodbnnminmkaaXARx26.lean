-- Written by xprint.py (a program of this session) for this claim
import Derived.Test.YtofodbnnminmkaaXARx0
import Derived.Test.YtofodbnnminmkaaXARx2
import Derived.Test.YtofodbnnminmkaaXARx5
import Derived.Test.YtofodbnnminmkaaXARx20
import Derived.Test.YtofodbnnminmkaaXARx21
namespace Go.Proofs.Ytofodbnnminmkaa.XAR
open Go.Proofs.YtofodbnnminmkaaV Go.Proofs.YtofodbnnminmkaaS
open Go.RowKit Go.Proofs.YtofodbnnminmkaaW.PrintWords Go.Proofs.YtofodbnnminmkaaW.PrintLast Go.Proofs.YtofodbnnminmkaaW.PrintMore
attribute [local go_sem] max2_int min2_int max_two min_two max_three min_three max_four min_four   -- for this text's walks alone
set_option linter.unusedVariables false
set_option linter.unusedSimpArgs false

/-! ### barrowlaw32_AreaMoves: function 6 -/
mutual
def barrowlaw32_AreaMoves.j0 : Nat → Int → Int → Bool → Bool → Int → Int → Int → Int → Int → Int → Int → Int → Int → Option (Bool)
  | 0, _, _, _, _, _, _, _, _, _, _, _, _, _ => none
  | k + 1, x2, x3, x9, x52, x947000, x947001, x947002, x947003, x947004, x947005, x947006, x948000, x948001 => if x52 = true then (some x9) else ((barrowlaw32_tile.f (wrap64 (x947001 + x2)) (wrap64 (x947002 + x3))).bind fun bt951 => ((barrowlaw32_tile.f (wrap64 (x947003 + x2)) (wrap64 (x947004 + x3))).bind fun bt953 => ((barrowlaw32_tile.f (wrap64 (x948000 + x2)) (wrap64 (x948001 + x3))).bind fun bt955 => ((area_Right.f x947000 bt951.1 bt951.2 bt953.1 bt953.2 x947005 x947006).bind fun t959 => (if t959 = true then ((area_Right.f 3 x948000 x948001 bt955.1 bt955.2 0 0).bind fun t960 => (barrowlaw32_AreaMoves.j1 k x9 (!t960) x947000 x947001 x947002 x947003 x947004 x947005 x947006 x948000 x948001 x947000 bt951.1 bt951.2 bt953.1 bt953.2 x947005 x947006 bt955.1 bt955.2)) else (barrowlaw32_AreaMoves.j1 k x9 true x947000 x947001 x947002 x947003 x947004 x947005 x947006 x948000 x948001 x947000 bt951.1 bt951.2 bt953.1 bt953.2 x947005 x947006 bt955.1 bt955.2))))))
def barrowlaw32_AreaMoves.j1 : Nat → Bool → Bool → Int → Int → Int → Int → Int → Int → Int → Int → Int → Int → Int → Int → Int → Int → Int → Int → Int → Int → Option (Bool)
  | 0, _, _, _, _, _, _, _, _, _, _, _, _, _, _, _, _, _, _, _, _ => none
  | k + 1, x9, x98, x947000, x947001, x947002, x947003, x947004, x947005, x947006, x948000, x948001, x951000, x951001, x951002, x951003, x951004, x951005, x951006, x958000, x958001 => if x98 = true then (some x9) else (if x9 = true then ((area_In.f k x951000 x951001 x951002 x951003 x951004 x951005 x951006 x958000 x958001).bind fun t961 => ((area_In.f k x947000 x947001 x947002 x947003 x947004 x947005 x947006 x948000 x948001).bind fun t962 => (some (t961 == t962)))) else (none))
end
noncomputable def barrowlaw32_AreaMoves.f (k : Nat) (a0_0 : Int) (a0_1 : Int) (a0_2 : Int) (a0_3 : Int) (a0_4 : Int) (a0_5 : Int) (a0_6 : Int) (a1_0 : Int) (a1_1 : Int) (a2 : Int) (a3 : Int) : Option (Bool) := (barrowlaw32_small.f k).bind fun t948 => (if a2 < (-300) then (barrowlaw32_AreaMoves.j0 k a2 a3 t948 true a0_0 a0_1 a0_2 a0_3 a0_4 a0_5 a0_6 a1_0 a1_1) else (if a2 > 300 then (barrowlaw32_AreaMoves.j0 k a2 a3 t948 true a0_0 a0_1 a0_2 a0_3 a0_4 a0_5 a0_6 a1_0 a1_1) else (if a3 < (-300) then (barrowlaw32_AreaMoves.j0 k a2 a3 t948 true a0_0 a0_1 a0_2 a0_3 a0_4 a0_5 a0_6 a1_0 a1_1) else (if a3 > 300 then (barrowlaw32_AreaMoves.j0 k a2 a3 t948 true a0_0 a0_1 a0_2 a0_3 a0_4 a0_5 a0_6 a1_0 a1_1) else ((area_Right.f a0_0 a0_1 a0_2 a0_3 a0_4 a0_5 a0_6).bind fun t949 => (if t949 = true then (if a1_0 < (-300) then (barrowlaw32_AreaMoves.j0 k a2 a3 t948 true a0_0 a0_1 a0_2 a0_3 a0_4 a0_5 a0_6 a1_0 a1_1) else (if a1_0 > 600 then (barrowlaw32_AreaMoves.j0 k a2 a3 t948 true a0_0 a0_1 a0_2 a0_3 a0_4 a0_5 a0_6 a1_0 a1_1) else (if a1_1 < (-300) then (barrowlaw32_AreaMoves.j0 k a2 a3 t948 true a0_0 a0_1 a0_2 a0_3 a0_4 a0_5 a0_6 a1_0 a1_1) else (barrowlaw32_AreaMoves.j0 k a2 a3 t948 (decide (a1_1 > 600)) a0_0 a0_1 a0_2 a0_3 a0_4 a0_5 a0_6 a1_0 a1_1)))) else (barrowlaw32_AreaMoves.j0 k a2 a3 t948 true a0_0 a0_1 a0_2 a0_3 a0_4 a0_5 a0_6 a1_0 a1_1)))))))
theorem barrowlaw32_AreaMoves.mono_l : ∀ k, (∀ y0 y1 y2 y3 y4 y5 y6 y7 y8 y9 y10 y11 y12, LeO (barrowlaw32_AreaMoves.j0 k y0 y1 y2 y3 y4 y5 y6 y7 y8 y9 y10 y11 y12) (barrowlaw32_AreaMoves.j0 (k + 1) y0 y1 y2 y3 y4 y5 y6 y7 y8 y9 y10 y11 y12)) ∧ (∀ y0 y1 y2 y3 y4 y5 y6 y7 y8 y9 y10 y11 y12 y13 y14 y15 y16 y17 y18 y19, LeO (barrowlaw32_AreaMoves.j1 k y0 y1 y2 y3 y4 y5 y6 y7 y8 y9 y10 y11 y12 y13 y14 y15 y16 y17 y18 y19) (barrowlaw32_AreaMoves.j1 (k + 1) y0 y1 y2 y3 y4 y5 y6 y7 y8 y9 y10 y11 y12 y13 y14 y15 y16 y17 y18 y19))
  | 0 => ⟨fun _ _ _ _ _ _ _ _ _ _ _ _ _ r h => by simp [barrowlaw32_AreaMoves.j0] at h, fun _ _ _ _ _ _ _ _ _ _ _ _ _ _ _ _ _ _ _ _ r h => by simp [barrowlaw32_AreaMoves.j1] at h⟩
  | k + 1 => by
    obtain ⟨ih0, ih1⟩ := barrowlaw32_AreaMoves.mono_l k
    refine ⟨?_, ?_⟩
    · intro y0 y1 y2 y3 y4 y5 y6 y7 y8 y9 y10 y11 y12
      unfold barrowlaw32_AreaMoves.j0
      repeat' first
      | (with_reducible exact ih0 _ _ _ _ _ _ _ _ _ _ _ _ _)
      | (with_reducible exact ih1 _ _ _ _ _ _ _ _ _ _ _ _ _ _ _ _ _ _ _ _)
      | (with_reducible exact area_In.mono _ _ _ _ _ _ _ _ _ _)
      | (with_reducible exact barrowlaw32_small.mono _)
      | (with_reducible exact LeO.refl _)
      | (with_reducible exact LeO.none _)
      | (with_reducible refine LeO.ite ?_ ?_)
      | (with_reducible refine LeO.bind ?_ (fun _ => ?_))
      | exact ih0 _ _ _ _ _ _ _ _ _ _ _ _ _
      | exact ih1 _ _ _ _ _ _ _ _ _ _ _ _ _ _ _ _ _ _ _ _
      | exact area_In.mono _ _ _ _ _ _ _ _ _ _
      | exact barrowlaw32_small.mono _
      | exact LeO.none _
      | refine LeO.ite ?_ ?_
      | refine LeO.bind ?_ (fun _ => ?_)
    · intro y0 y1 y2 y3 y4 y5 y6 y7 y8 y9 y10 y11 y12 y13 y14 y15 y16 y17 y18 y19
      unfold barrowlaw32_AreaMoves.j1
      repeat' first
      | (with_reducible exact ih0 _ _ _ _ _ _ _ _ _ _ _ _ _)
      | (with_reducible exact ih1 _ _ _ _ _ _ _ _ _ _ _ _ _ _ _ _ _ _ _ _)
      | (with_reducible exact area_In.mono _ _ _ _ _ _ _ _ _ _)
      | (with_reducible exact barrowlaw32_small.mono _)
      | (with_reducible exact LeO.refl _)
      | (with_reducible exact LeO.none _)
      | (with_reducible refine LeO.ite ?_ ?_)
      | (with_reducible refine LeO.bind ?_ (fun _ => ?_))
      | exact ih0 _ _ _ _ _ _ _ _ _ _ _ _ _
      | exact ih1 _ _ _ _ _ _ _ _ _ _ _ _ _ _ _ _ _ _ _ _
      | exact area_In.mono _ _ _ _ _ _ _ _ _ _
      | exact barrowlaw32_small.mono _
      | exact LeO.none _
      | refine LeO.ite ?_ ?_
      | refine LeO.bind ?_ (fun _ => ?_)
theorem barrowlaw32_AreaMoves.mono : ∀ a0 a1 a2 a3 a4 a5 a6 a7 a8 a9 a10 k, LeO (barrowlaw32_AreaMoves.f k a0 a1 a2 a3 a4 a5 a6 a7 a8 a9 a10) (barrowlaw32_AreaMoves.f (k + 1) a0 a1 a2 a3 a4 a5 a6 a7 a8 a9 a10) := by
  intro a0 a1 a2 a3 a4 a5 a6 a7 a8 a9 a10 k
  obtain ⟨ih0, ih1⟩ := barrowlaw32_AreaMoves.mono_l k
  unfold barrowlaw32_AreaMoves.f
  repeat' first
      | (with_reducible exact ih0 _ _ _ _ _ _ _ _ _ _ _ _ _)
      | (with_reducible exact ih1 _ _ _ _ _ _ _ _ _ _ _ _ _ _ _ _ _ _ _ _)
      | (with_reducible exact area_In.mono _ _ _ _ _ _ _ _ _ _)
      | (with_reducible exact barrowlaw32_small.mono _)
      | (with_reducible exact LeO.refl _)
      | (with_reducible exact LeO.none _)
      | (with_reducible refine LeO.ite ?_ ?_)
      | (with_reducible refine LeO.bind ?_ (fun _ => ?_))
      | exact ih0 _ _ _ _ _ _ _ _ _ _ _ _ _
      | exact ih1 _ _ _ _ _ _ _ _ _ _ _ _ _ _ _ _ _ _ _ _
      | exact area_In.mono _ _ _ _ _ _ _ _ _ _
      | exact barrowlaw32_small.mono _
      | exact LeO.none _
      | refine LeO.ite ?_ ?_
      | refine LeO.bind ?_ (fun _ => ?_)
def barrowlaw32_AreaMoves.T11 : Bool × List (List Nat × List Nat) := (true, [([], []), ([0], [0]), ([1], [1]), ([1], [1]), ([2, 3, 1, 1], [1, 2, 3]), ([1], [1]), ([1], [1]), ([5, 6, 4, 1], [1, 5, 6]), ([4, 7, 1], [1, 4, 7]), ([1, 8], [1, 8]), ([9, 7, 0, 1, 2, 3, 4, 5, 6, 7, 8, 9], [9])])
def barrowlaw32_AreaMoves.B11 : List Nat := [0, 1, 3, 3, 15, 3, 3, 127, 255, 511, 1023]
theorem barrowlaw32_AreaMoves.tab11 : rtab .any (opsOf Try.f6 11) = barrowlaw32_AreaMoves.T11 := by kernel_rfl
theorem barrowlaw32_AreaMoves.bits11 : waitsOk barrowlaw32_AreaMoves.T11.2 barrowlaw32_AreaMoves.B11 = true := by kernel_rfl
set_option maxHeartbeats 8000000 in
set_option maxRecDepth 100000 in
theorem barrowlaw32_AreaMoves.calls (k : Nat) (a0_0 : Int) (a0_1 : Int) (a0_2 : Int) (a0_3 : Int) (a0_4 : Int) (a0_5 : Int) (a0_6 : Int) (a1_0 : Int) (a1_1 : Int) (a2 : Int) (a3 : Int) (r : Bool) (w : World) (h : barrowlaw32_AreaMoves.f k a0_0 a0_1 a0_2 a0_3 a0_4 a0_5 a0_6 a1_0 a1_1 a2 a3 = some r) :
    Calls Try.prog 6 #[.agg #[.int .i64 a0_0, .int .i64 a0_1, .int .i64 a0_2, .int .i64 a0_3, .int .i64 a0_4, .int .i64 a0_5, .int .i64 a0_6], .agg #[.int .i64 a1_0, .int .i64 a1_1], .int .i64 a2, .int .i64 a3] w fun e w' => e = .returned (.bool r) ∧ Below w.heap.size w w' := by
  have hu28 := Try.underlying28
  have hu26 := Try.underlying26
  have HB := Aside0.mk (Below.refl w.heap.size w)
  have H : ((barrowlaw32_small.f k).bind fun t948 => (if a2 < (-300) then (barrowlaw32_AreaMoves.j0 k a2 a3 t948 true a0_0 a0_1 a0_2 a0_3 a0_4 a0_5 a0_6 a1_0 a1_1) else (if a2 > 300 then (barrowlaw32_AreaMoves.j0 k a2 a3 t948 true a0_0 a0_1 a0_2 a0_3 a0_4 a0_5 a0_6 a1_0 a1_1) else (if a3 < (-300) then (barrowlaw32_AreaMoves.j0 k a2 a3 t948 true a0_0 a0_1 a0_2 a0_3 a0_4 a0_5 a0_6 a1_0 a1_1) else (if a3 > 300 then (barrowlaw32_AreaMoves.j0 k a2 a3 t948 true a0_0 a0_1 a0_2 a0_3 a0_4 a0_5 a0_6 a1_0 a1_1) else ((area_Right.f a0_0 a0_1 a0_2 a0_3 a0_4 a0_5 a0_6).bind fun t949 => (if t949 = true then (if a1_0 < (-300) then (barrowlaw32_AreaMoves.j0 k a2 a3 t948 true a0_0 a0_1 a0_2 a0_3 a0_4 a0_5 a0_6 a1_0 a1_1) else (if a1_0 > 600 then (barrowlaw32_AreaMoves.j0 k a2 a3 t948 true a0_0 a0_1 a0_2 a0_3 a0_4 a0_5 a0_6 a1_0 a1_1) else (if a1_1 < (-300) then (barrowlaw32_AreaMoves.j0 k a2 a3 t948 true a0_0 a0_1 a0_2 a0_3 a0_4 a0_5 a0_6 a1_0 a1_1) else (barrowlaw32_AreaMoves.j0 k a2 a3 t948 (decide (a1_1 > 600)) a0_0 a0_1 a0_2 a0_3 a0_4 a0_5 a0_6 a1_0 a1_1)))) else (barrowlaw32_AreaMoves.j0 k a2 a3 t948 true a0_0 a0_1 a0_2 a0_3 a0_4 a0_5 a0_6 a1_0 a1_1)))))))) = some r := h
  clear h
  replace H := Option.bind_eq_some_iff.mp H
  obtain ⟨t948, A50, H⟩ := H
  replace H : (if a2 < (-300) then (barrowlaw32_AreaMoves.j0 k a2 a3 t948 true a0_0 a0_1 a0_2 a0_3 a0_4 a0_5 a0_6 a1_0 a1_1) else (if a2 > 300 then (barrowlaw32_AreaMoves.j0 k a2 a3 t948 true a0_0 a0_1 a0_2 a0_3 a0_4 a0_5 a0_6 a1_0 a1_1) else (if a3 < (-300) then (barrowlaw32_AreaMoves.j0 k a2 a3 t948 true a0_0 a0_1 a0_2 a0_3 a0_4 a0_5 a0_6 a1_0 a1_1) else (if a3 > 300 then (barrowlaw32_AreaMoves.j0 k a2 a3 t948 true a0_0 a0_1 a0_2 a0_3 a0_4 a0_5 a0_6 a1_0 a1_1) else ((area_Right.f a0_0 a0_1 a0_2 a0_3 a0_4 a0_5 a0_6).bind fun t949 => (if t949 = true then (if a1_0 < (-300) then (barrowlaw32_AreaMoves.j0 k a2 a3 t948 true a0_0 a0_1 a0_2 a0_3 a0_4 a0_5 a0_6 a1_0 a1_1) else (if a1_0 > 600 then (barrowlaw32_AreaMoves.j0 k a2 a3 t948 true a0_0 a0_1 a0_2 a0_3 a0_4 a0_5 a0_6 a1_0 a1_1) else (if a1_1 < (-300) then (barrowlaw32_AreaMoves.j0 k a2 a3 t948 true a0_0 a0_1 a0_2 a0_3 a0_4 a0_5 a0_6 a1_0 a1_1) else (barrowlaw32_AreaMoves.j0 k a2 a3 t948 (decide (a1_1 > 600)) a0_0 a0_1 a0_2 a0_3 a0_4 a0_5 a0_6 a1_0 a1_1)))) else (barrowlaw32_AreaMoves.j0 k a2 a3 t948 true a0_0 a0_1 a0_2 a0_3 a0_4 a0_5 a0_6 a1_0 a1_1))))))) = some r := H
  have A5 := Aside0.mk A50
  clear A50
  have HC6 := Aside0.mk H
  clear H
  go_enter Try.func6, Try.ntmps6
  go_upto_region 2 with (first | ((with_reducible refine gate_dst (N := 4) rfl ?_); refine box_event ?hg (N := 4) ?hd (cs := #[.int .i64 a0_0, .int .i64 a0_1, .int .i64 a0_2, .int .i64 a0_3, .int .i64 a0_4, .int .i64 a0_5, .int .i64 a0_6]) (t := 28) ?hr ?_; (case hd => rfl); (case hg => rfl); (case hr => first | (go_simp; done) | (go_simp; rfl)); intro gb946 hg w7 hbox hb; have n0_ := Aside0.mk (below_step (by repeat (first | (with_reducible first | exact HB.out | apply below_alloc | apply pw_below_drewN | apply below_drew1) | exact HB.out)) hb); have n1_ := Aside0.mk (hbox); have n2_ := Aside0.mk ((by rw [hg]; exact (below_size (by repeat (first | (with_reducible first | exact HB.out | apply below_alloc | apply pw_below_drewN | apply below_drew1) | exact HB.out))) : w.heap.size ≤ gb946)); have n3_ := Aside0.mk ((by rw [hg]; exact (below_size (by repeat (first | (with_reducible first | exact HB.out | apply below_alloc | apply pw_below_drewN | apply below_drew1) | exact HB.out))) : w.heap.size ≤ gb946)); clear HB; have HB := n0_; have BK946 := n1_; have GW946 := n2_; have GE946 := n3_; clear n0_ n1_ n2_ n3_; clear hb hbox hg) | ((with_reducible refine gate_dst (N := 5) rfl ?_); refine box_event ?hg (N := 5) ?hd (cs := #[.int .i64 a1_0, .int .i64 a1_1]) (t := 26) ?hr ?_; (case hd => rfl); (case hg => rfl); (case hr => first | (go_simp; done) | (go_simp; rfl)); intro gb947 hg w8 hbox hb; have n0_ := Aside0.mk (blk_below (g := gb946) (o := .cells #[.int .i64 a0_0, .int .i64 a0_1, .int .i64 a0_2, .int .i64 a0_3, .int .i64 a0_4, .int .i64 a0_5, .int .i64 a0_6] 28 (0, 0)) (by (with_reducible repeat (first | refine blk_drewN ?_ _ | refine blk_drew ?_ | refine blk_alloc ?_ _)); exact BK946.out) hb); have n1_ := Aside0.mk (below_step (by repeat (first | (with_reducible first | exact HB.out | apply below_alloc | apply pw_below_drewN | apply below_drew1 | refine below_set ?_ GE946.out) | exact HB.out)) hb); have n2_ := Aside0.mk (hbox); have n3_ := Aside0.mk ((by rw [hg]; exact (below_size (by repeat (first | (with_reducible first | exact HB.out | apply below_alloc | apply pw_below_drewN | apply below_drew1 | refine below_set ?_ GE946.out) | exact HB.out))) : w.heap.size ≤ gb947)); have n4_ := Aside0.mk ((by rw [hg]; exact (below_size (by repeat (first | (with_reducible first | exact HB.out | apply below_alloc | apply pw_below_drewN | apply below_drew1 | refine below_set ?_ GE946.out) | exact HB.out))) : w.heap.size ≤ gb947)); have n5_ := Aside0.mk ((by rw [hg]; exact Nat.ne_of_lt (blk_lt (g := gb946) (o := .cells #[.int .i64 a0_0, .int .i64 a0_1, .int .i64 a0_2, .int .i64 a0_3, .int .i64 a0_4, .int .i64 a0_5, .int .i64 a0_6] 28 (0, 0)) (by (with_reducible repeat (first | refine blk_drewN ?_ _ | refine blk_drew ?_ | refine blk_alloc ?_ _)); exact BK946.out)) : gb946 ≠ gb947)); have n6_ := Aside0.mk ((by rw [hg]; exact Nat.ne_of_gt (blk_lt (g := gb946) (o := .cells #[.int .i64 a0_0, .int .i64 a0_1, .int .i64 a0_2, .int .i64 a0_3, .int .i64 a0_4, .int .i64 a0_5, .int .i64 a0_6] 28 (0, 0)) (by (with_reducible repeat (first | refine blk_drewN ?_ _ | refine blk_drew ?_ | refine blk_alloc ?_ _)); exact BK946.out)) : gb947 ≠ gb946)); clear BK946; clear HB; have BK946 := n0_; have HB := n1_; have BK947 := n2_; have GW947 := n3_; have GE947 := n4_; have NB946_947 := n5_; have NB947_946 := n6_; clear n0_ n1_ n2_ n3_ n4_ n5_ n6_; clear hb hbox hg) | ((with_reducible refine gate_callee (f := 7) rfl ?_); refine goesL_ (some 13) rfl rfl Try.func7 (by kernel_rfl) rfl #[] rfl (by (try simp only [List.map_toArray, List.map_cons, List.map_nil]); first | done | rfl | (simp only [List.length_drop, List.length_take]; rfl)) ?_; (with_reducible refine (barrowlaw32_small.calls k  t948 _ A5.out).mono ?_); rintro e w9 ⟨rfl, hb⟩; refine ⟨_, rfl, ?_⟩; have n0_ := Aside0.mk (blk_below (g := gb946) (o := .cells #[.int .i64 a0_0, .int .i64 a0_1, .int .i64 a0_2, .int .i64 a0_3, .int .i64 a0_4, .int .i64 a0_5, .int .i64 a0_6] 28 (0, 0)) (by (with_reducible repeat (first | refine blk_drewN ?_ _ | refine blk_drew ?_ | refine blk_alloc ?_ _)); exact BK946.out) hb); have n1_ := Aside0.mk (blk_below (g := gb947) (o := .cells #[.int .i64 a1_0, .int .i64 a1_1] 26 (0, 0)) (by (with_reducible repeat (first | refine blk_drewN ?_ _ | refine blk_drew ?_ | refine blk_alloc ?_ _)); exact BK947.out) hb); have n2_ := Aside0.mk (below_step (by repeat (first | (with_reducible first | exact HB.out | apply below_alloc | apply pw_below_drewN | apply below_drew1 | refine below_set ?_ GE946.out | refine below_set ?_ GE947.out) | exact HB.out)) hb); clear BK946; clear BK947; clear HB; have BK946 := n0_; have BK947 := n1_; have HB := n2_; clear n0_ n1_ n2_; (try clear hb); (try clear hb2); (try clear hk); (try clear hi)))
  (try simp only [Act.put, sT, sZ, sS])
  go_cut [52, 9] (fun v52 v9 wc => ∃ (kq : Nat) (x52_5 : Bool), v52 = .bool x52_5 ∧ v9 = .bool t948 ∧ Aside0 (barrowlaw32_AreaMoves.j0 kq a2 a3 t948 x52_5 a0_0 a0_1 a0_2 a0_3 a0_4 a0_5 a0_6 a1_0 a1_1 = some r) ∧ Aside0 (kq ≤ k) ∧ Aside0 (wc.heap[gb946]? = some (.cells #[.int .i64 a0_0, .int .i64 a0_1, .int .i64 a0_2, .int .i64 a0_3, .int .i64 a0_4, .int .i64 a0_5, .int .i64 a0_6] 28 (0, 0))) ∧ Aside0 (wc.heap[gb947]? = some (.cells #[.int .i64 a1_0, .int .i64 a1_1] 26 (0, 0))) ∧ Aside0 (Below w.heap.size w wc))
  case first =>
    have H := HC6.out
    clear HC6
    by_cases c10 : a2 < (-300)
    · rw [if_pos c10] at H
      have c10b0 : decide (a2 < (-300)) = true := decide_eq_true c10
      clear c10
      (first | rw [c10b0] | (simp only [i64_w, i32_w]; rw [c10b0]) | skip)
      have H' := Aside0.mk H
      clear H
      go_wp2
      go_meet
      case rel => exact ⟨_, (true), (by first | rfl | (simp; done) | (simp [*]; done)), (by first | rfl | (simp; done) | (simp [*]; done)), H', ⟨by first | omega | exact Nat.le_refl _⟩, ⟨by (with_reducible repeat (first | refine blk_drewN ?_ _ | refine blk_drew ?_ | refine blk_alloc ?_ _)); exact BK946.out⟩, ⟨by (with_reducible repeat (first | refine blk_drewN ?_ _ | refine blk_drew ?_ | refine blk_alloc ?_ _)); exact BK947.out⟩, ⟨by repeat (first | (with_reducible first | exact HB.out | apply below_alloc | apply pw_below_drewN | apply below_drew1 | refine below_set ?_ GE946.out | refine below_set ?_ GE947.out) | exact HB.out)⟩⟩
    · rw [if_neg c10] at H
      have c10b0 : decide (a2 < (-300)) = false := decide_eq_false c10
      clear c10
      (first | rw [c10b0] | (simp only [i64_w, i32_w]; rw [c10b0]) | skip)
      by_cases c11 : a2 > 300
      · rw [if_pos c11] at H
        have c11b0 : decide (300 < a2) = true := decide_eq_true c11
        clear c11
        have H' := Aside0.mk H
        clear H
        go_wp2
        go_meet
        case rel => exact ⟨_, (true), (by first | rfl | (simp; done) | (simp [*]; done)), (by first | rfl | (simp; done) | (simp [*]; done)), H', ⟨by first | omega | exact Nat.le_refl _⟩, ⟨by (with_reducible repeat (first | refine blk_drewN ?_ _ | refine blk_drew ?_ | refine blk_alloc ?_ _)); exact BK946.out⟩, ⟨by (with_reducible repeat (first | refine blk_drewN ?_ _ | refine blk_drew ?_ | refine blk_alloc ?_ _)); exact BK947.out⟩, ⟨by repeat (first | (with_reducible first | exact HB.out | apply below_alloc | apply pw_below_drewN | apply below_drew1 | refine below_set ?_ GE946.out | refine below_set ?_ GE947.out) | exact HB.out)⟩⟩
      · rw [if_neg c11] at H
        have c11b0 : decide (300 < a2) = false := decide_eq_false c11
        clear c11
        by_cases c12 : a3 < (-300)
        · rw [if_pos c12] at H
          have c12b0 : decide (a3 < (-300)) = true := decide_eq_true c12
          clear c12
          have H' := Aside0.mk H
          clear H
          go_wp2
          go_meet
          case rel => exact ⟨_, (true), (by first | rfl | (simp; done) | (simp [*]; done)), (by first | rfl | (simp; done) | (simp [*]; done)), H', ⟨by first | omega | exact Nat.le_refl _⟩, ⟨by (with_reducible repeat (first | refine blk_drewN ?_ _ | refine blk_drew ?_ | refine blk_alloc ?_ _)); exact BK946.out⟩, ⟨by (with_reducible repeat (first | refine blk_drewN ?_ _ | refine blk_drew ?_ | refine blk_alloc ?_ _)); exact BK947.out⟩, ⟨by repeat (first | (with_reducible first | exact HB.out | apply below_alloc | apply pw_below_drewN | apply below_drew1 | refine below_set ?_ GE946.out | refine below_set ?_ GE947.out) | exact HB.out)⟩⟩
        · rw [if_neg c12] at H
          have c12b0 : decide (a3 < (-300)) = false := decide_eq_false c12
          clear c12
          by_cases c13 : a3 > 300
          · rw [if_pos c13] at H
            have c13b0 : decide (300 < a3) = true := decide_eq_true c13
            clear c13
            have H' := Aside0.mk H
            clear H
            go_wp2
            go_meet
            case rel => exact ⟨_, (true), (by first | rfl | (simp; done) | (simp [*]; done)), (by first | rfl | (simp; done) | (simp [*]; done)), H', ⟨by first | omega | exact Nat.le_refl _⟩, ⟨by (with_reducible repeat (first | refine blk_drewN ?_ _ | refine blk_drew ?_ | refine blk_alloc ?_ _)); exact BK946.out⟩, ⟨by (with_reducible repeat (first | refine blk_drewN ?_ _ | refine blk_drew ?_ | refine blk_alloc ?_ _)); exact BK947.out⟩, ⟨by repeat (first | (with_reducible first | exact HB.out | apply below_alloc | apply pw_below_drewN | apply below_drew1 | refine below_set ?_ GE946.out | refine below_set ?_ GE947.out) | exact HB.out)⟩⟩
          · rw [if_neg c13] at H
            have c13b0 : decide (300 < a3) = false := decide_eq_false c13
            clear c13
            replace H := Option.bind_eq_some_iff.mp H
            obtain ⟨t949, A140, H⟩ := H
            replace H : (if t949 = true then (if a1_0 < (-300) then (barrowlaw32_AreaMoves.j0 k a2 a3 t948 true a0_0 a0_1 a0_2 a0_3 a0_4 a0_5 a0_6 a1_0 a1_1) else (if a1_0 > 600 then (barrowlaw32_AreaMoves.j0 k a2 a3 t948 true a0_0 a0_1 a0_2 a0_3 a0_4 a0_5 a0_6 a1_0 a1_1) else (if a1_1 < (-300) then (barrowlaw32_AreaMoves.j0 k a2 a3 t948 true a0_0 a0_1 a0_2 a0_3 a0_4 a0_5 a0_6 a1_0 a1_1) else (barrowlaw32_AreaMoves.j0 k a2 a3 t948 (decide (a1_1 > 600)) a0_0 a0_1 a0_2 a0_3 a0_4 a0_5 a0_6 a1_0 a1_1)))) else (barrowlaw32_AreaMoves.j0 k a2 a3 t948 true a0_0 a0_1 a0_2 a0_3 a0_4 a0_5 a0_6 a1_0 a1_1)) = some r := H
            have A14 := Aside0.mk A140
            clear A140
            by_cases c15 : t949 = true
            · subst c15
              have H1 : (if a1_0 < (-300) then (barrowlaw32_AreaMoves.j0 k a2 a3 t948 true a0_0 a0_1 a0_2 a0_3 a0_4 a0_5 a0_6 a1_0 a1_1) else (if a1_0 > 600 then (barrowlaw32_AreaMoves.j0 k a2 a3 t948 true a0_0 a0_1 a0_2 a0_3 a0_4 a0_5 a0_6 a1_0 a1_1) else (if a1_1 < (-300) then (barrowlaw32_AreaMoves.j0 k a2 a3 t948 true a0_0 a0_1 a0_2 a0_3 a0_4 a0_5 a0_6 a1_0 a1_1) else (barrowlaw32_AreaMoves.j0 k a2 a3 t948 (decide (a1_1 > 600)) a0_0 a0_1 a0_2 a0_3 a0_4 a0_5 a0_6 a1_0 a1_1)))) = some r := by rw [if_pos rfl] at H; exact H
              clear H
              have H := H1
              clear H1
              by_cases c16 : a1_0 < (-300)
              · rw [if_pos c16] at H
                have c16b0 : decide (a1_0 < (-300)) = true := decide_eq_true c16
                clear c16
                have H' := Aside0.mk H
                clear H
                have hnb17 := NB946_947.out
                have hnc17 := NB947_946.out
                have hcz18_0 : w9.cell? ⟨gb946, 0, none⟩ = some (.int .i64 a0_0) := (blk_cell BK946.out 0).trans rfl
                have hcz18_1 : w9.cell? ⟨gb946, 1, none⟩ = some (.int .i64 a0_1) := (blk_cell BK946.out 1).trans rfl
                have hcz18_2 : w9.cell? ⟨gb946, 2, none⟩ = some (.int .i64 a0_2) := (blk_cell BK946.out 2).trans rfl
                have hcz18_3 : w9.cell? ⟨gb946, 3, none⟩ = some (.int .i64 a0_3) := (blk_cell BK946.out 3).trans rfl
                have hcz18_4 : w9.cell? ⟨gb946, 4, none⟩ = some (.int .i64 a0_4) := (blk_cell BK946.out 4).trans rfl
                have hcz18_5 : w9.cell? ⟨gb946, 5, none⟩ = some (.int .i64 a0_5) := (blk_cell BK946.out 5).trans rfl
                have hcz18_6 : w9.cell? ⟨gb946, 6, none⟩ = some (.int .i64 a0_6) := (blk_cell BK946.out 6).trans rfl
                have hfz18_0 := blk_frozen BK946.out 0
                have hfz18_1 := blk_frozen BK946.out 1
                have hfz18_2 := blk_frozen BK946.out 2
                have hfz18_3 := blk_frozen BK946.out 3
                have hfz18_4 := blk_frozen BK946.out 4
                have hfz18_5 := blk_frozen BK946.out 5
                have hfz18_6 := blk_frozen BK946.out 6
                go_wp2_with (first | (go_at_call 9; (with_reducible refine (area_Right.calls a0_0 a0_1 a0_2 a0_3 a0_4 a0_5 a0_6 true _ A14.out).mono ?_); rintro e w19 ⟨rfl, hb⟩; have n0_ := Aside0.mk (blk_below (g := gb946) (o := .cells #[.int .i64 a0_0, .int .i64 a0_1, .int .i64 a0_2, .int .i64 a0_3, .int .i64 a0_4, .int .i64 a0_5, .int .i64 a0_6] 28 (0, 0)) (by (with_reducible repeat (first | refine blk_drewN ?_ _ | refine blk_drew ?_ | refine blk_alloc ?_ _)); exact BK946.out) hb); have n1_ := Aside0.mk (blk_below (g := gb947) (o := .cells #[.int .i64 a1_0, .int .i64 a1_1] 26 (0, 0)) (by (with_reducible repeat (first | refine blk_drewN ?_ _ | refine blk_drew ?_ | refine blk_alloc ?_ _)); exact BK947.out) hb); have n2_ := Aside0.mk (below_step (by repeat (first | (with_reducible first | exact HB.out | apply below_alloc | apply pw_below_drewN | apply below_drew1 | refine below_set ?_ GE946.out | refine below_set ?_ GE947.out) | exact HB.out)) hb); clear BK946; clear BK947; clear HB; have BK946 := n0_; have BK947 := n1_; have HB := n2_; clear n0_ n1_ n2_; (try clear hb); (try clear hb2); (try clear hk); (try clear hi); have hcz20_0 : w19.cell? ⟨gb947, 0, none⟩ = some (.int .i64 a1_0) := (blk_cell BK947.out 0).trans rfl; have hcz20_1 : w19.cell? ⟨gb947, 1, none⟩ = some (.int .i64 a1_1) := (blk_cell BK947.out 1).trans rfl; have hfz20_0 := blk_frozen BK947.out 0; have hfz20_1 := blk_frozen BK947.out 1))
                go_meet
                case rel => exact ⟨_, (true), (by first | rfl | (simp; done) | (simp [*]; done)), (by first | rfl | (simp; done) | (simp [*]; done)), H', ⟨by first | omega | exact Nat.le_refl _⟩, ⟨by (with_reducible repeat (first | refine blk_drewN ?_ _ | refine blk_drew ?_ | refine blk_alloc ?_ _)); exact BK946.out⟩, ⟨by (with_reducible repeat (first | refine blk_drewN ?_ _ | refine blk_drew ?_ | refine blk_alloc ?_ _)); exact BK947.out⟩, ⟨by repeat (first | (with_reducible first | exact HB.out | apply below_alloc | apply pw_below_drewN | apply below_drew1 | refine below_set ?_ GE946.out | refine below_set ?_ GE947.out) | exact HB.out)⟩⟩
              · rw [if_neg c16] at H
                have c16b0 : decide (a1_0 < (-300)) = false := decide_eq_false c16
                clear c16
                by_cases c21 : a1_0 > 600
                · rw [if_pos c21] at H
                  have c21b0 : decide (600 < a1_0) = true := decide_eq_true c21
                  clear c21
                  have H' := Aside0.mk H
                  clear H
                  have hnb22 := NB946_947.out
                  have hnc22 := NB947_946.out
                  have hcz23_0 : w9.cell? ⟨gb946, 0, none⟩ = some (.int .i64 a0_0) := (blk_cell BK946.out 0).trans rfl
                  have hcz23_1 : w9.cell? ⟨gb946, 1, none⟩ = some (.int .i64 a0_1) := (blk_cell BK946.out 1).trans rfl
                  have hcz23_2 : w9.cell? ⟨gb946, 2, none⟩ = some (.int .i64 a0_2) := (blk_cell BK946.out 2).trans rfl
                  have hcz23_3 : w9.cell? ⟨gb946, 3, none⟩ = some (.int .i64 a0_3) := (blk_cell BK946.out 3).trans rfl
                  have hcz23_4 : w9.cell? ⟨gb946, 4, none⟩ = some (.int .i64 a0_4) := (blk_cell BK946.out 4).trans rfl
                  have hcz23_5 : w9.cell? ⟨gb946, 5, none⟩ = some (.int .i64 a0_5) := (blk_cell BK946.out 5).trans rfl
                  have hcz23_6 : w9.cell? ⟨gb946, 6, none⟩ = some (.int .i64 a0_6) := (blk_cell BK946.out 6).trans rfl
                  have hfz23_0 := blk_frozen BK946.out 0
                  have hfz23_1 := blk_frozen BK946.out 1
                  have hfz23_2 := blk_frozen BK946.out 2
                  have hfz23_3 := blk_frozen BK946.out 3
                  have hfz23_4 := blk_frozen BK946.out 4
                  have hfz23_5 := blk_frozen BK946.out 5
                  have hfz23_6 := blk_frozen BK946.out 6
                  go_wp2_with (first | (go_at_call 9; (with_reducible refine (area_Right.calls a0_0 a0_1 a0_2 a0_3 a0_4 a0_5 a0_6 true _ A14.out).mono ?_); rintro e w24 ⟨rfl, hb⟩; have n0_ := Aside0.mk (blk_below (g := gb946) (o := .cells #[.int .i64 a0_0, .int .i64 a0_1, .int .i64 a0_2, .int .i64 a0_3, .int .i64 a0_4, .int .i64 a0_5, .int .i64 a0_6] 28 (0, 0)) (by (with_reducible repeat (first | refine blk_drewN ?_ _ | refine blk_drew ?_ | refine blk_alloc ?_ _)); exact BK946.out) hb); have n1_ := Aside0.mk (blk_below (g := gb947) (o := .cells #[.int .i64 a1_0, .int .i64 a1_1] 26 (0, 0)) (by (with_reducible repeat (first | refine blk_drewN ?_ _ | refine blk_drew ?_ | refine blk_alloc ?_ _)); exact BK947.out) hb); have n2_ := Aside0.mk (below_step (by repeat (first | (with_reducible first | exact HB.out | apply below_alloc | apply pw_below_drewN | apply below_drew1 | refine below_set ?_ GE946.out | refine below_set ?_ GE947.out) | exact HB.out)) hb); clear BK946; clear BK947; clear HB; have BK946 := n0_; have BK947 := n1_; have HB := n2_; clear n0_ n1_ n2_; (try clear hb); (try clear hb2); (try clear hk); (try clear hi); have hcz25_0 : w24.cell? ⟨gb947, 0, none⟩ = some (.int .i64 a1_0) := (blk_cell BK947.out 0).trans rfl; have hcz25_1 : w24.cell? ⟨gb947, 1, none⟩ = some (.int .i64 a1_1) := (blk_cell BK947.out 1).trans rfl; have hfz25_0 := blk_frozen BK947.out 0; have hfz25_1 := blk_frozen BK947.out 1))
                  go_meet
                  case rel => exact ⟨_, (true), (by first | rfl | (simp; done) | (simp [*]; done)), (by first | rfl | (simp; done) | (simp [*]; done)), H', ⟨by first | omega | exact Nat.le_refl _⟩, ⟨by (with_reducible repeat (first | refine blk_drewN ?_ _ | refine blk_drew ?_ | refine blk_alloc ?_ _)); exact BK946.out⟩, ⟨by (with_reducible repeat (first | refine blk_drewN ?_ _ | refine blk_drew ?_ | refine blk_alloc ?_ _)); exact BK947.out⟩, ⟨by repeat (first | (with_reducible first | exact HB.out | apply below_alloc | apply pw_below_drewN | apply below_drew1 | refine below_set ?_ GE946.out | refine below_set ?_ GE947.out) | exact HB.out)⟩⟩
                · rw [if_neg c21] at H
                  have c21b0 : decide (600 < a1_0) = false := decide_eq_false c21
                  clear c21
                  by_cases c26 : a1_1 < (-300)
                  · rw [if_pos c26] at H
                    have c26b0 : decide (a1_1 < (-300)) = true := decide_eq_true c26
                    clear c26
                    have H' := Aside0.mk H
                    clear H
                    have hnb27 := NB946_947.out
                    have hnc27 := NB947_946.out
                    have hcz28_0 : w9.cell? ⟨gb946, 0, none⟩ = some (.int .i64 a0_0) := (blk_cell BK946.out 0).trans rfl
                    have hcz28_1 : w9.cell? ⟨gb946, 1, none⟩ = some (.int .i64 a0_1) := (blk_cell BK946.out 1).trans rfl
                    have hcz28_2 : w9.cell? ⟨gb946, 2, none⟩ = some (.int .i64 a0_2) := (blk_cell BK946.out 2).trans rfl
                    have hcz28_3 : w9.cell? ⟨gb946, 3, none⟩ = some (.int .i64 a0_3) := (blk_cell BK946.out 3).trans rfl
                    have hcz28_4 : w9.cell? ⟨gb946, 4, none⟩ = some (.int .i64 a0_4) := (blk_cell BK946.out 4).trans rfl
                    have hcz28_5 : w9.cell? ⟨gb946, 5, none⟩ = some (.int .i64 a0_5) := (blk_cell BK946.out 5).trans rfl
                    have hcz28_6 : w9.cell? ⟨gb946, 6, none⟩ = some (.int .i64 a0_6) := (blk_cell BK946.out 6).trans rfl
                    have hfz28_0 := blk_frozen BK946.out 0
                    have hfz28_1 := blk_frozen BK946.out 1
                    have hfz28_2 := blk_frozen BK946.out 2
                    have hfz28_3 := blk_frozen BK946.out 3
                    have hfz28_4 := blk_frozen BK946.out 4
                    have hfz28_5 := blk_frozen BK946.out 5
                    have hfz28_6 := blk_frozen BK946.out 6
                    go_wp2_with (first | (go_at_call 9; (with_reducible refine (area_Right.calls a0_0 a0_1 a0_2 a0_3 a0_4 a0_5 a0_6 true _ A14.out).mono ?_); rintro e w29 ⟨rfl, hb⟩; have n0_ := Aside0.mk (blk_below (g := gb946) (o := .cells #[.int .i64 a0_0, .int .i64 a0_1, .int .i64 a0_2, .int .i64 a0_3, .int .i64 a0_4, .int .i64 a0_5, .int .i64 a0_6] 28 (0, 0)) (by (with_reducible repeat (first | refine blk_drewN ?_ _ | refine blk_drew ?_ | refine blk_alloc ?_ _)); exact BK946.out) hb); have n1_ := Aside0.mk (blk_below (g := gb947) (o := .cells #[.int .i64 a1_0, .int .i64 a1_1] 26 (0, 0)) (by (with_reducible repeat (first | refine blk_drewN ?_ _ | refine blk_drew ?_ | refine blk_alloc ?_ _)); exact BK947.out) hb); have n2_ := Aside0.mk (below_step (by repeat (first | (with_reducible first | exact HB.out | apply below_alloc | apply pw_below_drewN | apply below_drew1 | refine below_set ?_ GE946.out | refine below_set ?_ GE947.out) | exact HB.out)) hb); clear BK946; clear BK947; clear HB; have BK946 := n0_; have BK947 := n1_; have HB := n2_; clear n0_ n1_ n2_; (try clear hb); (try clear hb2); (try clear hk); (try clear hi); have hcz30_0 : w29.cell? ⟨gb947, 0, none⟩ = some (.int .i64 a1_0) := (blk_cell BK947.out 0).trans rfl; have hcz30_1 : w29.cell? ⟨gb947, 1, none⟩ = some (.int .i64 a1_1) := (blk_cell BK947.out 1).trans rfl; have hfz30_0 := blk_frozen BK947.out 0; have hfz30_1 := blk_frozen BK947.out 1))
                    go_meet
                    case rel => exact ⟨_, (true), (by first | rfl | (simp; done) | (simp [*]; done)), (by first | rfl | (simp; done) | (simp [*]; done)), H', ⟨by first | omega | exact Nat.le_refl _⟩, ⟨by (with_reducible repeat (first | refine blk_drewN ?_ _ | refine blk_drew ?_ | refine blk_alloc ?_ _)); exact BK946.out⟩, ⟨by (with_reducible repeat (first | refine blk_drewN ?_ _ | refine blk_drew ?_ | refine blk_alloc ?_ _)); exact BK947.out⟩, ⟨by repeat (first | (with_reducible first | exact HB.out | apply below_alloc | apply pw_below_drewN | apply below_drew1 | refine below_set ?_ GE946.out | refine below_set ?_ GE947.out) | exact HB.out)⟩⟩
                  · rw [if_neg c26] at H
                    have c26b0 : decide (a1_1 < (-300)) = false := decide_eq_false c26
                    clear c26
                    have H' := Aside0.mk H
                    clear H
                    have hnb31 := NB946_947.out
                    have hnc31 := NB947_946.out
                    have hcz32_0 : w9.cell? ⟨gb946, 0, none⟩ = some (.int .i64 a0_0) := (blk_cell BK946.out 0).trans rfl
                    have hcz32_1 : w9.cell? ⟨gb946, 1, none⟩ = some (.int .i64 a0_1) := (blk_cell BK946.out 1).trans rfl
                    have hcz32_2 : w9.cell? ⟨gb946, 2, none⟩ = some (.int .i64 a0_2) := (blk_cell BK946.out 2).trans rfl
                    have hcz32_3 : w9.cell? ⟨gb946, 3, none⟩ = some (.int .i64 a0_3) := (blk_cell BK946.out 3).trans rfl
                    have hcz32_4 : w9.cell? ⟨gb946, 4, none⟩ = some (.int .i64 a0_4) := (blk_cell BK946.out 4).trans rfl
                    have hcz32_5 : w9.cell? ⟨gb946, 5, none⟩ = some (.int .i64 a0_5) := (blk_cell BK946.out 5).trans rfl
                    have hcz32_6 : w9.cell? ⟨gb946, 6, none⟩ = some (.int .i64 a0_6) := (blk_cell BK946.out 6).trans rfl
                    have hfz32_0 := blk_frozen BK946.out 0
                    have hfz32_1 := blk_frozen BK946.out 1
                    have hfz32_2 := blk_frozen BK946.out 2
                    have hfz32_3 := blk_frozen BK946.out 3
                    have hfz32_4 := blk_frozen BK946.out 4
                    have hfz32_5 := blk_frozen BK946.out 5
                    have hfz32_6 := blk_frozen BK946.out 6
                    go_wp2_with (first | (go_at_call 9; (with_reducible refine (area_Right.calls a0_0 a0_1 a0_2 a0_3 a0_4 a0_5 a0_6 true _ A14.out).mono ?_); rintro e w33 ⟨rfl, hb⟩; have n0_ := Aside0.mk (blk_below (g := gb946) (o := .cells #[.int .i64 a0_0, .int .i64 a0_1, .int .i64 a0_2, .int .i64 a0_3, .int .i64 a0_4, .int .i64 a0_5, .int .i64 a0_6] 28 (0, 0)) (by (with_reducible repeat (first | refine blk_drewN ?_ _ | refine blk_drew ?_ | refine blk_alloc ?_ _)); exact BK946.out) hb); have n1_ := Aside0.mk (blk_below (g := gb947) (o := .cells #[.int .i64 a1_0, .int .i64 a1_1] 26 (0, 0)) (by (with_reducible repeat (first | refine blk_drewN ?_ _ | refine blk_drew ?_ | refine blk_alloc ?_ _)); exact BK947.out) hb); have n2_ := Aside0.mk (below_step (by repeat (first | (with_reducible first | exact HB.out | apply below_alloc | apply pw_below_drewN | apply below_drew1 | refine below_set ?_ GE946.out | refine below_set ?_ GE947.out) | exact HB.out)) hb); clear BK946; clear BK947; clear HB; have BK946 := n0_; have BK947 := n1_; have HB := n2_; clear n0_ n1_ n2_; (try clear hb); (try clear hb2); (try clear hk); (try clear hi); have hcz34_0 : w33.cell? ⟨gb947, 0, none⟩ = some (.int .i64 a1_0) := (blk_cell BK947.out 0).trans rfl; have hcz34_1 : w33.cell? ⟨gb947, 1, none⟩ = some (.int .i64 a1_1) := (blk_cell BK947.out 1).trans rfl; have hfz34_0 := blk_frozen BK947.out 0; have hfz34_1 := blk_frozen BK947.out 1))
                    go_meet
                    case rel => exact ⟨_, (decide (a1_1 > 600)), (by first | rfl | (simp; done) | (simp [*]; done)), (by first | rfl | (simp; done) | (simp [*]; done)), H', ⟨by first | omega | exact Nat.le_refl _⟩, ⟨by (with_reducible repeat (first | refine blk_drewN ?_ _ | refine blk_drew ?_ | refine blk_alloc ?_ _)); exact BK946.out⟩, ⟨by (with_reducible repeat (first | refine blk_drewN ?_ _ | refine blk_drew ?_ | refine blk_alloc ?_ _)); exact BK947.out⟩, ⟨by repeat (first | (with_reducible first | exact HB.out | apply below_alloc | apply pw_below_drewN | apply below_drew1 | refine below_set ?_ GE946.out | refine below_set ?_ GE947.out) | exact HB.out)⟩⟩
            · replace c15 := Bool.eq_false_iff.mpr c15
              subst c15
              have H1 : (barrowlaw32_AreaMoves.j0 k a2 a3 t948 true a0_0 a0_1 a0_2 a0_3 a0_4 a0_5 a0_6 a1_0 a1_1) = some r := by rw [if_neg (show ¬ (false = true) by decide)] at H; exact H
              clear H
              have H := H1
              clear H1
              have H' := Aside0.mk H
              clear H
              have hnb35 := NB946_947.out
              have hnc35 := NB947_946.out
              have hcz36_0 : w9.cell? ⟨gb946, 0, none⟩ = some (.int .i64 a0_0) := (blk_cell BK946.out 0).trans rfl
              have hcz36_1 : w9.cell? ⟨gb946, 1, none⟩ = some (.int .i64 a0_1) := (blk_cell BK946.out 1).trans rfl
              have hcz36_2 : w9.cell? ⟨gb946, 2, none⟩ = some (.int .i64 a0_2) := (blk_cell BK946.out 2).trans rfl
              have hcz36_3 : w9.cell? ⟨gb946, 3, none⟩ = some (.int .i64 a0_3) := (blk_cell BK946.out 3).trans rfl
              have hcz36_4 : w9.cell? ⟨gb946, 4, none⟩ = some (.int .i64 a0_4) := (blk_cell BK946.out 4).trans rfl
              have hcz36_5 : w9.cell? ⟨gb946, 5, none⟩ = some (.int .i64 a0_5) := (blk_cell BK946.out 5).trans rfl
              have hcz36_6 : w9.cell? ⟨gb946, 6, none⟩ = some (.int .i64 a0_6) := (blk_cell BK946.out 6).trans rfl
              have hfz36_0 := blk_frozen BK946.out 0
              have hfz36_1 := blk_frozen BK946.out 1
              have hfz36_2 := blk_frozen BK946.out 2
              have hfz36_3 := blk_frozen BK946.out 3
              have hfz36_4 := blk_frozen BK946.out 4
              have hfz36_5 := blk_frozen BK946.out 5
              have hfz36_6 := blk_frozen BK946.out 6
              go_wp2_with (first | (go_at_call 9; (with_reducible refine (area_Right.calls a0_0 a0_1 a0_2 a0_3 a0_4 a0_5 a0_6 false _ A14.out).mono ?_); rintro e w37 ⟨rfl, hb⟩; have n0_ := Aside0.mk (blk_below (g := gb946) (o := .cells #[.int .i64 a0_0, .int .i64 a0_1, .int .i64 a0_2, .int .i64 a0_3, .int .i64 a0_4, .int .i64 a0_5, .int .i64 a0_6] 28 (0, 0)) (by (with_reducible repeat (first | refine blk_drewN ?_ _ | refine blk_drew ?_ | refine blk_alloc ?_ _)); exact BK946.out) hb); have n1_ := Aside0.mk (blk_below (g := gb947) (o := .cells #[.int .i64 a1_0, .int .i64 a1_1] 26 (0, 0)) (by (with_reducible repeat (first | refine blk_drewN ?_ _ | refine blk_drew ?_ | refine blk_alloc ?_ _)); exact BK947.out) hb); have n2_ := Aside0.mk (below_step (by repeat (first | (with_reducible first | exact HB.out | apply below_alloc | apply pw_below_drewN | apply below_drew1 | refine below_set ?_ GE946.out | refine below_set ?_ GE947.out) | exact HB.out)) hb); clear BK946; clear BK947; clear HB; have BK946 := n0_; have BK947 := n1_; have HB := n2_; clear n0_ n1_ n2_; (try clear hb); (try clear hb2); (try clear hk); (try clear hi)))
              go_meet
              case rel => exact ⟨_, (true), (by first | rfl | (simp; done) | (simp [*]; done)), (by first | rfl | (simp; done) | (simp [*]; done)), H', ⟨by first | omega | exact Nat.le_refl _⟩, ⟨by (with_reducible repeat (first | refine blk_drewN ?_ _ | refine blk_drew ?_ | refine blk_alloc ?_ _)); exact BK946.out⟩, ⟨by (with_reducible repeat (first | refine blk_drewN ?_ _ | refine blk_drew ?_ | refine blk_alloc ?_ _)); exact BK947.out⟩, ⟨by repeat (first | (with_reducible first | exact HB.out | apply below_alloc | apply pw_below_drewN | apply below_drew1 | refine below_set ?_ GE946.out | refine below_set ?_ GE947.out) | exact HB.out)⟩⟩
  case rest =>
    clear HC6
    try clear c1
    try clear c2
    try clear p2
    try clear c3
    try clear c6
    try clear c7
    try clear c10
    try clear c10b0
    try clear c11
    try clear c11b0
    try clear c12
    try clear c12b0
    try clear c13
    try clear c13b0
    try clear c15
    try clear c16
    try clear c16b0
    try clear c17
    try clear c21
    try clear c21b0
    try clear c22
    try clear c26
    try clear c26b0
    try clear c27
    try clear c31
    try clear c35
    try clear hcz18_0
    try clear hcz18_1
    try clear hcz18_2
    try clear hcz18_3
    try clear hcz18_4
    try clear hcz18_5
    try clear hcz18_6
    try clear hcz20_0
    try clear hcz20_1
    try clear hcz23_0
    try clear hcz23_1
    try clear hcz23_2
    try clear hcz23_3
    try clear hcz23_4
    try clear hcz23_5
    try clear hcz23_6
    try clear hcz25_0
    try clear hcz25_1
    try clear hcz28_0
    try clear hcz28_1
    try clear hcz28_2
    try clear hcz28_3
    try clear hcz28_4
    try clear hcz28_5
    try clear hcz28_6
    try clear hcz30_0
    try clear hcz30_1
    try clear hcz32_0
    try clear hcz32_1
    try clear hcz32_2
    try clear hcz32_3
    try clear hcz32_4
    try clear hcz32_5
    try clear hcz32_6
    try clear hcz34_0
    try clear hcz34_1
    try clear hcz36_0
    try clear hcz36_1
    try clear hcz36_2
    try clear hcz36_3
    try clear hcz36_4
    try clear hcz36_5
    try clear hcz36_6
    try clear hfz18_0
    try clear hfz18_1
    try clear hfz18_2
    try clear hfz18_3
    try clear hfz18_4
    try clear hfz18_5
    try clear hfz18_6
    try clear hfz20_0
    try clear hfz20_1
    try clear hfz23_0
    try clear hfz23_1
    try clear hfz23_2
    try clear hfz23_3
    try clear hfz23_4
    try clear hfz23_5
    try clear hfz23_6
    try clear hfz25_0
    try clear hfz25_1
    try clear hfz28_0
    try clear hfz28_1
    try clear hfz28_2
    try clear hfz28_3
    try clear hfz28_4
    try clear hfz28_5
    try clear hfz28_6
    try clear hfz30_0
    try clear hfz30_1
    try clear hfz32_0
    try clear hfz32_1
    try clear hfz32_2
    try clear hfz32_3
    try clear hfz32_4
    try clear hfz32_5
    try clear hfz32_6
    try clear hfz34_0
    try clear hfz34_1
    try clear hfz36_0
    try clear hfz36_1
    try clear hfz36_2
    try clear hfz36_3
    try clear hfz36_4
    try clear hfz36_5
    try clear hfz36_6
    obtain ⟨kq, x52_5, rfl, rfl, HA, HJ5, BK946, BK947, HB⟩ := hcut
    cases kq with
    | zero => exact absurd HA.out (by simp [barrowlaw32_AreaMoves.j0])
    | succ kj5 =>
      have H := HA.out
      clear HA
      simp only [barrowlaw32_AreaMoves.j0] at H
      by_cases c38 : x52_5 = true
      · subst c38
        have H1 : (some t948) = some r := by rw [if_pos rfl] at H; exact H
        clear H
        have H := H1
        clear H1
        obtain rfl := Option.some.inj H
        go_wp2
        go_ret
        exact ⟨by first | rfl | (simp [errW_none, errW_some] <;> rfl) | (simp [*, errW_none, errW_some] <;> rfl), by repeat (first | (with_reducible first | exact HB.out | apply below_alloc | apply pw_below_drewN | apply below_drew1 | refine below_set ?_ GE946.out | refine below_set ?_ GE947.out) | exact HB.out)⟩
      · replace c38 := Bool.eq_false_iff.mpr c38
        subst c38
        have H1 : ((barrowlaw32_tile.f (wrap64 (a0_1 + a2)) (wrap64 (a0_2 + a3))).bind fun bt951 => ((barrowlaw32_tile.f (wrap64 (a0_3 + a2)) (wrap64 (a0_4 + a3))).bind fun bt953 => ((barrowlaw32_tile.f (wrap64 (a1_0 + a2)) (wrap64 (a1_1 + a3))).bind fun bt955 => ((area_Right.f a0_0 bt951.1 bt951.2 bt953.1 bt953.2 a0_5 a0_6).bind fun t959 => (if t959 = true then ((area_Right.f 3 a1_0 a1_1 bt955.1 bt955.2 0 0).bind fun t960 => (barrowlaw32_AreaMoves.j1 kj5 t948 (!t960) a0_0 a0_1 a0_2 a0_3 a0_4 a0_5 a0_6 a1_0 a1_1 a0_0 bt951.1 bt951.2 bt953.1 bt953.2 a0_5 a0_6 bt955.1 bt955.2)) else (barrowlaw32_AreaMoves.j1 kj5 t948 true a0_0 a0_1 a0_2 a0_3 a0_4 a0_5 a0_6 a1_0 a1_1 a0_0 bt951.1 bt951.2 bt953.1 bt953.2 a0_5 a0_6 bt955.1 bt955.2)))))) = some r := by rw [if_neg (show ¬ (false = true) by decide)] at H; exact H
        clear H
        have H := H1
        clear H1
        replace H := Option.bind_eq_some_iff.mp H
        obtain ⟨⟨t951, t952⟩, A390, H⟩ := H
        replace H : ((barrowlaw32_tile.f (wrap64 (a0_3 + a2)) (wrap64 (a0_4 + a3))).bind fun bt953 => ((barrowlaw32_tile.f (wrap64 (a1_0 + a2)) (wrap64 (a1_1 + a3))).bind fun bt955 => ((area_Right.f a0_0 t951 t952 bt953.1 bt953.2 a0_5 a0_6).bind fun t959 => (if t959 = true then ((area_Right.f 3 a1_0 a1_1 bt955.1 bt955.2 0 0).bind fun t960 => (barrowlaw32_AreaMoves.j1 kj5 t948 (!t960) a0_0 a0_1 a0_2 a0_3 a0_4 a0_5 a0_6 a1_0 a1_1 a0_0 t951 t952 bt953.1 bt953.2 a0_5 a0_6 bt955.1 bt955.2)) else (barrowlaw32_AreaMoves.j1 kj5 t948 true a0_0 a0_1 a0_2 a0_3 a0_4 a0_5 a0_6 a1_0 a1_1 a0_0 t951 t952 bt953.1 bt953.2 a0_5 a0_6 bt955.1 bt955.2))))) = some r := H
        have A39 := Aside0.mk A390
        clear A390
        replace H := Option.bind_eq_some_iff.mp H
        obtain ⟨⟨t953, t954⟩, A400, H⟩ := H
        replace H : ((barrowlaw32_tile.f (wrap64 (a1_0 + a2)) (wrap64 (a1_1 + a3))).bind fun bt955 => ((area_Right.f a0_0 t951 t952 t953 t954 a0_5 a0_6).bind fun t959 => (if t959 = true then ((area_Right.f 3 a1_0 a1_1 bt955.1 bt955.2 0 0).bind fun t960 => (barrowlaw32_AreaMoves.j1 kj5 t948 (!t960) a0_0 a0_1 a0_2 a0_3 a0_4 a0_5 a0_6 a1_0 a1_1 a0_0 t951 t952 t953 t954 a0_5 a0_6 bt955.1 bt955.2)) else (barrowlaw32_AreaMoves.j1 kj5 t948 true a0_0 a0_1 a0_2 a0_3 a0_4 a0_5 a0_6 a1_0 a1_1 a0_0 t951 t952 t953 t954 a0_5 a0_6 bt955.1 bt955.2)))) = some r := H
        have A40 := Aside0.mk A400
        clear A400
        replace H := Option.bind_eq_some_iff.mp H
        obtain ⟨⟨t955, t956⟩, A410, H⟩ := H
        replace H : ((area_Right.f a0_0 t951 t952 t953 t954 a0_5 a0_6).bind fun t959 => (if t959 = true then ((area_Right.f 3 a1_0 a1_1 t955 t956 0 0).bind fun t960 => (barrowlaw32_AreaMoves.j1 kj5 t948 (!t960) a0_0 a0_1 a0_2 a0_3 a0_4 a0_5 a0_6 a1_0 a1_1 a0_0 t951 t952 t953 t954 a0_5 a0_6 t955 t956)) else (barrowlaw32_AreaMoves.j1 kj5 t948 true a0_0 a0_1 a0_2 a0_3 a0_4 a0_5 a0_6 a1_0 a1_1 a0_0 t951 t952 t953 t954 a0_5 a0_6 t955 t956))) = some r := H
        have A41 := Aside0.mk A410
        clear A410
        have HC42 := Aside0.mk H
        clear H
        have hnb43 := NB946_947.out
        have hnc43 := NB947_946.out
        have hcz44_0 : wc.cell? ⟨gb946, 0, none⟩ = some (.int .i64 a0_0) := (blk_cell BK946.out 0).trans rfl
        have hcz44_1 : wc.cell? ⟨gb946, 1, none⟩ = some (.int .i64 a0_1) := (blk_cell BK946.out 1).trans rfl
        have hcz44_2 : wc.cell? ⟨gb946, 2, none⟩ = some (.int .i64 a0_2) := (blk_cell BK946.out 2).trans rfl
        have hcz44_3 : wc.cell? ⟨gb946, 3, none⟩ = some (.int .i64 a0_3) := (blk_cell BK946.out 3).trans rfl
        have hcz44_4 : wc.cell? ⟨gb946, 4, none⟩ = some (.int .i64 a0_4) := (blk_cell BK946.out 4).trans rfl
        have hcz44_5 : wc.cell? ⟨gb946, 5, none⟩ = some (.int .i64 a0_5) := (blk_cell BK946.out 5).trans rfl
        have hcz44_6 : wc.cell? ⟨gb946, 6, none⟩ = some (.int .i64 a0_6) := (blk_cell BK946.out 6).trans rfl
        have hfz44_0 := blk_frozen BK946.out 0
        have hfz44_1 := blk_frozen BK946.out 1
        have hfz44_2 := blk_frozen BK946.out 2
        have hfz44_3 := blk_frozen BK946.out 3
        have hfz44_4 := blk_frozen BK946.out 4
        have hfz44_5 := blk_frozen BK946.out 5
        have hfz44_6 := blk_frozen BK946.out 6
        go_upto_region 9 with (first | ((with_reducible refine gate_dst (N := 10) rfl ?_); refine box_event ?hg (N := 10) ?hd (cs := #[.int .i64 0, .int .i64 0, .int .i64 0, .int .i64 0, .int .i64 0, .int .i64 0, .int .i64 0]) (t := 28) ?hr ?_; (case hd => rfl); (case hg => rfl); (case hr => first | (go_simp; done) | (go_simp; rfl)); intro gb950 hg w45 hbox hb; have n0_ := Aside0.mk (blk_below (g := gb946) (o := .cells #[.int .i64 a0_0, .int .i64 a0_1, .int .i64 a0_2, .int .i64 a0_3, .int .i64 a0_4, .int .i64 a0_5, .int .i64 a0_6] 28 (0, 0)) (by (with_reducible repeat (first | refine blk_drewN ?_ _ | refine blk_drew ?_ | refine blk_alloc ?_ _)); exact BK946.out) hb); have n1_ := Aside0.mk (blk_below (g := gb947) (o := .cells #[.int .i64 a1_0, .int .i64 a1_1] 26 (0, 0)) (by (with_reducible repeat (first | refine blk_drewN ?_ _ | refine blk_drew ?_ | refine blk_alloc ?_ _)); exact BK947.out) hb); have n2_ := Aside0.mk (below_step (by repeat (first | (with_reducible first | exact HB.out | apply below_alloc | apply pw_below_drewN | apply below_drew1 | refine below_set ?_ GE946.out | refine below_set ?_ GE947.out) | exact HB.out)) hb); have n3_ := Aside0.mk (hbox); have n4_ := Aside0.mk ((by rw [hg]; exact (below_size (by repeat (first | (with_reducible first | exact HB.out | apply below_alloc | apply pw_below_drewN | apply below_drew1 | refine below_set ?_ GE946.out | refine below_set ?_ GE947.out) | exact HB.out))) : w.heap.size ≤ gb950)); have n5_ := Aside0.mk ((by rw [hg]; exact (below_size (by repeat (first | (with_reducible first | exact HB.out | apply below_alloc | apply pw_below_drewN | apply below_drew1 | refine below_set ?_ GE946.out | refine below_set ?_ GE947.out) | exact HB.out))) : w.heap.size ≤ gb950)); have n6_ := Aside0.mk ((by rw [hg]; exact Nat.ne_of_lt (blk_lt (g := gb946) (o := .cells #[.int .i64 a0_0, .int .i64 a0_1, .int .i64 a0_2, .int .i64 a0_3, .int .i64 a0_4, .int .i64 a0_5, .int .i64 a0_6] 28 (0, 0)) (by (with_reducible repeat (first | refine blk_drewN ?_ _ | refine blk_drew ?_ | refine blk_alloc ?_ _)); exact BK946.out)) : gb946 ≠ gb950)); have n7_ := Aside0.mk ((by rw [hg]; exact Nat.ne_of_gt (blk_lt (g := gb946) (o := .cells #[.int .i64 a0_0, .int .i64 a0_1, .int .i64 a0_2, .int .i64 a0_3, .int .i64 a0_4, .int .i64 a0_5, .int .i64 a0_6] 28 (0, 0)) (by (with_reducible repeat (first | refine blk_drewN ?_ _ | refine blk_drew ?_ | refine blk_alloc ?_ _)); exact BK946.out)) : gb950 ≠ gb946)); have n8_ := Aside0.mk ((by rw [hg]; exact Nat.ne_of_lt (blk_lt (g := gb947) (o := .cells #[.int .i64 a1_0, .int .i64 a1_1] 26 (0, 0)) (by (with_reducible repeat (first | refine blk_drewN ?_ _ | refine blk_drew ?_ | refine blk_alloc ?_ _)); exact BK947.out)) : gb947 ≠ gb950)); have n9_ := Aside0.mk ((by rw [hg]; exact Nat.ne_of_gt (blk_lt (g := gb947) (o := .cells #[.int .i64 a1_0, .int .i64 a1_1] 26 (0, 0)) (by (with_reducible repeat (first | refine blk_drewN ?_ _ | refine blk_drew ?_ | refine blk_alloc ?_ _)); exact BK947.out)) : gb950 ≠ gb947)); clear BK946; clear BK947; clear HB; have BK946 := n0_; have BK947 := n1_; have HB := n2_; have BK950 := n3_; have GW950 := n4_; have GE950 := n5_; have NB946_950 := n6_; have NB950_946 := n7_; have NB947_950 := n8_; have NB950_947 := n9_; clear n0_ n1_ n2_ n3_ n4_ n5_ n6_ n7_ n8_ n9_; clear hb hbox hg; have hnb46 := NB950_946.out; have hnc46 := NB946_950.out; have hnb47 := NB950_947.out; have hnc47 := NB947_950.out; have hcz48_0 : w45.cell? ⟨gb950, 0, none⟩ = some (.int .i64 0) := (blk_cell BK950.out 0).trans rfl; have hcz48_1 : w45.cell? ⟨gb950, 1, none⟩ = some (.int .i64 0) := (blk_cell BK950.out 1).trans rfl; have hcz48_2 : w45.cell? ⟨gb950, 2, none⟩ = some (.int .i64 0) := (blk_cell BK950.out 2).trans rfl; have hcz48_3 : w45.cell? ⟨gb950, 3, none⟩ = some (.int .i64 0) := (blk_cell BK950.out 3).trans rfl; have hcz48_4 : w45.cell? ⟨gb950, 4, none⟩ = some (.int .i64 0) := (blk_cell BK950.out 4).trans rfl; have hcz48_5 : w45.cell? ⟨gb950, 5, none⟩ = some (.int .i64 0) := (blk_cell BK950.out 5).trans rfl; have hcz48_6 : w45.cell? ⟨gb950, 6, none⟩ = some (.int .i64 0) := (blk_cell BK950.out 6).trans rfl; have hfz48_0 := blk_frozen BK950.out 0; have hfz48_1 := blk_frozen BK950.out 1; have hfz48_2 := blk_frozen BK950.out 2; have hfz48_3 := blk_frozen BK950.out 3; have hfz48_4 := blk_frozen BK950.out 4; have hfz48_5 := blk_frozen BK950.out 5; have hfz48_6 := blk_frozen BK950.out 6; have hcz49_0 : w45.cell? ⟨gb946, 0, none⟩ = some (.int .i64 a0_0) := (blk_cell BK946.out 0).trans rfl; have hcz49_1 : w45.cell? ⟨gb946, 1, none⟩ = some (.int .i64 a0_1) := (blk_cell BK946.out 1).trans rfl; have hcz49_2 : w45.cell? ⟨gb946, 2, none⟩ = some (.int .i64 a0_2) := (blk_cell BK946.out 2).trans rfl; have hcz49_3 : w45.cell? ⟨gb946, 3, none⟩ = some (.int .i64 a0_3) := (blk_cell BK946.out 3).trans rfl; have hcz49_4 : w45.cell? ⟨gb946, 4, none⟩ = some (.int .i64 a0_4) := (blk_cell BK946.out 4).trans rfl; have hcz49_5 : w45.cell? ⟨gb946, 5, none⟩ = some (.int .i64 a0_5) := (blk_cell BK946.out 5).trans rfl; have hcz49_6 : w45.cell? ⟨gb946, 6, none⟩ = some (.int .i64 a0_6) := (blk_cell BK946.out 6).trans rfl; have hfz49_0 := blk_frozen BK946.out 0; have hfz49_1 := blk_frozen BK946.out 1; have hfz49_2 := blk_frozen BK946.out 2; have hfz49_3 := blk_frozen BK946.out 3; have hfz49_4 := blk_frozen BK946.out 4; have hfz49_5 := blk_frozen BK946.out 5; have hfz49_6 := blk_frozen BK946.out 6) | ((with_reducible refine gate_callee (f := 21) rfl ?_); refine goesL_ (some 65) rfl rfl Try.func21 (by kernel_rfl) rfl #[.int .i64 (wrap64 (a0_1 + a2)), .int .i64 (wrap64 (a0_2 + a3))] rfl (by (try simp only [List.map_toArray, List.map_cons, List.map_nil]); first | done | rfl | (simp only [List.length_drop, List.length_take]; rfl)) ?_; (with_reducible refine (barrowlaw32_tile.calls (wrap64 (a0_1 + a2)) (wrap64 (a0_2 + a3)) t951 t952 _ A39.out).mono ?_); rintro e w50 ⟨rfl, hb⟩; refine ⟨_, rfl, ?_⟩; have n0_ := Aside0.mk (blk_below (g := gb946) (o := .cells #[.int .i64 a0_0, .int .i64 a0_1, .int .i64 a0_2, .int .i64 a0_3, .int .i64 a0_4, .int .i64 a0_5, .int .i64 a0_6] 28 (0, 0)) (by (with_reducible repeat (first | refine blk_drewN ?_ _ | refine blk_drew ?_ | refine blk_alloc ?_ _)); refine blk_far ?_ NB946_950.out _; (with_reducible repeat (first | refine blk_drewN ?_ _ | refine blk_drew ?_ | refine blk_alloc ?_ _)); refine blk_far ?_ NB946_950.out _; (with_reducible repeat (first | refine blk_drewN ?_ _ | refine blk_drew ?_ | refine blk_alloc ?_ _)); refine blk_far ?_ NB946_950.out _; (with_reducible repeat (first | refine blk_drewN ?_ _ | refine blk_drew ?_ | refine blk_alloc ?_ _)); refine blk_far ?_ NB946_950.out _; (with_reducible repeat (first | refine blk_drewN ?_ _ | refine blk_drew ?_ | refine blk_alloc ?_ _)); refine blk_far ?_ NB946_950.out _; (with_reducible repeat (first | refine blk_drewN ?_ _ | refine blk_drew ?_ | refine blk_alloc ?_ _)); refine blk_far ?_ NB946_950.out _; (with_reducible repeat (first | refine blk_drewN ?_ _ | refine blk_drew ?_ | refine blk_alloc ?_ _)); refine blk_far ?_ NB946_950.out _; (with_reducible repeat (first | refine blk_drewN ?_ _ | refine blk_drew ?_ | refine blk_alloc ?_ _)); exact BK946.out) hb); have n1_ := Aside0.mk (blk_below (g := gb947) (o := .cells #[.int .i64 a1_0, .int .i64 a1_1] 26 (0, 0)) (by (with_reducible repeat (first | refine blk_drewN ?_ _ | refine blk_drew ?_ | refine blk_alloc ?_ _)); refine blk_far ?_ NB947_950.out _; (with_reducible repeat (first | refine blk_drewN ?_ _ | refine blk_drew ?_ | refine blk_alloc ?_ _)); refine blk_far ?_ NB947_950.out _; (with_reducible repeat (first | refine blk_drewN ?_ _ | refine blk_drew ?_ | refine blk_alloc ?_ _)); refine blk_far ?_ NB947_950.out _; (with_reducible repeat (first | refine blk_drewN ?_ _ | refine blk_drew ?_ | refine blk_alloc ?_ _)); refine blk_far ?_ NB947_950.out _; (with_reducible repeat (first | refine blk_drewN ?_ _ | refine blk_drew ?_ | refine blk_alloc ?_ _)); refine blk_far ?_ NB947_950.out _; (with_reducible repeat (first | refine blk_drewN ?_ _ | refine blk_drew ?_ | refine blk_alloc ?_ _)); refine blk_far ?_ NB947_950.out _; (with_reducible repeat (first | refine blk_drewN ?_ _ | refine blk_drew ?_ | refine blk_alloc ?_ _)); refine blk_far ?_ NB947_950.out _; (with_reducible repeat (first | refine blk_drewN ?_ _ | refine blk_drew ?_ | refine blk_alloc ?_ _)); exact BK947.out) hb); have n2_ := Aside0.mk (blk_below (g := gb950) (o := .cells #[.int .i64 a0_0, .int .i64 a0_1, .int .i64 a0_2, .int .i64 a0_3, .int .i64 a0_4, .int .i64 a0_5, .int .i64 a0_6] 28 (0, 0)) (by (with_reducible repeat (first | refine blk_drewN ?_ _ | refine blk_drew ?_ | refine blk_alloc ?_ _)); refine blk_put (cs := #[.int .i64 a0_0, .int .i64 a0_1, .int .i64 a0_2, .int .i64 a0_3, .int .i64 a0_4, .int .i64 a0_5, .int .i64 0]) ?_ 6 _ rfl; (with_reducible repeat (first | refine blk_drewN ?_ _ | refine blk_drew ?_ | refine blk_alloc ?_ _)); refine blk_put (cs := #[.int .i64 a0_0, .int .i64 a0_1, .int .i64 a0_2, .int .i64 a0_3, .int .i64 a0_4, .int .i64 0, .int .i64 0]) ?_ 5 _ rfl; (with_reducible repeat (first | refine blk_drewN ?_ _ | refine blk_drew ?_ | refine blk_alloc ?_ _)); refine blk_put (cs := #[.int .i64 a0_0, .int .i64 a0_1, .int .i64 a0_2, .int .i64 a0_3, .int .i64 0, .int .i64 0, .int .i64 0]) ?_ 4 _ rfl; (with_reducible repeat (first | refine blk_drewN ?_ _ | refine blk_drew ?_ | refine blk_alloc ?_ _)); refine blk_put (cs := #[.int .i64 a0_0, .int .i64 a0_1, .int .i64 a0_2, .int .i64 0, .int .i64 0, .int .i64 0, .int .i64 0]) ?_ 3 _ rfl; (with_reducible repeat (first | refine blk_drewN ?_ _ | refine blk_drew ?_ | refine blk_alloc ?_ _)); refine blk_put (cs := #[.int .i64 a0_0, .int .i64 a0_1, .int .i64 0, .int .i64 0, .int .i64 0, .int .i64 0, .int .i64 0]) ?_ 2 _ rfl; (with_reducible repeat (first | refine blk_drewN ?_ _ | refine blk_drew ?_ | refine blk_alloc ?_ _)); refine blk_put (cs := #[.int .i64 a0_0, .int .i64 0, .int .i64 0, .int .i64 0, .int .i64 0, .int .i64 0, .int .i64 0]) ?_ 1 _ rfl; (with_reducible repeat (first | refine blk_drewN ?_ _ | refine blk_drew ?_ | refine blk_alloc ?_ _)); refine blk_put (cs := #[.int .i64 0, .int .i64 0, .int .i64 0, .int .i64 0, .int .i64 0, .int .i64 0, .int .i64 0]) ?_ 0 _ rfl; (with_reducible repeat (first | refine blk_drewN ?_ _ | refine blk_drew ?_ | refine blk_alloc ?_ _)); exact BK950.out) hb); have n3_ := Aside0.mk (below_step (by repeat (first | (with_reducible first | exact HB.out | apply below_alloc | apply pw_below_drewN | apply below_drew1 | refine below_set ?_ GE946.out | refine below_set ?_ GE947.out | refine below_set ?_ GE950.out) | exact HB.out)) hb); clear BK946; clear BK947; clear BK950; clear HB; have BK946 := n0_; have BK947 := n1_; have BK950 := n2_; have HB := n3_; clear n0_ n1_ n2_ n3_; (try clear hb); (try clear hb2); (try clear hk); (try clear hi); have hcz51_0 : w50.cell? ⟨gb950, 0, none⟩ = some (.int .i64 a0_0) := (blk_cell BK950.out 0).trans rfl; have hcz51_1 : w50.cell? ⟨gb950, 1, none⟩ = some (.int .i64 a0_1) := (blk_cell BK950.out 1).trans rfl; have hcz51_2 : w50.cell? ⟨gb950, 2, none⟩ = some (.int .i64 a0_2) := (blk_cell BK950.out 2).trans rfl; have hcz51_3 : w50.cell? ⟨gb950, 3, none⟩ = some (.int .i64 a0_3) := (blk_cell BK950.out 3).trans rfl; have hcz51_4 : w50.cell? ⟨gb950, 4, none⟩ = some (.int .i64 a0_4) := (blk_cell BK950.out 4).trans rfl; have hcz51_5 : w50.cell? ⟨gb950, 5, none⟩ = some (.int .i64 a0_5) := (blk_cell BK950.out 5).trans rfl; have hcz51_6 : w50.cell? ⟨gb950, 6, none⟩ = some (.int .i64 a0_6) := (blk_cell BK950.out 6).trans rfl; have hfz51_0 := blk_frozen BK950.out 0; have hfz51_1 := blk_frozen BK950.out 1; have hfz51_2 := blk_frozen BK950.out 2; have hfz51_3 := blk_frozen BK950.out 3; have hfz51_4 := blk_frozen BK950.out 4; have hfz51_5 := blk_frozen BK950.out 5; have hfz51_6 := blk_frozen BK950.out 6; have hcz52_0 : w50.cell? ⟨gb946, 0, none⟩ = some (.int .i64 a0_0) := (blk_cell BK946.out 0).trans rfl; have hcz52_1 : w50.cell? ⟨gb946, 1, none⟩ = some (.int .i64 a0_1) := (blk_cell BK946.out 1).trans rfl; have hcz52_2 : w50.cell? ⟨gb946, 2, none⟩ = some (.int .i64 a0_2) := (blk_cell BK946.out 2).trans rfl; have hcz52_3 : w50.cell? ⟨gb946, 3, none⟩ = some (.int .i64 a0_3) := (blk_cell BK946.out 3).trans rfl; have hcz52_4 : w50.cell? ⟨gb946, 4, none⟩ = some (.int .i64 a0_4) := (blk_cell BK946.out 4).trans rfl; have hcz52_5 : w50.cell? ⟨gb946, 5, none⟩ = some (.int .i64 a0_5) := (blk_cell BK946.out 5).trans rfl; have hcz52_6 : w50.cell? ⟨gb946, 6, none⟩ = some (.int .i64 a0_6) := (blk_cell BK946.out 6).trans rfl; have hfz52_0 := blk_frozen BK946.out 0; have hfz52_1 := blk_frozen BK946.out 1; have hfz52_2 := blk_frozen BK946.out 2; have hfz52_3 := blk_frozen BK946.out 3; have hfz52_4 := blk_frozen BK946.out 4; have hfz52_5 := blk_frozen BK946.out 5; have hfz52_6 := blk_frozen BK946.out 6) | ((with_reducible refine gate_callee (f := 21) rfl ?_); refine goesL_ (some 77) rfl rfl Try.func21 (by kernel_rfl) rfl #[.int .i64 (wrap64 (a0_3 + a2)), .int .i64 (wrap64 (a0_4 + a3))] rfl (by (try simp only [List.map_toArray, List.map_cons, List.map_nil]); first | done | rfl | (simp only [List.length_drop, List.length_take]; rfl)) ?_; (with_reducible refine (barrowlaw32_tile.calls (wrap64 (a0_3 + a2)) (wrap64 (a0_4 + a3)) t953 t954 _ A40.out).mono ?_); rintro e w53 ⟨rfl, hb⟩; refine ⟨_, rfl, ?_⟩; have n0_ := Aside0.mk (blk_below (g := gb946) (o := .cells #[.int .i64 a0_0, .int .i64 a0_1, .int .i64 a0_2, .int .i64 a0_3, .int .i64 a0_4, .int .i64 a0_5, .int .i64 a0_6] 28 (0, 0)) (by (with_reducible repeat (first | refine blk_drewN ?_ _ | refine blk_drew ?_ | refine blk_alloc ?_ _)); refine blk_far ?_ NB946_950.out _; (with_reducible repeat (first | refine blk_drewN ?_ _ | refine blk_drew ?_ | refine blk_alloc ?_ _)); refine blk_far ?_ NB946_950.out _; (with_reducible repeat (first | refine blk_drewN ?_ _ | refine blk_drew ?_ | refine blk_alloc ?_ _)); exact BK946.out) hb); have n1_ := Aside0.mk (blk_below (g := gb947) (o := .cells #[.int .i64 a1_0, .int .i64 a1_1] 26 (0, 0)) (by (with_reducible repeat (first | refine blk_drewN ?_ _ | refine blk_drew ?_ | refine blk_alloc ?_ _)); refine blk_far ?_ NB947_950.out _; (with_reducible repeat (first | refine blk_drewN ?_ _ | refine blk_drew ?_ | refine blk_alloc ?_ _)); refine blk_far ?_ NB947_950.out _; (with_reducible repeat (first | refine blk_drewN ?_ _ | refine blk_drew ?_ | refine blk_alloc ?_ _)); exact BK947.out) hb); have n2_ := Aside0.mk (blk_below (g := gb950) (o := .cells #[.int .i64 a0_0, .int .i64 t951, .int .i64 t952, .int .i64 a0_3, .int .i64 a0_4, .int .i64 a0_5, .int .i64 a0_6] 28 (0, 0)) (by (with_reducible repeat (first | refine blk_drewN ?_ _ | refine blk_drew ?_ | refine blk_alloc ?_ _)); refine blk_put (cs := #[.int .i64 a0_0, .int .i64 t951, .int .i64 a0_2, .int .i64 a0_3, .int .i64 a0_4, .int .i64 a0_5, .int .i64 a0_6]) ?_ 2 _ rfl; (with_reducible repeat (first | refine blk_drewN ?_ _ | refine blk_drew ?_ | refine blk_alloc ?_ _)); refine blk_put (cs := #[.int .i64 a0_0, .int .i64 a0_1, .int .i64 a0_2, .int .i64 a0_3, .int .i64 a0_4, .int .i64 a0_5, .int .i64 a0_6]) ?_ 1 _ rfl; (with_reducible repeat (first | refine blk_drewN ?_ _ | refine blk_drew ?_ | refine blk_alloc ?_ _)); exact BK950.out) hb); have n3_ := Aside0.mk (below_step (by repeat (first | (with_reducible first | exact HB.out | apply below_alloc | apply pw_below_drewN | apply below_drew1 | refine below_set ?_ GE946.out | refine below_set ?_ GE947.out | refine below_set ?_ GE950.out) | exact HB.out)) hb); clear BK946; clear BK947; clear BK950; clear HB; have BK946 := n0_; have BK947 := n1_; have BK950 := n2_; have HB := n3_; clear n0_ n1_ n2_ n3_; (try clear hb); (try clear hb2); (try clear hk); (try clear hi); have hcz54_0 : w53.cell? ⟨gb950, 0, none⟩ = some (.int .i64 a0_0) := (blk_cell BK950.out 0).trans rfl; have hcz54_1 : w53.cell? ⟨gb950, 1, none⟩ = some (.int .i64 t951) := (blk_cell BK950.out 1).trans rfl; have hcz54_2 : w53.cell? ⟨gb950, 2, none⟩ = some (.int .i64 t952) := (blk_cell BK950.out 2).trans rfl; have hcz54_3 : w53.cell? ⟨gb950, 3, none⟩ = some (.int .i64 a0_3) := (blk_cell BK950.out 3).trans rfl; have hcz54_4 : w53.cell? ⟨gb950, 4, none⟩ = some (.int .i64 a0_4) := (blk_cell BK950.out 4).trans rfl; have hcz54_5 : w53.cell? ⟨gb950, 5, none⟩ = some (.int .i64 a0_5) := (blk_cell BK950.out 5).trans rfl; have hcz54_6 : w53.cell? ⟨gb950, 6, none⟩ = some (.int .i64 a0_6) := (blk_cell BK950.out 6).trans rfl; have hfz54_0 := blk_frozen BK950.out 0; have hfz54_1 := blk_frozen BK950.out 1; have hfz54_2 := blk_frozen BK950.out 2; have hfz54_3 := blk_frozen BK950.out 3; have hfz54_4 := blk_frozen BK950.out 4; have hfz54_5 := blk_frozen BK950.out 5; have hfz54_6 := blk_frozen BK950.out 6; have hcz55_0 : w53.cell? ⟨gb947, 0, none⟩ = some (.int .i64 a1_0) := (blk_cell BK947.out 0).trans rfl; have hcz55_1 : w53.cell? ⟨gb947, 1, none⟩ = some (.int .i64 a1_1) := (blk_cell BK947.out 1).trans rfl; have hfz55_0 := blk_frozen BK947.out 0; have hfz55_1 := blk_frozen BK947.out 1) | ((with_reducible refine gate_callee (f := 21) rfl ?_); refine goesL_ (some 87) rfl rfl Try.func21 (by kernel_rfl) rfl #[.int .i64 (wrap64 (a1_0 + a2)), .int .i64 (wrap64 (a1_1 + a3))] rfl (by (try simp only [List.map_toArray, List.map_cons, List.map_nil]); first | done | rfl | (simp only [List.length_drop, List.length_take]; rfl)) ?_; (with_reducible refine (barrowlaw32_tile.calls (wrap64 (a1_0 + a2)) (wrap64 (a1_1 + a3)) t955 t956 _ A41.out).mono ?_); rintro e w56 ⟨rfl, hb⟩; refine ⟨_, rfl, ?_⟩; have n0_ := Aside0.mk (blk_below (g := gb946) (o := .cells #[.int .i64 a0_0, .int .i64 a0_1, .int .i64 a0_2, .int .i64 a0_3, .int .i64 a0_4, .int .i64 a0_5, .int .i64 a0_6] 28 (0, 0)) (by (with_reducible repeat (first | refine blk_drewN ?_ _ | refine blk_drew ?_ | refine blk_alloc ?_ _)); refine blk_far ?_ NB946_950.out _; (with_reducible repeat (first | refine blk_drewN ?_ _ | refine blk_drew ?_ | refine blk_alloc ?_ _)); refine blk_far ?_ NB946_950.out _; (with_reducible repeat (first | refine blk_drewN ?_ _ | refine blk_drew ?_ | refine blk_alloc ?_ _)); exact BK946.out) hb); have n1_ := Aside0.mk (blk_below (g := gb947) (o := .cells #[.int .i64 a1_0, .int .i64 a1_1] 26 (0, 0)) (by (with_reducible repeat (first | refine blk_drewN ?_ _ | refine blk_drew ?_ | refine blk_alloc ?_ _)); refine blk_far ?_ NB947_950.out _; (with_reducible repeat (first | refine blk_drewN ?_ _ | refine blk_drew ?_ | refine blk_alloc ?_ _)); refine blk_far ?_ NB947_950.out _; (with_reducible repeat (first | refine blk_drewN ?_ _ | refine blk_drew ?_ | refine blk_alloc ?_ _)); exact BK947.out) hb); have n2_ := Aside0.mk (blk_below (g := gb950) (o := .cells #[.int .i64 a0_0, .int .i64 t951, .int .i64 t952, .int .i64 t953, .int .i64 t954, .int .i64 a0_5, .int .i64 a0_6] 28 (0, 0)) (by (with_reducible repeat (first | refine blk_drewN ?_ _ | refine blk_drew ?_ | refine blk_alloc ?_ _)); refine blk_put (cs := #[.int .i64 a0_0, .int .i64 t951, .int .i64 t952, .int .i64 t953, .int .i64 a0_4, .int .i64 a0_5, .int .i64 a0_6]) ?_ 4 _ rfl; (with_reducible repeat (first | refine blk_drewN ?_ _ | refine blk_drew ?_ | refine blk_alloc ?_ _)); refine blk_put (cs := #[.int .i64 a0_0, .int .i64 t951, .int .i64 t952, .int .i64 a0_3, .int .i64 a0_4, .int .i64 a0_5, .int .i64 a0_6]) ?_ 3 _ rfl; (with_reducible repeat (first | refine blk_drewN ?_ _ | refine blk_drew ?_ | refine blk_alloc ?_ _)); exact BK950.out) hb); have n3_ := Aside0.mk (below_step (by repeat (first | (with_reducible first | exact HB.out | apply below_alloc | apply pw_below_drewN | apply below_drew1 | refine below_set ?_ GE946.out | refine below_set ?_ GE947.out | refine below_set ?_ GE950.out) | exact HB.out)) hb); clear BK946; clear BK947; clear BK950; clear HB; have BK946 := n0_; have BK947 := n1_; have BK950 := n2_; have HB := n3_; clear n0_ n1_ n2_ n3_; (try clear hb); (try clear hb2); (try clear hk); (try clear hi)) | ((with_reducible refine gate_dst (N := 11) rfl ?_); refine box_event ?hg (N := 11) ?hd (cs := #[.int .i64 0, .int .i64 0]) (t := 26) ?hr ?_; (case hd => rfl); (case hg => rfl); (case hr => first | (go_simp; done) | (go_simp; rfl)); intro gb957 hg w57 hbox hb; have n0_ := Aside0.mk (blk_below (g := gb946) (o := .cells #[.int .i64 a0_0, .int .i64 a0_1, .int .i64 a0_2, .int .i64 a0_3, .int .i64 a0_4, .int .i64 a0_5, .int .i64 a0_6] 28 (0, 0)) (by (with_reducible repeat (first | refine blk_drewN ?_ _ | refine blk_drew ?_ | refine blk_alloc ?_ _)); exact BK946.out) hb); have n1_ := Aside0.mk (blk_below (g := gb947) (o := .cells #[.int .i64 a1_0, .int .i64 a1_1] 26 (0, 0)) (by (with_reducible repeat (first | refine blk_drewN ?_ _ | refine blk_drew ?_ | refine blk_alloc ?_ _)); exact BK947.out) hb); have n2_ := Aside0.mk (blk_below (g := gb950) (o := .cells #[.int .i64 a0_0, .int .i64 t951, .int .i64 t952, .int .i64 t953, .int .i64 t954, .int .i64 a0_5, .int .i64 a0_6] 28 (0, 0)) (by (with_reducible repeat (first | refine blk_drewN ?_ _ | refine blk_drew ?_ | refine blk_alloc ?_ _)); exact BK950.out) hb); have n3_ := Aside0.mk (below_step (by repeat (first | (with_reducible first | exact HB.out | apply below_alloc | apply pw_below_drewN | apply below_drew1 | refine below_set ?_ GE946.out | refine below_set ?_ GE947.out | refine below_set ?_ GE950.out) | exact HB.out)) hb); have n4_ := Aside0.mk (hbox); have n5_ := Aside0.mk ((by rw [hg]; exact (below_size (by repeat (first | (with_reducible first | exact HB.out | apply below_alloc | apply pw_below_drewN | apply below_drew1 | refine below_set ?_ GE946.out | refine below_set ?_ GE947.out | refine below_set ?_ GE950.out) | exact HB.out))) : w.heap.size ≤ gb957)); have n6_ := Aside0.mk ((by rw [hg]; exact (below_size (by repeat (first | (with_reducible first | exact HB.out | apply below_alloc | apply pw_below_drewN | apply below_drew1 | refine below_set ?_ GE946.out | refine below_set ?_ GE947.out | refine below_set ?_ GE950.out) | exact HB.out))) : w.heap.size ≤ gb957)); have n7_ := Aside0.mk ((by rw [hg]; exact Nat.ne_of_lt (blk_lt (g := gb946) (o := .cells #[.int .i64 a0_0, .int .i64 a0_1, .int .i64 a0_2, .int .i64 a0_3, .int .i64 a0_4, .int .i64 a0_5, .int .i64 a0_6] 28 (0, 0)) (by (with_reducible repeat (first | refine blk_drewN ?_ _ | refine blk_drew ?_ | refine blk_alloc ?_ _)); exact BK946.out)) : gb946 ≠ gb957)); have n8_ := Aside0.mk ((by rw [hg]; exact Nat.ne_of_gt (blk_lt (g := gb946) (o := .cells #[.int .i64 a0_0, .int .i64 a0_1, .int .i64 a0_2, .int .i64 a0_3, .int .i64 a0_4, .int .i64 a0_5, .int .i64 a0_6] 28 (0, 0)) (by (with_reducible repeat (first | refine blk_drewN ?_ _ | refine blk_drew ?_ | refine blk_alloc ?_ _)); exact BK946.out)) : gb957 ≠ gb946)); have n9_ := Aside0.mk ((by rw [hg]; exact Nat.ne_of_lt (blk_lt (g := gb947) (o := .cells #[.int .i64 a1_0, .int .i64 a1_1] 26 (0, 0)) (by (with_reducible repeat (first | refine blk_drewN ?_ _ | refine blk_drew ?_ | refine blk_alloc ?_ _)); exact BK947.out)) : gb947 ≠ gb957)); have n10_ := Aside0.mk ((by rw [hg]; exact Nat.ne_of_gt (blk_lt (g := gb947) (o := .cells #[.int .i64 a1_0, .int .i64 a1_1] 26 (0, 0)) (by (with_reducible repeat (first | refine blk_drewN ?_ _ | refine blk_drew ?_ | refine blk_alloc ?_ _)); exact BK947.out)) : gb957 ≠ gb947)); have n11_ := Aside0.mk ((by rw [hg]; exact Nat.ne_of_lt (blk_lt (g := gb950) (o := .cells #[.int .i64 a0_0, .int .i64 t951, .int .i64 t952, .int .i64 t953, .int .i64 t954, .int .i64 a0_5, .int .i64 a0_6] 28 (0, 0)) (by (with_reducible repeat (first | refine blk_drewN ?_ _ | refine blk_drew ?_ | refine blk_alloc ?_ _)); exact BK950.out)) : gb950 ≠ gb957)); have n12_ := Aside0.mk ((by rw [hg]; exact Nat.ne_of_gt (blk_lt (g := gb950) (o := .cells #[.int .i64 a0_0, .int .i64 t951, .int .i64 t952, .int .i64 t953, .int .i64 t954, .int .i64 a0_5, .int .i64 a0_6] 28 (0, 0)) (by (with_reducible repeat (first | refine blk_drewN ?_ _ | refine blk_drew ?_ | refine blk_alloc ?_ _)); exact BK950.out)) : gb957 ≠ gb950)); clear BK946; clear BK947; clear BK950; clear HB; have BK946 := n0_; have BK947 := n1_; have BK950 := n2_; have HB := n3_; have BK957 := n4_; have GW957 := n5_; have GE957 := n6_; have NB946_957 := n7_; have NB957_946 := n8_; have NB947_957 := n9_; have NB957_947 := n10_; have NB950_957 := n11_; have NB957_950 := n12_; clear n0_ n1_ n2_ n3_ n4_ n5_ n6_ n7_ n8_ n9_ n10_ n11_ n12_; clear hb hbox hg; have hnb58 := NB957_946.out; have hnc58 := NB946_957.out; have hnb59 := NB957_947.out; have hnc59 := NB947_957.out; have hnb60 := NB957_950.out; have hnc60 := NB950_957.out; have hcz61_0 : w57.cell? ⟨gb957, 0, none⟩ = some (.int .i64 0) := (blk_cell BK957.out 0).trans rfl; have hcz61_1 : w57.cell? ⟨gb957, 1, none⟩ = some (.int .i64 0) := (blk_cell BK957.out 1).trans rfl; have hfz61_0 := blk_frozen BK957.out 0; have hfz61_1 := blk_frozen BK957.out 1; have hcz62_0 : w57.cell? ⟨gb947, 0, none⟩ = some (.int .i64 a1_0) := (blk_cell BK947.out 0).trans rfl; have hcz62_1 : w57.cell? ⟨gb947, 1, none⟩ = some (.int .i64 a1_1) := (blk_cell BK947.out 1).trans rfl; have hfz62_0 := blk_frozen BK947.out 0; have hfz62_1 := blk_frozen BK947.out 1) | ((with_reducible refine gate_dst (N := 12) rfl ?_); refine box_event ?hg (N := 12) ?hd (cs := #[.int .i64 0, .int .i64 0, .int .i64 0, .int .i64 0, .int .i64 0, .int .i64 0, .int .i64 0]) (t := 28) ?hr ?_; (case hd => rfl); (case hg => rfl); (case hr => first | (go_simp; done) | (go_simp; rfl)); intro gb958 hg w63 hbox hb; have n0_ := Aside0.mk (blk_below (g := gb946) (o := .cells #[.int .i64 a0_0, .int .i64 a0_1, .int .i64 a0_2, .int .i64 a0_3, .int .i64 a0_4, .int .i64 a0_5, .int .i64 a0_6] 28 (0, 0)) (by (with_reducible repeat (first | refine blk_drewN ?_ _ | refine blk_drew ?_ | refine blk_alloc ?_ _)); refine blk_far ?_ NB946_957.out _; (with_reducible repeat (first | refine blk_drewN ?_ _ | refine blk_drew ?_ | refine blk_alloc ?_ _)); refine blk_far ?_ NB946_957.out _; (with_reducible repeat (first | refine blk_drewN ?_ _ | refine blk_drew ?_ | refine blk_alloc ?_ _)); exact BK946.out) hb); have n1_ := Aside0.mk (blk_below (g := gb947) (o := .cells #[.int .i64 a1_0, .int .i64 a1_1] 26 (0, 0)) (by (with_reducible repeat (first | refine blk_drewN ?_ _ | refine blk_drew ?_ | refine blk_alloc ?_ _)); refine blk_far ?_ NB947_957.out _; (with_reducible repeat (first | refine blk_drewN ?_ _ | refine blk_drew ?_ | refine blk_alloc ?_ _)); refine blk_far ?_ NB947_957.out _; (with_reducible repeat (first | refine blk_drewN ?_ _ | refine blk_drew ?_ | refine blk_alloc ?_ _)); exact BK947.out) hb); have n2_ := Aside0.mk (blk_below (g := gb950) (o := .cells #[.int .i64 a0_0, .int .i64 t951, .int .i64 t952, .int .i64 t953, .int .i64 t954, .int .i64 a0_5, .int .i64 a0_6] 28 (0, 0)) (by (with_reducible repeat (first | refine blk_drewN ?_ _ | refine blk_drew ?_ | refine blk_alloc ?_ _)); refine blk_far ?_ NB950_957.out _; (with_reducible repeat (first | refine blk_drewN ?_ _ | refine blk_drew ?_ | refine blk_alloc ?_ _)); refine blk_far ?_ NB950_957.out _; (with_reducible repeat (first | refine blk_drewN ?_ _ | refine blk_drew ?_ | refine blk_alloc ?_ _)); exact BK950.out) hb); have n3_ := Aside0.mk (blk_below (g := gb957) (o := .cells #[.int .i64 t955, .int .i64 t956] 26 (0, 0)) (by (with_reducible repeat (first | refine blk_drewN ?_ _ | refine blk_drew ?_ | refine blk_alloc ?_ _)); refine blk_put (cs := #[.int .i64 t955, .int .i64 0]) ?_ 1 _ rfl; (with_reducible repeat (first | refine blk_drewN ?_ _ | refine blk_drew ?_ | refine blk_alloc ?_ _)); refine blk_put (cs := #[.int .i64 0, .int .i64 0]) ?_ 0 _ rfl; (with_reducible repeat (first | refine blk_drewN ?_ _ | refine blk_drew ?_ | refine blk_alloc ?_ _)); exact BK957.out) hb); have n4_ := Aside0.mk (below_step (by repeat (first | (with_reducible first | exact HB.out | apply below_alloc | apply pw_below_drewN | apply below_drew1 | refine below_set ?_ GE946.out | refine below_set ?_ GE947.out | refine below_set ?_ GE950.out | refine below_set ?_ GE957.out) | exact HB.out)) hb); have n5_ := Aside0.mk (hbox); have n6_ := Aside0.mk ((by rw [hg]; exact (below_size (by repeat (first | (with_reducible first | exact HB.out | apply below_alloc | apply pw_below_drewN | apply below_drew1 | refine below_set ?_ GE946.out | refine below_set ?_ GE947.out | refine below_set ?_ GE950.out | refine below_set ?_ GE957.out) | exact HB.out))) : w.heap.size ≤ gb958)); have n7_ := Aside0.mk ((by rw [hg]; exact (below_size (by repeat (first | (with_reducible first | exact HB.out | apply below_alloc | apply pw_below_drewN | apply below_drew1 | refine below_set ?_ GE946.out | refine below_set ?_ GE947.out | refine below_set ?_ GE950.out | refine below_set ?_ GE957.out) | exact HB.out))) : w.heap.size ≤ gb958)); have n8_ := Aside0.mk ((by rw [hg]; exact Nat.ne_of_lt (blk_lt (g := gb946) (o := .cells #[.int .i64 a0_0, .int .i64 a0_1, .int .i64 a0_2, .int .i64 a0_3, .int .i64 a0_4, .int .i64 a0_5, .int .i64 a0_6] 28 (0, 0)) (by (with_reducible repeat (first | refine blk_drewN ?_ _ | refine blk_drew ?_ | refine blk_alloc ?_ _)); refine blk_far ?_ NB946_957.out _; (with_reducible repeat (first | refine blk_drewN ?_ _ | refine blk_drew ?_ | refine blk_alloc ?_ _)); refine blk_far ?_ NB946_957.out _; (with_reducible repeat (first | refine blk_drewN ?_ _ | refine blk_drew ?_ | refine blk_alloc ?_ _)); exact BK946.out)) : gb946 ≠ gb958)); have n9_ := Aside0.mk ((by rw [hg]; exact Nat.ne_of_gt (blk_lt (g := gb946) (o := .cells #[.int .i64 a0_0, .int .i64 a0_1, .int .i64 a0_2, .int .i64 a0_3, .int .i64 a0_4, .int .i64 a0_5, .int .i64 a0_6] 28 (0, 0)) (by (with_reducible repeat (first | refine blk_drewN ?_ _ | refine blk_drew ?_ | refine blk_alloc ?_ _)); refine blk_far ?_ NB946_957.out _; (with_reducible repeat (first | refine blk_drewN ?_ _ | refine blk_drew ?_ | refine blk_alloc ?_ _)); refine blk_far ?_ NB946_957.out _; (with_reducible repeat (first | refine blk_drewN ?_ _ | refine blk_drew ?_ | refine blk_alloc ?_ _)); exact BK946.out)) : gb958 ≠ gb946)); have n10_ := Aside0.mk ((by rw [hg]; exact Nat.ne_of_lt (blk_lt (g := gb947) (o := .cells #[.int .i64 a1_0, .int .i64 a1_1] 26 (0, 0)) (by (with_reducible repeat (first | refine blk_drewN ?_ _ | refine blk_drew ?_ | refine blk_alloc ?_ _)); refine blk_far ?_ NB947_957.out _; (with_reducible repeat (first | refine blk_drewN ?_ _ | refine blk_drew ?_ | refine blk_alloc ?_ _)); refine blk_far ?_ NB947_957.out _; (with_reducible repeat (first | refine blk_drewN ?_ _ | refine blk_drew ?_ | refine blk_alloc ?_ _)); exact BK947.out)) : gb947 ≠ gb958)); have n11_ := Aside0.mk ((by rw [hg]; exact Nat.ne_of_gt (blk_lt (g := gb947) (o := .cells #[.int .i64 a1_0, .int .i64 a1_1] 26 (0, 0)) (by (with_reducible repeat (first | refine blk_drewN ?_ _ | refine blk_drew ?_ | refine blk_alloc ?_ _)); refine blk_far ?_ NB947_957.out _; (with_reducible repeat (first | refine blk_drewN ?_ _ | refine blk_drew ?_ | refine blk_alloc ?_ _)); refine blk_far ?_ NB947_957.out _; (with_reducible repeat (first | refine blk_drewN ?_ _ | refine blk_drew ?_ | refine blk_alloc ?_ _)); exact BK947.out)) : gb958 ≠ gb947)); have n12_ := Aside0.mk ((by rw [hg]; exact Nat.ne_of_lt (blk_lt (g := gb950) (o := .cells #[.int .i64 a0_0, .int .i64 t951, .int .i64 t952, .int .i64 t953, .int .i64 t954, .int .i64 a0_5, .int .i64 a0_6] 28 (0, 0)) (by (with_reducible repeat (first | refine blk_drewN ?_ _ | refine blk_drew ?_ | refine blk_alloc ?_ _)); refine blk_far ?_ NB950_957.out _; (with_reducible repeat (first | refine blk_drewN ?_ _ | refine blk_drew ?_ | refine blk_alloc ?_ _)); refine blk_far ?_ NB950_957.out _; (with_reducible repeat (first | refine blk_drewN ?_ _ | refine blk_drew ?_ | refine blk_alloc ?_ _)); exact BK950.out)) : gb950 ≠ gb958)); have n13_ := Aside0.mk ((by rw [hg]; exact Nat.ne_of_gt (blk_lt (g := gb950) (o := .cells #[.int .i64 a0_0, .int .i64 t951, .int .i64 t952, .int .i64 t953, .int .i64 t954, .int .i64 a0_5, .int .i64 a0_6] 28 (0, 0)) (by (with_reducible repeat (first | refine blk_drewN ?_ _ | refine blk_drew ?_ | refine blk_alloc ?_ _)); refine blk_far ?_ NB950_957.out _; (with_reducible repeat (first | refine blk_drewN ?_ _ | refine blk_drew ?_ | refine blk_alloc ?_ _)); refine blk_far ?_ NB950_957.out _; (with_reducible repeat (first | refine blk_drewN ?_ _ | refine blk_drew ?_ | refine blk_alloc ?_ _)); exact BK950.out)) : gb958 ≠ gb950)); have n14_ := Aside0.mk ((by rw [hg]; exact Nat.ne_of_lt (blk_lt (g := gb957) (o := .cells #[.int .i64 t955, .int .i64 t956] 26 (0, 0)) (by (with_reducible repeat (first | refine blk_drewN ?_ _ | refine blk_drew ?_ | refine blk_alloc ?_ _)); refine blk_put (cs := #[.int .i64 t955, .int .i64 0]) ?_ 1 _ rfl; (with_reducible repeat (first | refine blk_drewN ?_ _ | refine blk_drew ?_ | refine blk_alloc ?_ _)); refine blk_put (cs := #[.int .i64 0, .int .i64 0]) ?_ 0 _ rfl; (with_reducible repeat (first | refine blk_drewN ?_ _ | refine blk_drew ?_ | refine blk_alloc ?_ _)); exact BK957.out)) : gb957 ≠ gb958)); have n15_ := Aside0.mk ((by rw [hg]; exact Nat.ne_of_gt (blk_lt (g := gb957) (o := .cells #[.int .i64 t955, .int .i64 t956] 26 (0, 0)) (by (with_reducible repeat (first | refine blk_drewN ?_ _ | refine blk_drew ?_ | refine blk_alloc ?_ _)); refine blk_put (cs := #[.int .i64 t955, .int .i64 0]) ?_ 1 _ rfl; (with_reducible repeat (first | refine blk_drewN ?_ _ | refine blk_drew ?_ | refine blk_alloc ?_ _)); refine blk_put (cs := #[.int .i64 0, .int .i64 0]) ?_ 0 _ rfl; (with_reducible repeat (first | refine blk_drewN ?_ _ | refine blk_drew ?_ | refine blk_alloc ?_ _)); exact BK957.out)) : gb958 ≠ gb957)); clear BK946; clear BK947; clear BK950; clear BK957; clear HB; have BK946 := n0_; have BK947 := n1_; have BK950 := n2_; have BK957 := n3_; have HB := n4_; have BK958 := n5_; have GW958 := n6_; have GE958 := n7_; have NB946_958 := n8_; have NB958_946 := n9_; have NB947_958 := n10_; have NB958_947 := n11_; have NB950_958 := n12_; have NB958_950 := n13_; have NB957_958 := n14_; have NB958_957 := n15_; clear n0_ n1_ n2_ n3_ n4_ n5_ n6_ n7_ n8_ n9_ n10_ n11_ n12_ n13_ n14_ n15_; clear hb hbox hg; have hnb64 := NB958_946.out; have hnc64 := NB946_958.out; have hnb65 := NB958_947.out; have hnc65 := NB947_958.out; have hnb66 := NB958_950.out; have hnc66 := NB950_958.out; have hnb67 := NB958_957.out; have hnc67 := NB957_958.out; have hcz68_0 : w63.cell? ⟨gb958, 0, none⟩ = some (.int .i64 0) := (blk_cell BK958.out 0).trans rfl; have hcz68_1 : w63.cell? ⟨gb958, 1, none⟩ = some (.int .i64 0) := (blk_cell BK958.out 1).trans rfl; have hcz68_2 : w63.cell? ⟨gb958, 2, none⟩ = some (.int .i64 0) := (blk_cell BK958.out 2).trans rfl; have hcz68_3 : w63.cell? ⟨gb958, 3, none⟩ = some (.int .i64 0) := (blk_cell BK958.out 3).trans rfl; have hcz68_4 : w63.cell? ⟨gb958, 4, none⟩ = some (.int .i64 0) := (blk_cell BK958.out 4).trans rfl; have hcz68_5 : w63.cell? ⟨gb958, 5, none⟩ = some (.int .i64 0) := (blk_cell BK958.out 5).trans rfl; have hcz68_6 : w63.cell? ⟨gb958, 6, none⟩ = some (.int .i64 0) := (blk_cell BK958.out 6).trans rfl; have hfz68_0 := blk_frozen BK958.out 0; have hfz68_1 := blk_frozen BK958.out 1; have hfz68_2 := blk_frozen BK958.out 2; have hfz68_3 := blk_frozen BK958.out 3; have hfz68_4 := blk_frozen BK958.out 4; have hfz68_5 := blk_frozen BK958.out 5; have hfz68_6 := blk_frozen BK958.out 6))
        (try simp only [Act.put, sT, sZ, sS])
        go_cut [98, 9] (fun v98 v9 wc => ∃ (kq : Nat) (x98_41 : Bool), v98 = .bool x98_41 ∧ v9 = .bool t948 ∧ Aside0 (barrowlaw32_AreaMoves.j1 kq t948 x98_41 a0_0 a0_1 a0_2 a0_3 a0_4 a0_5 a0_6 a1_0 a1_1 a0_0 t951 t952 t953 t954 a0_5 a0_6 t955 t956 = some r) ∧ Aside0 (kq ≤ kj5) ∧ Aside0 (wc.heap[gb946]? = some (.cells #[.int .i64 a0_0, .int .i64 a0_1, .int .i64 a0_2, .int .i64 a0_3, .int .i64 a0_4, .int .i64 a0_5, .int .i64 a0_6] 28 (0, 0))) ∧ Aside0 (wc.heap[gb947]? = some (.cells #[.int .i64 a1_0, .int .i64 a1_1] 26 (0, 0))) ∧ Aside0 (wc.heap[gb950]? = some (.cells #[.int .i64 a0_0, .int .i64 t951, .int .i64 t952, .int .i64 t953, .int .i64 t954, .int .i64 a0_5, .int .i64 a0_6] 28 (0, 0))) ∧ Aside0 (wc.heap[gb957]? = some (.cells #[.int .i64 t955, .int .i64 t956] 26 (0, 0))) ∧ Aside0 (wc.heap[gb958]? = some (.cells #[.int .i64 3, .int .i64 a1_0, .int .i64 a1_1, .int .i64 t955, .int .i64 t956, .int .i64 0, .int .i64 0] 28 (0, 0))) ∧ Aside0 (Below w.heap.size w wc))
        case first =>
          have H := HC42.out
          clear HC42
          replace H := Option.bind_eq_some_iff.mp H
          obtain ⟨t959, A690, H⟩ := H
          replace H : (if t959 = true then ((area_Right.f 3 a1_0 a1_1 t955 t956 0 0).bind fun t960 => (barrowlaw32_AreaMoves.j1 kj5 t948 (!t960) a0_0 a0_1 a0_2 a0_3 a0_4 a0_5 a0_6 a1_0 a1_1 a0_0 t951 t952 t953 t954 a0_5 a0_6 t955 t956)) else (barrowlaw32_AreaMoves.j1 kj5 t948 true a0_0 a0_1 a0_2 a0_3 a0_4 a0_5 a0_6 a1_0 a1_1 a0_0 t951 t952 t953 t954 a0_5 a0_6 t955 t956)) = some r := H
          have A69 := Aside0.mk A690
          clear A690
          by_cases c70 : t959 = true
          · subst c70
            have H1 : ((area_Right.f 3 a1_0 a1_1 t955 t956 0 0).bind fun t960 => (barrowlaw32_AreaMoves.j1 kj5 t948 (!t960) a0_0 a0_1 a0_2 a0_3 a0_4 a0_5 a0_6 a1_0 a1_1 a0_0 t951 t952 t953 t954 a0_5 a0_6 t955 t956)) = some r := by rw [if_pos rfl] at H; exact H
            clear H
            have H := H1
            clear H1
            replace H := Option.bind_eq_some_iff.mp H
            obtain ⟨t960, A710, H⟩ := H
            replace H : (barrowlaw32_AreaMoves.j1 kj5 t948 (!t960) a0_0 a0_1 a0_2 a0_3 a0_4 a0_5 a0_6 a1_0 a1_1 a0_0 t951 t952 t953 t954 a0_5 a0_6 t955 t956) = some r := H
            have A71 := Aside0.mk A710
            clear A710
            have H' := Aside0.mk H
            clear H
            have hnb72 := NB950_946.out
            have hnc72 := NB946_950.out
            have hnb73 := NB950_947.out
            have hnc73 := NB947_950.out
            have hnb74 := NB950_957.out
            have hnc74 := NB957_950.out
            have hnb75 := NB950_958.out
            have hnc75 := NB958_950.out
            have hcz76_0 : w63.cell? ⟨gb950, 0, none⟩ = some (.int .i64 a0_0) := (blk_cell BK950.out 0).trans rfl
            have hcz76_1 : w63.cell? ⟨gb950, 1, none⟩ = some (.int .i64 t951) := (blk_cell BK950.out 1).trans rfl
            have hcz76_2 : w63.cell? ⟨gb950, 2, none⟩ = some (.int .i64 t952) := (blk_cell BK950.out 2).trans rfl
            have hcz76_3 : w63.cell? ⟨gb950, 3, none⟩ = some (.int .i64 t953) := (blk_cell BK950.out 3).trans rfl
            have hcz76_4 : w63.cell? ⟨gb950, 4, none⟩ = some (.int .i64 t954) := (blk_cell BK950.out 4).trans rfl
            have hcz76_5 : w63.cell? ⟨gb950, 5, none⟩ = some (.int .i64 a0_5) := (blk_cell BK950.out 5).trans rfl
            have hcz76_6 : w63.cell? ⟨gb950, 6, none⟩ = some (.int .i64 a0_6) := (blk_cell BK950.out 6).trans rfl
            have hfz76_0 := blk_frozen BK950.out 0
            have hfz76_1 := blk_frozen BK950.out 1
            have hfz76_2 := blk_frozen BK950.out 2
            have hfz76_3 := blk_frozen BK950.out 3
            have hfz76_4 := blk_frozen BK950.out 4
            have hfz76_5 := blk_frozen BK950.out 5
            have hfz76_6 := blk_frozen BK950.out 6
            go_wp2_with (first | ((with_reducible refine gate_callee (f := 9) rfl ?_); refine goesL_ (some 92) rfl rfl Try.func9 (by kernel_rfl) rfl #[.agg #[.int .i64 a0_0, .int .i64 t951, .int .i64 t952, .int .i64 t953, .int .i64 t954, .int .i64 a0_5, .int .i64 a0_6]] rfl (by (try simp only [List.map_toArray, List.map_cons, List.map_nil]); first | done | rfl | (simp only [List.length_drop, List.length_take]; rfl)) ?_; (with_reducible refine (area_Right.calls a0_0 t951 t952 t953 t954 a0_5 a0_6 true _ A69.out).mono ?_); rintro e w77 ⟨rfl, hb⟩; refine ⟨_, rfl, ?_⟩; have n0_ := Aside0.mk (blk_below (g := gb946) (o := .cells #[.int .i64 a0_0, .int .i64 a0_1, .int .i64 a0_2, .int .i64 a0_3, .int .i64 a0_4, .int .i64 a0_5, .int .i64 a0_6] 28 (0, 0)) (by (with_reducible repeat (first | refine blk_drewN ?_ _ | refine blk_drew ?_ | refine blk_alloc ?_ _)); refine blk_far ?_ NB946_958.out _; (with_reducible repeat (first | refine blk_drewN ?_ _ | refine blk_drew ?_ | refine blk_alloc ?_ _)); refine blk_far ?_ NB946_958.out _; (with_reducible repeat (first | refine blk_drewN ?_ _ | refine blk_drew ?_ | refine blk_alloc ?_ _)); refine blk_far ?_ NB946_958.out _; (with_reducible repeat (first | refine blk_drewN ?_ _ | refine blk_drew ?_ | refine blk_alloc ?_ _)); refine blk_far ?_ NB946_958.out _; (with_reducible repeat (first | refine blk_drewN ?_ _ | refine blk_drew ?_ | refine blk_alloc ?_ _)); refine blk_far ?_ NB946_958.out _; (with_reducible repeat (first | refine blk_drewN ?_ _ | refine blk_drew ?_ | refine blk_alloc ?_ _)); refine blk_far ?_ NB946_958.out _; (with_reducible repeat (first | refine blk_drewN ?_ _ | refine blk_drew ?_ | refine blk_alloc ?_ _)); refine blk_far ?_ NB946_958.out _; (with_reducible repeat (first | refine blk_drewN ?_ _ | refine blk_drew ?_ | refine blk_alloc ?_ _)); exact BK946.out) hb); have n1_ := Aside0.mk (blk_below (g := gb947) (o := .cells #[.int .i64 a1_0, .int .i64 a1_1] 26 (0, 0)) (by (with_reducible repeat (first | refine blk_drewN ?_ _ | refine blk_drew ?_ | refine blk_alloc ?_ _)); refine blk_far ?_ NB947_958.out _; (with_reducible repeat (first | refine blk_drewN ?_ _ | refine blk_drew ?_ | refine blk_alloc ?_ _)); refine blk_far ?_ NB947_958.out _; (with_reducible repeat (first | refine blk_drewN ?_ _ | refine blk_drew ?_ | refine blk_alloc ?_ _)); refine blk_far ?_ NB947_958.out _; (with_reducible repeat (first | refine blk_drewN ?_ _ | refine blk_drew ?_ | refine blk_alloc ?_ _)); refine blk_far ?_ NB947_958.out _; (with_reducible repeat (first | refine blk_drewN ?_ _ | refine blk_drew ?_ | refine blk_alloc ?_ _)); refine blk_far ?_ NB947_958.out _; (with_reducible repeat (first | refine blk_drewN ?_ _ | refine blk_drew ?_ | refine blk_alloc ?_ _)); refine blk_far ?_ NB947_958.out _; (with_reducible repeat (first | refine blk_drewN ?_ _ | refine blk_drew ?_ | refine blk_alloc ?_ _)); refine blk_far ?_ NB947_958.out _; (with_reducible repeat (first | refine blk_drewN ?_ _ | refine blk_drew ?_ | refine blk_alloc ?_ _)); exact BK947.out) hb); have n2_ := Aside0.mk (blk_below (g := gb950) (o := .cells #[.int .i64 a0_0, .int .i64 t951, .int .i64 t952, .int .i64 t953, .int .i64 t954, .int .i64 a0_5, .int .i64 a0_6] 28 (0, 0)) (by (with_reducible repeat (first | refine blk_drewN ?_ _ | refine blk_drew ?_ | refine blk_alloc ?_ _)); refine blk_far ?_ NB950_958.out _; (with_reducible repeat (first | refine blk_drewN ?_ _ | refine blk_drew ?_ | refine blk_alloc ?_ _)); refine blk_far ?_ NB950_958.out _; (with_reducible repeat (first | refine blk_drewN ?_ _ | refine blk_drew ?_ | refine blk_alloc ?_ _)); refine blk_far ?_ NB950_958.out _; (with_reducible repeat (first | refine blk_drewN ?_ _ | refine blk_drew ?_ | refine blk_alloc ?_ _)); refine blk_far ?_ NB950_958.out _; (with_reducible repeat (first | refine blk_drewN ?_ _ | refine blk_drew ?_ | refine blk_alloc ?_ _)); refine blk_far ?_ NB950_958.out _; (with_reducible repeat (first | refine blk_drewN ?_ _ | refine blk_drew ?_ | refine blk_alloc ?_ _)); refine blk_far ?_ NB950_958.out _; (with_reducible repeat (first | refine blk_drewN ?_ _ | refine blk_drew ?_ | refine blk_alloc ?_ _)); refine blk_far ?_ NB950_958.out _; (with_reducible repeat (first | refine blk_drewN ?_ _ | refine blk_drew ?_ | refine blk_alloc ?_ _)); exact BK950.out) hb); have n3_ := Aside0.mk (blk_below (g := gb957) (o := .cells #[.int .i64 t955, .int .i64 t956] 26 (0, 0)) (by (with_reducible repeat (first | refine blk_drewN ?_ _ | refine blk_drew ?_ | refine blk_alloc ?_ _)); refine blk_far ?_ NB957_958.out _; (with_reducible repeat (first | refine blk_drewN ?_ _ | refine blk_drew ?_ | refine blk_alloc ?_ _)); refine blk_far ?_ NB957_958.out _; (with_reducible repeat (first | refine blk_drewN ?_ _ | refine blk_drew ?_ | refine blk_alloc ?_ _)); refine blk_far ?_ NB957_958.out _; (with_reducible repeat (first | refine blk_drewN ?_ _ | refine blk_drew ?_ | refine blk_alloc ?_ _)); refine blk_far ?_ NB957_958.out _; (with_reducible repeat (first | refine blk_drewN ?_ _ | refine blk_drew ?_ | refine blk_alloc ?_ _)); refine blk_far ?_ NB957_958.out _; (with_reducible repeat (first | refine blk_drewN ?_ _ | refine blk_drew ?_ | refine blk_alloc ?_ _)); refine blk_far ?_ NB957_958.out _; (with_reducible repeat (first | refine blk_drewN ?_ _ | refine blk_drew ?_ | refine blk_alloc ?_ _)); refine blk_far ?_ NB957_958.out _; (with_reducible repeat (first | refine blk_drewN ?_ _ | refine blk_drew ?_ | refine blk_alloc ?_ _)); exact BK957.out) hb); have n4_ := Aside0.mk (blk_below (g := gb958) (o := .cells #[.int .i64 3, .int .i64 a1_0, .int .i64 a1_1, .int .i64 t955, .int .i64 t956, .int .i64 0, .int .i64 0] 28 (0, 0)) (by (with_reducible repeat (first | refine blk_drewN ?_ _ | refine blk_drew ?_ | refine blk_alloc ?_ _)); refine blk_put (cs := #[.int .i64 3, .int .i64 a1_0, .int .i64 a1_1, .int .i64 t955, .int .i64 t956, .int .i64 0, .int .i64 0]) ?_ 6 _ rfl; (with_reducible repeat (first | refine blk_drewN ?_ _ | refine blk_drew ?_ | refine blk_alloc ?_ _)); refine blk_put (cs := #[.int .i64 3, .int .i64 a1_0, .int .i64 a1_1, .int .i64 t955, .int .i64 t956, .int .i64 0, .int .i64 0]) ?_ 5 _ rfl; (with_reducible repeat (first | refine blk_drewN ?_ _ | refine blk_drew ?_ | refine blk_alloc ?_ _)); refine blk_put (cs := #[.int .i64 3, .int .i64 a1_0, .int .i64 a1_1, .int .i64 t955, .int .i64 0, .int .i64 0, .int .i64 0]) ?_ 4 _ rfl; (with_reducible repeat (first | refine blk_drewN ?_ _ | refine blk_drew ?_ | refine blk_alloc ?_ _)); refine blk_put (cs := #[.int .i64 3, .int .i64 a1_0, .int .i64 a1_1, .int .i64 0, .int .i64 0, .int .i64 0, .int .i64 0]) ?_ 3 _ rfl; (with_reducible repeat (first | refine blk_drewN ?_ _ | refine blk_drew ?_ | refine blk_alloc ?_ _)); refine blk_put (cs := #[.int .i64 3, .int .i64 a1_0, .int .i64 0, .int .i64 0, .int .i64 0, .int .i64 0, .int .i64 0]) ?_ 2 _ rfl; (with_reducible repeat (first | refine blk_drewN ?_ _ | refine blk_drew ?_ | refine blk_alloc ?_ _)); refine blk_put (cs := #[.int .i64 3, .int .i64 0, .int .i64 0, .int .i64 0, .int .i64 0, .int .i64 0, .int .i64 0]) ?_ 1 _ rfl; (with_reducible repeat (first | refine blk_drewN ?_ _ | refine blk_drew ?_ | refine blk_alloc ?_ _)); refine blk_put (cs := #[.int .i64 0, .int .i64 0, .int .i64 0, .int .i64 0, .int .i64 0, .int .i64 0, .int .i64 0]) ?_ 0 _ rfl; (with_reducible repeat (first | refine blk_drewN ?_ _ | refine blk_drew ?_ | refine blk_alloc ?_ _)); exact BK958.out) hb); have n5_ := Aside0.mk (below_step (by repeat (first | (with_reducible first | exact HB.out | apply below_alloc | apply pw_below_drewN | apply below_drew1 | refine below_set ?_ GE946.out | refine below_set ?_ GE947.out | refine below_set ?_ GE950.out | refine below_set ?_ GE957.out | refine below_set ?_ GE958.out) | exact HB.out)) hb); clear BK946; clear BK947; clear BK950; clear BK957; clear BK958; clear HB; have BK946 := n0_; have BK947 := n1_; have BK950 := n2_; have BK957 := n3_; have BK958 := n4_; have HB := n5_; clear n0_ n1_ n2_ n3_ n4_ n5_; (try clear hb); (try clear hb2); (try clear hk); (try clear hi); have hnb78 := NB958_946.out; have hnc78 := NB946_958.out; have hnb79 := NB958_947.out; have hnc79 := NB947_958.out; have hnb80 := NB958_957.out; have hnc80 := NB957_958.out; have hcz81_0 : w77.cell? ⟨gb958, 0, none⟩ = some (.int .i64 3) := (blk_cell BK958.out 0).trans rfl; have hcz81_1 : w77.cell? ⟨gb958, 1, none⟩ = some (.int .i64 a1_0) := (blk_cell BK958.out 1).trans rfl; have hcz81_2 : w77.cell? ⟨gb958, 2, none⟩ = some (.int .i64 a1_1) := (blk_cell BK958.out 2).trans rfl; have hcz81_3 : w77.cell? ⟨gb958, 3, none⟩ = some (.int .i64 t955) := (blk_cell BK958.out 3).trans rfl; have hcz81_4 : w77.cell? ⟨gb958, 4, none⟩ = some (.int .i64 t956) := (blk_cell BK958.out 4).trans rfl; have hcz81_5 : w77.cell? ⟨gb958, 5, none⟩ = some (.int .i64 0) := (blk_cell BK958.out 5).trans rfl; have hcz81_6 : w77.cell? ⟨gb958, 6, none⟩ = some (.int .i64 0) := (blk_cell BK958.out 6).trans rfl; have hfz81_0 := blk_frozen BK958.out 0; have hfz81_1 := blk_frozen BK958.out 1; have hfz81_2 := blk_frozen BK958.out 2; have hfz81_3 := blk_frozen BK958.out 3; have hfz81_4 := blk_frozen BK958.out 4; have hfz81_5 := blk_frozen BK958.out 5; have hfz81_6 := blk_frozen BK958.out 6) | (go_at_call 9; (with_reducible refine (area_Right.calls 3 a1_0 a1_1 t955 t956 0 0 t960 _ A71.out).mono ?_); rintro e w82 ⟨rfl, hb⟩; have n0_ := Aside0.mk (blk_below (g := gb946) (o := .cells #[.int .i64 a0_0, .int .i64 a0_1, .int .i64 a0_2, .int .i64 a0_3, .int .i64 a0_4, .int .i64 a0_5, .int .i64 a0_6] 28 (0, 0)) (by (with_reducible repeat (first | refine blk_drewN ?_ _ | refine blk_drew ?_ | refine blk_alloc ?_ _)); exact BK946.out) hb); have n1_ := Aside0.mk (blk_below (g := gb947) (o := .cells #[.int .i64 a1_0, .int .i64 a1_1] 26 (0, 0)) (by (with_reducible repeat (first | refine blk_drewN ?_ _ | refine blk_drew ?_ | refine blk_alloc ?_ _)); exact BK947.out) hb); have n2_ := Aside0.mk (blk_below (g := gb950) (o := .cells #[.int .i64 a0_0, .int .i64 t951, .int .i64 t952, .int .i64 t953, .int .i64 t954, .int .i64 a0_5, .int .i64 a0_6] 28 (0, 0)) (by (with_reducible repeat (first | refine blk_drewN ?_ _ | refine blk_drew ?_ | refine blk_alloc ?_ _)); exact BK950.out) hb); have n3_ := Aside0.mk (blk_below (g := gb957) (o := .cells #[.int .i64 t955, .int .i64 t956] 26 (0, 0)) (by (with_reducible repeat (first | refine blk_drewN ?_ _ | refine blk_drew ?_ | refine blk_alloc ?_ _)); exact BK957.out) hb); have n4_ := Aside0.mk (blk_below (g := gb958) (o := .cells #[.int .i64 3, .int .i64 a1_0, .int .i64 a1_1, .int .i64 t955, .int .i64 t956, .int .i64 0, .int .i64 0] 28 (0, 0)) (by (with_reducible repeat (first | refine blk_drewN ?_ _ | refine blk_drew ?_ | refine blk_alloc ?_ _)); exact BK958.out) hb); have n5_ := Aside0.mk (below_step (by repeat (first | (with_reducible first | exact HB.out | apply below_alloc | apply pw_below_drewN | apply below_drew1 | refine below_set ?_ GE946.out | refine below_set ?_ GE947.out | refine below_set ?_ GE950.out | refine below_set ?_ GE957.out | refine below_set ?_ GE958.out) | exact HB.out)) hb); clear BK946; clear BK947; clear BK950; clear BK957; clear BK958; clear HB; have BK946 := n0_; have BK947 := n1_; have BK950 := n2_; have BK957 := n3_; have BK958 := n4_; have HB := n5_; clear n0_ n1_ n2_ n3_ n4_ n5_; (try clear hb); (try clear hb2); (try clear hk); (try clear hi)))
            go_meet
            case rel => exact ⟨_, (!t960), (by first | rfl | (simp; done) | (simp [*]; done)), (by first | rfl | (simp; done) | (simp [*]; done)), H', ⟨by have := HJ5.out; first | omega | exact Nat.le_refl _⟩, ⟨by (with_reducible repeat (first | refine blk_drewN ?_ _ | refine blk_drew ?_ | refine blk_alloc ?_ _)); exact BK946.out⟩, ⟨by (with_reducible repeat (first | refine blk_drewN ?_ _ | refine blk_drew ?_ | refine blk_alloc ?_ _)); exact BK947.out⟩, ⟨by (with_reducible repeat (first | refine blk_drewN ?_ _ | refine blk_drew ?_ | refine blk_alloc ?_ _)); exact BK950.out⟩, ⟨by (with_reducible repeat (first | refine blk_drewN ?_ _ | refine blk_drew ?_ | refine blk_alloc ?_ _)); exact BK957.out⟩, ⟨by (with_reducible repeat (first | refine blk_drewN ?_ _ | refine blk_drew ?_ | refine blk_alloc ?_ _)); exact BK958.out⟩, ⟨by repeat (first | (with_reducible first | exact HB.out | apply below_alloc | apply pw_below_drewN | apply below_drew1 | refine below_set ?_ GE946.out | refine below_set ?_ GE947.out | refine below_set ?_ GE950.out | refine below_set ?_ GE957.out | refine below_set ?_ GE958.out) | exact HB.out)⟩⟩
          · replace c70 := Bool.eq_false_iff.mpr c70
            subst c70
            have H1 : (barrowlaw32_AreaMoves.j1 kj5 t948 true a0_0 a0_1 a0_2 a0_3 a0_4 a0_5 a0_6 a1_0 a1_1 a0_0 t951 t952 t953 t954 a0_5 a0_6 t955 t956) = some r := by rw [if_neg (show ¬ (false = true) by decide)] at H; exact H
            clear H
            have H := H1
            clear H1
            have H' := Aside0.mk H
            clear H
            have hnb83 := NB950_946.out
            have hnc83 := NB946_950.out
            have hnb84 := NB950_947.out
            have hnc84 := NB947_950.out
            have hnb85 := NB950_957.out
            have hnc85 := NB957_950.out
            have hnb86 := NB950_958.out
            have hnc86 := NB958_950.out
            have hcz87_0 : w63.cell? ⟨gb950, 0, none⟩ = some (.int .i64 a0_0) := (blk_cell BK950.out 0).trans rfl
            have hcz87_1 : w63.cell? ⟨gb950, 1, none⟩ = some (.int .i64 t951) := (blk_cell BK950.out 1).trans rfl
            have hcz87_2 : w63.cell? ⟨gb950, 2, none⟩ = some (.int .i64 t952) := (blk_cell BK950.out 2).trans rfl
            have hcz87_3 : w63.cell? ⟨gb950, 3, none⟩ = some (.int .i64 t953) := (blk_cell BK950.out 3).trans rfl
            have hcz87_4 : w63.cell? ⟨gb950, 4, none⟩ = some (.int .i64 t954) := (blk_cell BK950.out 4).trans rfl
            have hcz87_5 : w63.cell? ⟨gb950, 5, none⟩ = some (.int .i64 a0_5) := (blk_cell BK950.out 5).trans rfl
            have hcz87_6 : w63.cell? ⟨gb950, 6, none⟩ = some (.int .i64 a0_6) := (blk_cell BK950.out 6).trans rfl
            have hfz87_0 := blk_frozen BK950.out 0
            have hfz87_1 := blk_frozen BK950.out 1
            have hfz87_2 := blk_frozen BK950.out 2
            have hfz87_3 := blk_frozen BK950.out 3
            have hfz87_4 := blk_frozen BK950.out 4
            have hfz87_5 := blk_frozen BK950.out 5
            have hfz87_6 := blk_frozen BK950.out 6
            go_wp2_with (first | ((with_reducible refine gate_callee (f := 9) rfl ?_); refine goesL_ (some 92) rfl rfl Try.func9 (by kernel_rfl) rfl #[.agg #[.int .i64 a0_0, .int .i64 t951, .int .i64 t952, .int .i64 t953, .int .i64 t954, .int .i64 a0_5, .int .i64 a0_6]] rfl (by (try simp only [List.map_toArray, List.map_cons, List.map_nil]); first | done | rfl | (simp only [List.length_drop, List.length_take]; rfl)) ?_; (with_reducible refine (area_Right.calls a0_0 t951 t952 t953 t954 a0_5 a0_6 false _ A69.out).mono ?_); rintro e w88 ⟨rfl, hb⟩; refine ⟨_, rfl, ?_⟩; have n0_ := Aside0.mk (blk_below (g := gb946) (o := .cells #[.int .i64 a0_0, .int .i64 a0_1, .int .i64 a0_2, .int .i64 a0_3, .int .i64 a0_4, .int .i64 a0_5, .int .i64 a0_6] 28 (0, 0)) (by (with_reducible repeat (first | refine blk_drewN ?_ _ | refine blk_drew ?_ | refine blk_alloc ?_ _)); refine blk_far ?_ NB946_958.out _; (with_reducible repeat (first | refine blk_drewN ?_ _ | refine blk_drew ?_ | refine blk_alloc ?_ _)); refine blk_far ?_ NB946_958.out _; (with_reducible repeat (first | refine blk_drewN ?_ _ | refine blk_drew ?_ | refine blk_alloc ?_ _)); refine blk_far ?_ NB946_958.out _; (with_reducible repeat (first | refine blk_drewN ?_ _ | refine blk_drew ?_ | refine blk_alloc ?_ _)); refine blk_far ?_ NB946_958.out _; (with_reducible repeat (first | refine blk_drewN ?_ _ | refine blk_drew ?_ | refine blk_alloc ?_ _)); refine blk_far ?_ NB946_958.out _; (with_reducible repeat (first | refine blk_drewN ?_ _ | refine blk_drew ?_ | refine blk_alloc ?_ _)); refine blk_far ?_ NB946_958.out _; (with_reducible repeat (first | refine blk_drewN ?_ _ | refine blk_drew ?_ | refine blk_alloc ?_ _)); refine blk_far ?_ NB946_958.out _; (with_reducible repeat (first | refine blk_drewN ?_ _ | refine blk_drew ?_ | refine blk_alloc ?_ _)); exact BK946.out) hb); have n1_ := Aside0.mk (blk_below (g := gb947) (o := .cells #[.int .i64 a1_0, .int .i64 a1_1] 26 (0, 0)) (by (with_reducible repeat (first | refine blk_drewN ?_ _ | refine blk_drew ?_ | refine blk_alloc ?_ _)); refine blk_far ?_ NB947_958.out _; (with_reducible repeat (first | refine blk_drewN ?_ _ | refine blk_drew ?_ | refine blk_alloc ?_ _)); refine blk_far ?_ NB947_958.out _; (with_reducible repeat (first | refine blk_drewN ?_ _ | refine blk_drew ?_ | refine blk_alloc ?_ _)); refine blk_far ?_ NB947_958.out _; (with_reducible repeat (first | refine blk_drewN ?_ _ | refine blk_drew ?_ | refine blk_alloc ?_ _)); refine blk_far ?_ NB947_958.out _; (with_reducible repeat (first | refine blk_drewN ?_ _ | refine blk_drew ?_ | refine blk_alloc ?_ _)); refine blk_far ?_ NB947_958.out _; (with_reducible repeat (first | refine blk_drewN ?_ _ | refine blk_drew ?_ | refine blk_alloc ?_ _)); refine blk_far ?_ NB947_958.out _; (with_reducible repeat (first | refine blk_drewN ?_ _ | refine blk_drew ?_ | refine blk_alloc ?_ _)); refine blk_far ?_ NB947_958.out _; (with_reducible repeat (first | refine blk_drewN ?_ _ | refine blk_drew ?_ | refine blk_alloc ?_ _)); exact BK947.out) hb); have n2_ := Aside0.mk (blk_below (g := gb950) (o := .cells #[.int .i64 a0_0, .int .i64 t951, .int .i64 t952, .int .i64 t953, .int .i64 t954, .int .i64 a0_5, .int .i64 a0_6] 28 (0, 0)) (by (with_reducible repeat (first | refine blk_drewN ?_ _ | refine blk_drew ?_ | refine blk_alloc ?_ _)); refine blk_far ?_ NB950_958.out _; (with_reducible repeat (first | refine blk_drewN ?_ _ | refine blk_drew ?_ | refine blk_alloc ?_ _)); refine blk_far ?_ NB950_958.out _; (with_reducible repeat (first | refine blk_drewN ?_ _ | refine blk_drew ?_ | refine blk_alloc ?_ _)); refine blk_far ?_ NB950_958.out _; (with_reducible repeat (first | refine blk_drewN ?_ _ | refine blk_drew ?_ | refine blk_alloc ?_ _)); refine blk_far ?_ NB950_958.out _; (with_reducible repeat (first | refine blk_drewN ?_ _ | refine blk_drew ?_ | refine blk_alloc ?_ _)); refine blk_far ?_ NB950_958.out _; (with_reducible repeat (first | refine blk_drewN ?_ _ | refine blk_drew ?_ | refine blk_alloc ?_ _)); refine blk_far ?_ NB950_958.out _; (with_reducible repeat (first | refine blk_drewN ?_ _ | refine blk_drew ?_ | refine blk_alloc ?_ _)); refine blk_far ?_ NB950_958.out _; (with_reducible repeat (first | refine blk_drewN ?_ _ | refine blk_drew ?_ | refine blk_alloc ?_ _)); exact BK950.out) hb); have n3_ := Aside0.mk (blk_below (g := gb957) (o := .cells #[.int .i64 t955, .int .i64 t956] 26 (0, 0)) (by (with_reducible repeat (first | refine blk_drewN ?_ _ | refine blk_drew ?_ | refine blk_alloc ?_ _)); refine blk_far ?_ NB957_958.out _; (with_reducible repeat (first | refine blk_drewN ?_ _ | refine blk_drew ?_ | refine blk_alloc ?_ _)); refine blk_far ?_ NB957_958.out _; (with_reducible repeat (first | refine blk_drewN ?_ _ | refine blk_drew ?_ | refine blk_alloc ?_ _)); refine blk_far ?_ NB957_958.out _; (with_reducible repeat (first | refine blk_drewN ?_ _ | refine blk_drew ?_ | refine blk_alloc ?_ _)); refine blk_far ?_ NB957_958.out _; (with_reducible repeat (first | refine blk_drewN ?_ _ | refine blk_drew ?_ | refine blk_alloc ?_ _)); refine blk_far ?_ NB957_958.out _; (with_reducible repeat (first | refine blk_drewN ?_ _ | refine blk_drew ?_ | refine blk_alloc ?_ _)); refine blk_far ?_ NB957_958.out _; (with_reducible repeat (first | refine blk_drewN ?_ _ | refine blk_drew ?_ | refine blk_alloc ?_ _)); refine blk_far ?_ NB957_958.out _; (with_reducible repeat (first | refine blk_drewN ?_ _ | refine blk_drew ?_ | refine blk_alloc ?_ _)); exact BK957.out) hb); have n4_ := Aside0.mk (blk_below (g := gb958) (o := .cells #[.int .i64 3, .int .i64 a1_0, .int .i64 a1_1, .int .i64 t955, .int .i64 t956, .int .i64 0, .int .i64 0] 28 (0, 0)) (by (with_reducible repeat (first | refine blk_drewN ?_ _ | refine blk_drew ?_ | refine blk_alloc ?_ _)); refine blk_put (cs := #[.int .i64 3, .int .i64 a1_0, .int .i64 a1_1, .int .i64 t955, .int .i64 t956, .int .i64 0, .int .i64 0]) ?_ 6 _ rfl; (with_reducible repeat (first | refine blk_drewN ?_ _ | refine blk_drew ?_ | refine blk_alloc ?_ _)); refine blk_put (cs := #[.int .i64 3, .int .i64 a1_0, .int .i64 a1_1, .int .i64 t955, .int .i64 t956, .int .i64 0, .int .i64 0]) ?_ 5 _ rfl; (with_reducible repeat (first | refine blk_drewN ?_ _ | refine blk_drew ?_ | refine blk_alloc ?_ _)); refine blk_put (cs := #[.int .i64 3, .int .i64 a1_0, .int .i64 a1_1, .int .i64 t955, .int .i64 0, .int .i64 0, .int .i64 0]) ?_ 4 _ rfl; (with_reducible repeat (first | refine blk_drewN ?_ _ | refine blk_drew ?_ | refine blk_alloc ?_ _)); refine blk_put (cs := #[.int .i64 3, .int .i64 a1_0, .int .i64 a1_1, .int .i64 0, .int .i64 0, .int .i64 0, .int .i64 0]) ?_ 3 _ rfl; (with_reducible repeat (first | refine blk_drewN ?_ _ | refine blk_drew ?_ | refine blk_alloc ?_ _)); refine blk_put (cs := #[.int .i64 3, .int .i64 a1_0, .int .i64 0, .int .i64 0, .int .i64 0, .int .i64 0, .int .i64 0]) ?_ 2 _ rfl; (with_reducible repeat (first | refine blk_drewN ?_ _ | refine blk_drew ?_ | refine blk_alloc ?_ _)); refine blk_put (cs := #[.int .i64 3, .int .i64 0, .int .i64 0, .int .i64 0, .int .i64 0, .int .i64 0, .int .i64 0]) ?_ 1 _ rfl; (with_reducible repeat (first | refine blk_drewN ?_ _ | refine blk_drew ?_ | refine blk_alloc ?_ _)); refine blk_put (cs := #[.int .i64 0, .int .i64 0, .int .i64 0, .int .i64 0, .int .i64 0, .int .i64 0, .int .i64 0]) ?_ 0 _ rfl; (with_reducible repeat (first | refine blk_drewN ?_ _ | refine blk_drew ?_ | refine blk_alloc ?_ _)); exact BK958.out) hb); have n5_ := Aside0.mk (below_step (by repeat (first | (with_reducible first | exact HB.out | apply below_alloc | apply pw_below_drewN | apply below_drew1 | refine below_set ?_ GE946.out | refine below_set ?_ GE947.out | refine below_set ?_ GE950.out | refine below_set ?_ GE957.out | refine below_set ?_ GE958.out) | exact HB.out)) hb); clear BK946; clear BK947; clear BK950; clear BK957; clear BK958; clear HB; have BK946 := n0_; have BK947 := n1_; have BK950 := n2_; have BK957 := n3_; have BK958 := n4_; have HB := n5_; clear n0_ n1_ n2_ n3_ n4_ n5_; (try clear hb); (try clear hb2); (try clear hk); (try clear hi)))
            go_meet
            case rel => exact ⟨_, (true), (by first | rfl | (simp; done) | (simp [*]; done)), (by first | rfl | (simp; done) | (simp [*]; done)), H', ⟨by have := HJ5.out; first | omega | exact Nat.le_refl _⟩, ⟨by (with_reducible repeat (first | refine blk_drewN ?_ _ | refine blk_drew ?_ | refine blk_alloc ?_ _)); exact BK946.out⟩, ⟨by (with_reducible repeat (first | refine blk_drewN ?_ _ | refine blk_drew ?_ | refine blk_alloc ?_ _)); exact BK947.out⟩, ⟨by (with_reducible repeat (first | refine blk_drewN ?_ _ | refine blk_drew ?_ | refine blk_alloc ?_ _)); exact BK950.out⟩, ⟨by (with_reducible repeat (first | refine blk_drewN ?_ _ | refine blk_drew ?_ | refine blk_alloc ?_ _)); exact BK957.out⟩, ⟨by (with_reducible repeat (first | refine blk_drewN ?_ _ | refine blk_drew ?_ | refine blk_alloc ?_ _)); exact BK958.out⟩, ⟨by repeat (first | (with_reducible first | exact HB.out | apply below_alloc | apply pw_below_drewN | apply below_drew1 | refine below_set ?_ GE946.out | refine below_set ?_ GE947.out | refine below_set ?_ GE950.out | refine below_set ?_ GE957.out | refine below_set ?_ GE958.out) | exact HB.out)⟩⟩
        case rest =>
          clear HC42
          try clear c1
          try clear c2
          try clear p2
          try clear c3
          try clear c4
          try clear c5
          try clear c6
          try clear p6
          try clear c7
          try clear c8
          try clear c9
          try clear c10
          try clear c10b0
          try clear c11
          try clear c11b0
          try clear c12
          try clear c12b0
          try clear c13
          try clear c13b0
          try clear c15
          try clear c16
          try clear c16b0
          try clear c17
          try clear c21
          try clear c21b0
          try clear c22
          try clear c26
          try clear c26b0
          try clear c27
          try clear c31
          try clear c35
          try clear c38
          try clear c43
          try clear c46
          try clear c47
          try clear c58
          try clear c59
          try clear c60
          try clear c64
          try clear p64
          try clear c65
          try clear c66
          try clear c67
          try clear c70
          try clear c72
          try clear c73
          try clear c74
          try clear c75
          try clear c78
          try clear c79
          try clear c80
          try clear c83
          try clear c84
          try clear c85
          try clear c86
          try clear hcz18_0
          try clear hcz18_1
          try clear hcz18_2
          try clear hcz18_3
          try clear hcz18_4
          try clear hcz18_5
          try clear hcz18_6
          try clear hcz20_0
          try clear hcz20_1
          try clear hcz23_0
          try clear hcz23_1
          try clear hcz23_2
          try clear hcz23_3
          try clear hcz23_4
          try clear hcz23_5
          try clear hcz23_6
          try clear hcz25_0
          try clear hcz25_1
          try clear hcz28_0
          try clear hcz28_1
          try clear hcz28_2
          try clear hcz28_3
          try clear hcz28_4
          try clear hcz28_5
          try clear hcz28_6
          try clear hcz30_0
          try clear hcz30_1
          try clear hcz32_0
          try clear hcz32_1
          try clear hcz32_2
          try clear hcz32_3
          try clear hcz32_4
          try clear hcz32_5
          try clear hcz32_6
          try clear hcz34_0
          try clear hcz34_1
          try clear hcz36_0
          try clear hcz36_1
          try clear hcz36_2
          try clear hcz36_3
          try clear hcz36_4
          try clear hcz36_5
          try clear hcz36_6
          try clear hcz44_0
          try clear hcz44_1
          try clear hcz44_2
          try clear hcz44_3
          try clear hcz44_4
          try clear hcz44_5
          try clear hcz44_6
          try clear hcz48_0
          try clear hcz48_1
          try clear hcz48_2
          try clear hcz48_3
          try clear hcz48_4
          try clear hcz48_5
          try clear hcz48_6
          try clear hcz49_0
          try clear hcz49_1
          try clear hcz49_2
          try clear hcz49_3
          try clear hcz49_4
          try clear hcz49_5
          try clear hcz49_6
          try clear hcz51_0
          try clear hcz51_1
          try clear hcz51_2
          try clear hcz51_3
          try clear hcz51_4
          try clear hcz51_5
          try clear hcz51_6
          try clear hcz52_0
          try clear hcz52_1
          try clear hcz52_2
          try clear hcz52_3
          try clear hcz52_4
          try clear hcz52_5
          try clear hcz52_6
          try clear hcz54_0
          try clear hcz54_1
          try clear hcz54_2
          try clear hcz54_3
          try clear hcz54_4
          try clear hcz54_5
          try clear hcz54_6
          try clear hcz55_0
          try clear hcz55_1
          try clear hcz61_0
          try clear hcz61_1
          try clear hcz62_0
          try clear hcz62_1
          try clear hcz68_0
          try clear hcz68_1
          try clear hcz68_2
          try clear hcz68_3
          try clear hcz68_4
          try clear hcz68_5
          try clear hcz68_6
          try clear hcz76_0
          try clear hcz76_1
          try clear hcz76_2
          try clear hcz76_3
          try clear hcz76_4
          try clear hcz76_5
          try clear hcz76_6
          try clear hcz81_0
          try clear hcz81_1
          try clear hcz81_2
          try clear hcz81_3
          try clear hcz81_4
          try clear hcz81_5
          try clear hcz81_6
          try clear hcz87_0
          try clear hcz87_1
          try clear hcz87_2
          try clear hcz87_3
          try clear hcz87_4
          try clear hcz87_5
          try clear hcz87_6
          try clear hfz18_0
          try clear hfz18_1
          try clear hfz18_2
          try clear hfz18_3
          try clear hfz18_4
          try clear hfz18_5
          try clear hfz18_6
          try clear hfz20_0
          try clear hfz20_1
          try clear hfz23_0
          try clear hfz23_1
          try clear hfz23_2
          try clear hfz23_3
          try clear hfz23_4
          try clear hfz23_5
          try clear hfz23_6
          try clear hfz25_0
          try clear hfz25_1
          try clear hfz28_0
          try clear hfz28_1
          try clear hfz28_2
          try clear hfz28_3
          try clear hfz28_4
          try clear hfz28_5
          try clear hfz28_6
          try clear hfz30_0
          try clear hfz30_1
          try clear hfz32_0
          try clear hfz32_1
          try clear hfz32_2
          try clear hfz32_3
          try clear hfz32_4
          try clear hfz32_5
          try clear hfz32_6
          try clear hfz34_0
          try clear hfz34_1
          try clear hfz36_0
          try clear hfz36_1
          try clear hfz36_2
          try clear hfz36_3
          try clear hfz36_4
          try clear hfz36_5
          try clear hfz36_6
          try clear hfz44_0
          try clear hfz44_1
          try clear hfz44_2
          try clear hfz44_3
          try clear hfz44_4
          try clear hfz44_5
          try clear hfz44_6
          try clear hfz48_0
          try clear hfz48_1
          try clear hfz48_2
          try clear hfz48_3
          try clear hfz48_4
          try clear hfz48_5
          try clear hfz48_6
          try clear hfz49_0
          try clear hfz49_1
          try clear hfz49_2
          try clear hfz49_3
          try clear hfz49_4
          try clear hfz49_5
          try clear hfz49_6
          try clear hfz51_0
          try clear hfz51_1
          try clear hfz51_2
          try clear hfz51_3
          try clear hfz51_4
          try clear hfz51_5
          try clear hfz51_6
          try clear hfz52_0
          try clear hfz52_1
          try clear hfz52_2
          try clear hfz52_3
          try clear hfz52_4
          try clear hfz52_5
          try clear hfz52_6
          try clear hfz54_0
          try clear hfz54_1
          try clear hfz54_2
          try clear hfz54_3
          try clear hfz54_4
          try clear hfz54_5
          try clear hfz54_6
          try clear hfz55_0
          try clear hfz55_1
          try clear hfz61_0
          try clear hfz61_1
          try clear hfz62_0
          try clear hfz62_1
          try clear hfz68_0
          try clear hfz68_1
          try clear hfz68_2
          try clear hfz68_3
          try clear hfz68_4
          try clear hfz68_5
          try clear hfz68_6
          try clear hfz76_0
          try clear hfz76_1
          try clear hfz76_2
          try clear hfz76_3
          try clear hfz76_4
          try clear hfz76_5
          try clear hfz76_6
          try clear hfz81_0
          try clear hfz81_1
          try clear hfz81_2
          try clear hfz81_3
          try clear hfz81_4
          try clear hfz81_5
          try clear hfz81_6
          try clear hfz87_0
          try clear hfz87_1
          try clear hfz87_2
          try clear hfz87_3
          try clear hfz87_4
          try clear hfz87_5
          try clear hfz87_6
          try clear p2
          obtain ⟨kq, x98_41, rfl, rfl, HA, HJ41, BK946, BK947, BK950, BK957, BK958, HB⟩ := hcut
          cases kq with
          | zero => exact absurd HA.out (by simp [barrowlaw32_AreaMoves.j1])
          | succ kj41 =>
            have H := HA.out
            clear HA
            simp only [barrowlaw32_AreaMoves.j1] at H
            by_cases c89 : x98_41 = true
            · subst c89
              have H1 : (some t948) = some r := by rw [if_pos rfl] at H; exact H
              clear H
              have H := H1
              clear H1
              obtain rfl := Option.some.inj H
              go_wp2
              go_ret
              exact ⟨by first | rfl | (simp [errW_none, errW_some] <;> rfl) | (simp [*, errW_none, errW_some] <;> rfl), by repeat (first | (with_reducible first | exact HB.out | apply below_alloc | apply pw_below_drewN | apply below_drew1 | refine below_set ?_ GE946.out | refine below_set ?_ GE947.out | refine below_set ?_ GE950.out | refine below_set ?_ GE957.out | refine below_set ?_ GE958.out) | exact HB.out)⟩
            · replace c89 := Bool.eq_false_iff.mpr c89
              subst c89
              have H1 : (if t948 = true then ((area_In.f kj41 a0_0 t951 t952 t953 t954 a0_5 a0_6 t955 t956).bind fun t961 => ((area_In.f kj41 a0_0 a0_1 a0_2 a0_3 a0_4 a0_5 a0_6 a1_0 a1_1).bind fun t962 => (some (t961 == t962)))) else (none)) = some r := by rw [if_neg (show ¬ (false = true) by decide)] at H; exact H
              clear H
              have H := H1
              clear H1
              by_cases c90 : t948 = true
              · subst c90
                have H1 : ((area_In.f kj41 a0_0 t951 t952 t953 t954 a0_5 a0_6 t955 t956).bind fun t961 => ((area_In.f kj41 a0_0 a0_1 a0_2 a0_3 a0_4 a0_5 a0_6 a1_0 a1_1).bind fun t962 => (some (t961 == t962)))) = some r := by rw [if_pos rfl] at H; exact H
                clear H
                have H := H1
                clear H1
                replace H := Option.bind_eq_some_iff.mp H
                obtain ⟨t961, A910, H⟩ := H
                replace H : ((area_In.f kj41 a0_0 a0_1 a0_2 a0_3 a0_4 a0_5 a0_6 a1_0 a1_1).bind fun t962 => (some (t961 == t962))) = some r := H
                have A91 := Aside0.mk A910
                clear A910
                replace H := Option.bind_eq_some_iff.mp H
                obtain ⟨t962, A920, H⟩ := H
                replace H : (some (t961 == t962)) = some r := H
                have A92 := Aside0.mk A920
                clear A920
                obtain rfl := Option.some.inj H
                try go_wp2
                have n0_ := Aside0.mk (blk_drew BK946.out)
                have n1_ := Aside0.mk (blk_drew BK947.out)
                have n2_ := Aside0.mk (blk_drew BK950.out)
                have n3_ := Aside0.mk (blk_drew BK957.out)
                have n4_ := Aside0.mk (blk_drew BK958.out)
                have n5_ := Aside0.mk (below_drew1 HB.out)
                clear BK946
                clear BK947
                clear BK950
                clear BK957
                clear BK958
                clear HB
                have BK946 := n0_
                have BK947 := n1_
                have BK950 := n2_
                have BK957 := n3_
                have BK958 := n4_
                have HB := n5_
                clear n0_ n1_ n2_ n3_ n4_ n5_
                refine start_ (n := 11) (S := fun w' => w'.cell? ⟨gb950, 0, none⟩ = some (.int .i64 a0_0) ∧ w'.cell? ⟨gb950, 1, none⟩ = some (.int .i64 t951) ∧ w'.cell? ⟨gb950, 2, none⟩ = some (.int .i64 t952) ∧ w'.cell? ⟨gb950, 3, none⟩ = some (.int .i64 t953) ∧ w'.cell? ⟨gb950, 4, none⟩ = some (.int .i64 t954) ∧ w'.cell? ⟨gb950, 5, none⟩ = some (.int .i64 a0_5) ∧ w'.cell? ⟨gb950, 6, none⟩ = some (.int .i64 a0_6) ∧ w'.cell? ⟨gb957, 0, none⟩ = some (.int .i64 t955) ∧ w'.cell? ⟨gb957, 1, none⟩ = some (.int .i64 t956) ∧ w'.cell? ⟨gb946, 0, none⟩ = some (.int .i64 a0_0) ∧ w'.cell? ⟨gb946, 1, none⟩ = some (.int .i64 a0_1) ∧ w'.cell? ⟨gb946, 2, none⟩ = some (.int .i64 a0_2) ∧ w'.cell? ⟨gb946, 3, none⟩ = some (.int .i64 a0_3) ∧ w'.cell? ⟨gb946, 4, none⟩ = some (.int .i64 a0_4) ∧ w'.cell? ⟨gb946, 5, none⟩ = some (.int .i64 a0_5) ∧ w'.cell? ⟨gb946, 6, none⟩ = some (.int .i64 a0_6) ∧ w'.cell? ⟨gb947, 0, none⟩ = some (.int .i64 a1_0) ∧ w'.cell? ⟨gb947, 1, none⟩ = some (.int .i64 a1_1)) (ds := []) #[false, false, false, false, false, false, false, false, false, false, false] (by kernel_rfl) rfl rfl ⟨(blk_cell BK950.out 0).trans rfl, (blk_cell BK950.out 1).trans rfl, (blk_cell BK950.out 2).trans rfl, (blk_cell BK950.out 3).trans rfl, (blk_cell BK950.out 4).trans rfl, (blk_cell BK950.out 5).trans rfl, (blk_cell BK950.out 6).trans rfl, (blk_cell BK957.out 0).trans rfl, (blk_cell BK957.out 1).trans rfl, (blk_cell BK946.out 0).trans rfl, (blk_cell BK946.out 1).trans rfl, (blk_cell BK946.out 2).trans rfl, (blk_cell BK946.out 3).trans rfl, (blk_cell BK946.out 4).trans rfl, (blk_cell BK946.out 5).trans rfl, (blk_cell BK946.out 6).trans rfl, (blk_cell BK947.out 0).trans rfl, (blk_cell BK947.out 1).trans rfl⟩ (fun hHeld => ?_); refine with_tabW barrowlaw32_AreaMoves.tab11 barrowlaw32_AreaMoves.bits11 (fun HT_ HW_ => ?_)
                generalize wc.drew = w93 at BK946 BK947 BK950 BK957 BK958 HB hHeld ⊢
                refine pure_ (i := 0) (N := some 100) (v := ?_) (a' := ?_) #[true, false, false, false, false, false, false, false, false, false, false] rfl rfl (any_of HT_.out (by kernel_rfl)) (fun _ _ _ h => h) (Or.inl ⟨by rfl, ?_⟩) ?_ ?_; rotate_left; · (intro w'; go_simp; with_reducible rfl)
                rotate_left; · (simp only [Act.put, sT, sZ, sS, i64_w, i32_w]; rfl)
                refine pure_ (i := 1) (N := some 101) (v := ?_) (a' := ?_) #[true, true, false, false, false, false, false, false, false, false, false] rfl rfl (any_of HT_.out (by kernel_rfl)) (fun _ _ _ h => h) (Or.inl ⟨by rfl, ?_⟩) ?_ ?_; rotate_left; · (intro w'; go_simp; with_reducible rfl)
                rotate_left; · (simp only [Act.put, sT, sZ, sS, i64_w, i32_w]; rfl)
                refine take_ (i := 2) (N := some 102) (v := ?_) (a' := ?_) #[true, true, true, false, false, false, false, false, false, false, false] rfl rfl (take_ofW HT_.out HW_.out (by kernel_rfl)) (fun _ _ _ h => h) (Or.inl ⟨by rfl, ?_⟩) hHeld ?_ ?_; rotate_left
                · rintro w' ⟨s0, s1, s2, s3, s4, s5, s6, s7, s8, s9, s10, s11, s12, s13, s14, s15, s16, s17⟩
                  go_simp
                  with_reducible rfl
                rotate_left; · (simp only [Act.put, sT, sZ, sS, i64_w, i32_w]; rfl)
                refine take_ (i := 3) (N := some 103) (v := ?_) (a' := ?_) #[true, true, true, true, false, false, false, false, false, false, false] rfl rfl (take_ofW HT_.out HW_.out (by kernel_rfl)) (fun _ _ _ h => h) (Or.inl ⟨by rfl, ?_⟩) hHeld ?_ ?_; rotate_left
                · rintro w' ⟨s0, s1, s2, s3, s4, s5, s6, s7, s8, s9, s10, s11, s12, s13, s14, s15, s16, s17⟩
                  go_simp
                  with_reducible rfl
                rotate_left; · (simp only [Act.put, sT, sZ, sS, i64_w, i32_w]; rfl)
                refine take_ (i := 5) (N := some 105) (v := ?_) (a' := ?_) #[true, true, true, true, false, true, false, false, false, false, false] rfl rfl (take_ofW HT_.out HW_.out (by kernel_rfl)) (fun _ _ _ h => h) (Or.inl ⟨by rfl, ?_⟩) hHeld ?_ ?_; rotate_left
                · rintro w' ⟨s0, s1, s2, s3, s4, s5, s6, s7, s8, s9, s10, s11, s12, s13, s14, s15, s16, s17⟩
                  go_simp
                  with_reducible rfl
                rotate_left; · (simp only [Act.put, sT, sZ, sS, i64_w, i32_w]; rfl)
                refine take_ (i := 6) (N := some 106) (v := ?_) (a' := ?_) #[true, true, true, true, false, true, true, false, false, false, false] rfl rfl (take_ofW HT_.out HW_.out (by kernel_rfl)) (fun _ _ _ h => h) (Or.inl ⟨by rfl, ?_⟩) hHeld ?_ ?_; rotate_left
                · rintro w' ⟨s0, s1, s2, s3, s4, s5, s6, s7, s8, s9, s10, s11, s12, s13, s14, s15, s16, s17⟩
                  go_simp
                  with_reducible rfl
                rotate_left; · (simp only [Act.put, sT, sZ, sS, i64_w, i32_w]; rfl)
                refine one_ (i := 4) (N := some 104) #[true, true, true, true, true, true, true, false, false, false, false] rfl rfl (one_of HT_.out (by kernel_rfl)) (by decide) (fun K hK => ?_)
                refine goes_ Try.func11 (by kernel_rfl) rfl #[.agg #[.int .i64 a0_0, .int .i64 t951, .int .i64 t952, .int .i64 t953, .int .i64 t954, .int .i64 a0_5, .int .i64 a0_6], .agg #[.int .i64 t955, .int .i64 t956]] (by rfl) rfl rfl (by (try simp only [List.map_toArray, List.map_cons, List.map_nil]); first | done | rfl | (simp only [List.length_drop, List.length_take]; rfl)) ?_
                with_reducible refine (area_In.calls kj41 a0_0 t951 t952 t953 t954 a0_5 a0_6 t955 t956 t961 _ A91.out).mono ?_
                rintro e w94 ⟨rfl, hb⟩
                refine ⟨_, rfl, ?_⟩
                have n0_ := Aside0.mk (blk_below (g := gb946) (o := .cells #[.int .i64 a0_0, .int .i64 a0_1, .int .i64 a0_2, .int .i64 a0_3, .int .i64 a0_4, .int .i64 a0_5, .int .i64 a0_6] 28 (0, 0)) (by (with_reducible repeat (first | refine blk_drewN ?_ _ | refine blk_drew ?_ | refine blk_alloc ?_ _)); exact BK946.out) hb)
                have n1_ := Aside0.mk (blk_below (g := gb947) (o := .cells #[.int .i64 a1_0, .int .i64 a1_1] 26 (0, 0)) (by (with_reducible repeat (first | refine blk_drewN ?_ _ | refine blk_drew ?_ | refine blk_alloc ?_ _)); exact BK947.out) hb)
                have n2_ := Aside0.mk (blk_below (g := gb950) (o := .cells #[.int .i64 a0_0, .int .i64 t951, .int .i64 t952, .int .i64 t953, .int .i64 t954, .int .i64 a0_5, .int .i64 a0_6] 28 (0, 0)) (by (with_reducible repeat (first | refine blk_drewN ?_ _ | refine blk_drew ?_ | refine blk_alloc ?_ _)); exact BK950.out) hb)
                have n3_ := Aside0.mk (blk_below (g := gb957) (o := .cells #[.int .i64 t955, .int .i64 t956] 26 (0, 0)) (by (with_reducible repeat (first | refine blk_drewN ?_ _ | refine blk_drew ?_ | refine blk_alloc ?_ _)); exact BK957.out) hb)
                have n4_ := Aside0.mk (blk_below (g := gb958) (o := .cells #[.int .i64 3, .int .i64 a1_0, .int .i64 a1_1, .int .i64 t955, .int .i64 t956, .int .i64 0, .int .i64 0] 28 (0, 0)) (by (with_reducible repeat (first | refine blk_drewN ?_ _ | refine blk_drew ?_ | refine blk_alloc ?_ _)); exact BK958.out) hb)
                have n5_ := Aside0.mk (below_step (by repeat (first | (with_reducible first | exact HB.out | apply below_alloc | apply pw_below_drewN | apply below_drew1 | refine below_set ?_ GE946.out | refine below_set ?_ GE947.out | refine below_set ?_ GE950.out | refine below_set ?_ GE957.out | refine below_set ?_ GE958.out) | exact HB.out)) hb)
                clear BK946
                clear BK947
                clear BK950
                clear BK957
                clear BK958
                clear HB
                have BK946 := n0_
                have BK947 := n1_
                have BK950 := n2_
                have BK957 := n3_
                have BK958 := n4_
                have HB := n5_
                clear n0_ n1_ n2_ n3_ n4_ n5_
                (try clear hb)
                (try clear hb2)
                (try clear hk)
                (try clear hi)
                refine hK.out _ _ ⟨(blk_cell BK950.out 0).trans rfl, (blk_cell BK950.out 1).trans rfl, (blk_cell BK950.out 2).trans rfl, (blk_cell BK950.out 3).trans rfl, (blk_cell BK950.out 4).trans rfl, (blk_cell BK950.out 5).trans rfl, (blk_cell BK950.out 6).trans rfl, (blk_cell BK957.out 0).trans rfl, (blk_cell BK957.out 1).trans rfl, (blk_cell BK946.out 0).trans rfl, (blk_cell BK946.out 1).trans rfl, (blk_cell BK946.out 2).trans rfl, (blk_cell BK946.out 3).trans rfl, (blk_cell BK946.out 4).trans rfl, (blk_cell BK946.out 5).trans rfl, (blk_cell BK946.out 6).trans rfl, (blk_cell BK947.out 0).trans rfl, (blk_cell BK947.out 1).trans rfl⟩ (fun hHeld => ?_)
                clear hK K
                refine norm_ (a' := ?_) ?_ ?_; rotate_left
                · show Act.put _ (some 104) _ = _
                  simp only [Act.put, sT, sZ, sS, i64_w, i32_w]
                  rfl
                refine one_ (i := 7) (N := some 107) #[true, true, true, true, true, true, true, true, false, false, false] rfl rfl (one_of HT_.out (by kernel_rfl)) (by decide) (fun K hK => ?_)
                refine goes_ Try.func11 (by kernel_rfl) rfl #[.agg #[.int .i64 a0_0, .int .i64 a0_1, .int .i64 a0_2, .int .i64 a0_3, .int .i64 a0_4, .int .i64 a0_5, .int .i64 a0_6], .agg #[.int .i64 a1_0, .int .i64 a1_1]] (by rfl) rfl rfl (by (try simp only [List.map_toArray, List.map_cons, List.map_nil]); first | done | rfl | (simp only [List.length_drop, List.length_take]; rfl)) ?_
                with_reducible refine (area_In.calls kj41 a0_0 a0_1 a0_2 a0_3 a0_4 a0_5 a0_6 a1_0 a1_1 t962 _ A92.out).mono ?_
                rintro e w95 ⟨rfl, hb⟩
                refine ⟨_, rfl, ?_⟩
                have n0_ := Aside0.mk (blk_below (g := gb946) (o := .cells #[.int .i64 a0_0, .int .i64 a0_1, .int .i64 a0_2, .int .i64 a0_3, .int .i64 a0_4, .int .i64 a0_5, .int .i64 a0_6] 28 (0, 0)) (by (with_reducible repeat (first | refine blk_drewN ?_ _ | refine blk_drew ?_ | refine blk_alloc ?_ _)); exact BK946.out) hb)
                have n1_ := Aside0.mk (blk_below (g := gb947) (o := .cells #[.int .i64 a1_0, .int .i64 a1_1] 26 (0, 0)) (by (with_reducible repeat (first | refine blk_drewN ?_ _ | refine blk_drew ?_ | refine blk_alloc ?_ _)); exact BK947.out) hb)
                have n2_ := Aside0.mk (blk_below (g := gb950) (o := .cells #[.int .i64 a0_0, .int .i64 t951, .int .i64 t952, .int .i64 t953, .int .i64 t954, .int .i64 a0_5, .int .i64 a0_6] 28 (0, 0)) (by (with_reducible repeat (first | refine blk_drewN ?_ _ | refine blk_drew ?_ | refine blk_alloc ?_ _)); exact BK950.out) hb)
                have n3_ := Aside0.mk (blk_below (g := gb957) (o := .cells #[.int .i64 t955, .int .i64 t956] 26 (0, 0)) (by (with_reducible repeat (first | refine blk_drewN ?_ _ | refine blk_drew ?_ | refine blk_alloc ?_ _)); exact BK957.out) hb)
                have n4_ := Aside0.mk (blk_below (g := gb958) (o := .cells #[.int .i64 3, .int .i64 a1_0, .int .i64 a1_1, .int .i64 t955, .int .i64 t956, .int .i64 0, .int .i64 0] 28 (0, 0)) (by (with_reducible repeat (first | refine blk_drewN ?_ _ | refine blk_drew ?_ | refine blk_alloc ?_ _)); exact BK958.out) hb)
                have n5_ := Aside0.mk (below_step (by repeat (first | (with_reducible first | exact HB.out | apply below_alloc | apply pw_below_drewN | apply below_drew1 | refine below_set ?_ GE946.out | refine below_set ?_ GE947.out | refine below_set ?_ GE950.out | refine below_set ?_ GE957.out | refine below_set ?_ GE958.out) | exact HB.out)) hb)
                clear BK946
                clear BK947
                clear BK950
                clear BK957
                clear BK958
                clear HB
                have BK946 := n0_
                have BK947 := n1_
                have BK950 := n2_
                have BK957 := n3_
                have BK958 := n4_
                have HB := n5_
                clear n0_ n1_ n2_ n3_ n4_ n5_
                (try clear hb)
                (try clear hb2)
                (try clear hk)
                (try clear hi)
                refine hK.out _ _ ⟨(blk_cell BK950.out 0).trans rfl, (blk_cell BK950.out 1).trans rfl, (blk_cell BK950.out 2).trans rfl, (blk_cell BK950.out 3).trans rfl, (blk_cell BK950.out 4).trans rfl, (blk_cell BK950.out 5).trans rfl, (blk_cell BK950.out 6).trans rfl, (blk_cell BK957.out 0).trans rfl, (blk_cell BK957.out 1).trans rfl, (blk_cell BK946.out 0).trans rfl, (blk_cell BK946.out 1).trans rfl, (blk_cell BK946.out 2).trans rfl, (blk_cell BK946.out 3).trans rfl, (blk_cell BK946.out 4).trans rfl, (blk_cell BK946.out 5).trans rfl, (blk_cell BK946.out 6).trans rfl, (blk_cell BK947.out 0).trans rfl, (blk_cell BK947.out 1).trans rfl⟩ (fun hHeld => ?_)
                clear hK K
                refine norm_ (a' := ?_) ?_ ?_; rotate_left
                · show Act.put _ (some 107) _ = _
                  simp only [Act.put, sT, sZ, sS, i64_w, i32_w]
                  rfl
                refine pure_ (i := 8) (N := some 108) (v := ?_) (a' := ?_) #[true, true, true, true, true, true, true, true, true, false, false] rfl rfl (any_of HT_.out (by kernel_rfl)) (fun _ _ _ h => h) (Or.inl ⟨by rfl, ?_⟩) ?_ ?_; rotate_left; · (intro w'; go_simp; with_reducible rfl)
                rotate_left; · (simp only [Act.put, sT, sZ, sS, i64_w, i32_w]; rfl)
                refine pure_ (i := 9) (N := some 109) (v := ?_) (a' := ?_) #[true, true, true, true, true, true, true, true, true, true, false] rfl rfl (any_of HT_.out (by kernel_rfl)) (fun _ _ _ h => h) (Or.inl ⟨by rfl, ?_⟩) ?_ ?_; rotate_left; · (intro w'; go_simp; with_reducible rfl)
                rotate_left; · (simp only [Act.put, sT, sZ, sS, i64_w, i32_w]; rfl)
                refine pure_ (i := 10) (N := some 8) (v := ?_) (a' := ?_) #[true, true, true, true, true, true, true, true, true, true, true] rfl rfl (any_of HT_.out (by kernel_rfl)) (fun _ _ _ h => h) (Or.inl ⟨by rfl, ?_⟩) ?_ ?_; rotate_left; · (intro w'; go_simp; with_reducible rfl)
                rotate_left; · (simp only [Act.put, sT, sZ, sS, i64_w, i32_w]; rfl)
                refine done_ (done_of HT_.out (by kernel_rfl)) ?_
                try go_wp2
                go_ret
                exact ⟨by first | rfl | (simp [errW_none, errW_some] <;> rfl) | (simp [*, errW_none, errW_some] <;> rfl), by repeat (first | (with_reducible first | exact HB.out | apply below_alloc | apply pw_below_drewN | apply below_drew1 | refine below_set ?_ GE946.out | refine below_set ?_ GE947.out | refine below_set ?_ GE950.out | refine below_set ?_ GE957.out | refine below_set ?_ GE958.out) | exact HB.out)⟩
              · replace c90 := Bool.eq_false_iff.mpr c90
                subst c90
                have H1 : (none) = some r := by rw [if_neg (show ¬ (false = true) by decide)] at H; exact H
                clear H
                have H := H1
                clear H1
                exact absurd H (by simp)

/-- THE ONE PURE STATEMENT of barrowlaw32_AreaMoves. -/
noncomputable def barrowlaw32_AreaMoves.Pure : Prop := ∀ (a0_0 : Int) (a0_1 : Int) (a0_2 : Int) (a0_3 : Int) (a0_4 : Int) (a0_5 : Int) (a0_6 : Int) (a1_0 : Int) (a1_1 : Int) (a2 : Int) (a3 : Int), ((Lit.int .i64 a0_0).wf = true) → ((Lit.int .i64 a0_1).wf = true) → ((Lit.int .i64 a0_2).wf = true) → ((Lit.int .i64 a0_3).wf = true) → ((Lit.int .i64 a0_4).wf = true) → ((Lit.int .i64 a0_5).wf = true) → ((Lit.int .i64 a0_6).wf = true) → ((Lit.int .i64 a1_0).wf = true) → ((Lit.int .i64 a1_1).wf = true) → ((Lit.int .i64 a2).wf = true) → ((Lit.int .i64 a3).wf = true) → ∃ k, barrowlaw32_AreaMoves.f k a0_0 a0_1 a0_2 a0_3 a0_4 a0_5 a0_6 a1_0 a1_1 a2 a3 = some true

end Go.Proofs.Ytofodbnnminmkaa.XAR
