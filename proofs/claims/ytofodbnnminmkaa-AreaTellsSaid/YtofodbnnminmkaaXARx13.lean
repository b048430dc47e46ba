-- Written by xprint.py (a program of this session) for this claim
import Derived.Test.YtofodbnnminmkaaXARx0
import Derived.Test.YtofodbnnminmkaaXARx11
import Derived.Test.YtofodbnnminmkaaXARx12
namespace Go.Proofs.Ytofodbnnminmkaa.XAR
open Go.Proofs.YtofodbnnminmkaaV Go.Proofs.YtofodbnnminmkaaS
open Go.RowKit Go.Proofs.YtofodbnnminmkaaW.PrintWords Go.Proofs.YtofodbnnminmkaaW.PrintLast Go.Proofs.YtofodbnnminmkaaW.PrintMore
attribute [local go_sem] max2_int min2_int max_two min_two max_three min_three max_four min_four   -- for this text's walks alone
set_option linter.unusedVariables false
set_option linter.unusedSimpArgs false

/-! ### barrowref32_In: function 12 -/
def barrowref32_In.j0 : Nat → Bool → Int → Int → Int → Int → Int → Int → Int → Int → Int → Option (Bool)
  | 0, _, _, _, _, _, _, _, _, _, _ => none
  | k + 1, x29, x434000, x434001, x434002, x434003, x434004, x434005, x434006, x435000, x435001 => if x29 = true then (some false) else (if x434000 = 1 then (some (decide ((wrap64 ((wrap64 ((wrap64 (x435000 - x434001)) * (wrap64 (x435000 - x434001)))) + (wrap64 ((wrap64 (x435001 - x434002)) * (wrap64 (x435001 - x434002)))))) ≤ (wrap64 (x434005 * x434005))))) else (if x434000 = 2 then (if (wrap64 ((wrap64 ((wrap64 (x435000 - x434001)) * (wrap64 (x435000 - x434001)))) + (wrap64 ((wrap64 (x435001 - x434002)) * (wrap64 (x435001 - x434002)))))) ≤ (wrap64 (x434006 * x434006)) then (if x434005 = 0 then (some true) else (some (decide ((wrap64 ((wrap64 ((wrap64 (x435000 - x434001)) * (wrap64 (x435000 - x434001)))) + (wrap64 ((wrap64 (x435001 - x434002)) * (wrap64 (x435001 - x434002)))))) > (wrap64 (x434005 * x434005)))))) else (some false)) else (if x434000 = 3 then (if (mn 0 (wrap64 (x434003 - x434001))) ≤ (wrap64 (x435000 - x434001)) then (if (wrap64 (x435000 - x434001)) ≤ (mx 0 (wrap64 (x434003 - x434001))) then (if (mn 0 (wrap64 (x434004 - x434002))) ≤ (wrap64 (x435001 - x434002)) then (some (decide ((wrap64 (x435001 - x434002)) ≤ (mx 0 (wrap64 (x434004 - x434002)))))) else (some false)) else (some false)) else (some false)) else (if x434000 = 4 then (if (wrap64 ((wrap64 ((wrap64 (x435000 - x434001)) * (wrap64 (x435000 - x434001)))) + (wrap64 ((wrap64 (x435001 - x434002)) * (wrap64 (x435001 - x434002)))))) ≤ (wrap64 (x434005 * x434005)) then (if (wrap64 ((wrap64 ((wrap64 (x435000 - x434001)) * (wrap64 (x435000 - x434001)))) + (wrap64 ((wrap64 (x435001 - x434002)) * (wrap64 (x435001 - x434002)))))) = 0 then (some true) else (if (wrap64 ((wrap64 ((wrap64 (x435000 - x434001)) * (wrap64 (x434003 - x434001)))) + (wrap64 ((wrap64 (x435001 - x434002)) * (wrap64 (x434004 - x434002)))))) > 0 then (if (wrap64 ((wrap64 ((wrap64 (x435000 - x434001)) * (wrap64 (x434004 - x434002)))) - (wrap64 ((wrap64 (x435001 - x434002)) * (wrap64 (x434003 - x434001)))))) ≤ (wrap64 ((wrap64 ((wrap64 (x435000 - x434001)) * (wrap64 (x434003 - x434001)))) + (wrap64 ((wrap64 (x435001 - x434002)) * (wrap64 (x434004 - x434002)))))) then (some (decide ((wrap64 (-(wrap64 ((wrap64 ((wrap64 (x435000 - x434001)) * (wrap64 (x434004 - x434002)))) - (wrap64 ((wrap64 (x435001 - x434002)) * (wrap64 (x434003 - x434001)))))))) ≤ (wrap64 ((wrap64 ((wrap64 (x435000 - x434001)) * (wrap64 (x434003 - x434001)))) + (wrap64 ((wrap64 (x435001 - x434002)) * (wrap64 (x434004 - x434002))))))))) else (some false)) else (some false))) else (some false)) else (if (wrap64 ((wrap64 ((wrap64 (x434003 - x434001)) * (wrap64 (x434003 - x434001)))) + (wrap64 ((wrap64 (x434004 - x434002)) * (wrap64 (x434004 - x434002)))))) = 0 then (some (decide ((wrap64 ((wrap64 ((wrap64 (x435000 - x434001)) * (wrap64 (x435000 - x434001)))) + (wrap64 ((wrap64 (x435001 - x434002)) * (wrap64 (x435001 - x434002)))))) ≤ (wrap64 (x434005 * x434005))))) else (if (wrap64 ((wrap64 ((wrap64 (x435000 - x434001)) * (wrap64 (x434003 - x434001)))) + (wrap64 ((wrap64 (x435001 - x434002)) * (wrap64 (x434004 - x434002)))))) ≥ 0 then (if (wrap64 ((wrap64 ((wrap64 (x435000 - x434001)) * (wrap64 (x434003 - x434001)))) + (wrap64 ((wrap64 (x435001 - x434002)) * (wrap64 (x434004 - x434002)))))) ≤ (wrap64 ((wrap64 ((wrap64 (x434003 - x434001)) * (wrap64 (x434003 - x434001)))) + (wrap64 ((wrap64 (x434004 - x434002)) * (wrap64 (x434004 - x434002)))))) then (some (decide ((wrap64 ((wrap64 ((wrap64 ((wrap64 (x435000 - x434001)) * (wrap64 (x434004 - x434002)))) - (wrap64 ((wrap64 (x435001 - x434002)) * (wrap64 (x434003 - x434001)))))) * (wrap64 ((wrap64 ((wrap64 (x435000 - x434001)) * (wrap64 (x434004 - x434002)))) - (wrap64 ((wrap64 (x435001 - x434002)) * (wrap64 (x434003 - x434001)))))))) ≤ (wrap64 ((wrap64 (x434005 * x434005)) * (wrap64 ((wrap64 ((wrap64 (x434003 - x434001)) * (wrap64 (x434003 - x434001)))) + (wrap64 ((wrap64 (x434004 - x434002)) * (wrap64 (x434004 - x434002))))))))))) else (some false)) else (some false)))))))
def barrowref32_In.f (k : Nat) (a0_0 : Int) (a0_1 : Int) (a0_2 : Int) (a0_3 : Int) (a0_4 : Int) (a0_5 : Int) (a0_6 : Int) (a1_0 : Int) (a1_1 : Int) : Option (Bool) := (barrowref32_Right.f a0_0 a0_1 a0_2 a0_3 a0_4 a0_5 a0_6).bind fun t435 => (if t435 = true then ((barrowref32_ends.f a1_0).bind fun t436 => (if t436 = true then ((barrowref32_ends.f a1_1).bind fun t437 => (barrowref32_In.j0 k (!t437) a0_0 a0_1 a0_2 a0_3 a0_4 a0_5 a0_6 a1_0 a1_1)) else (barrowref32_In.j0 k true a0_0 a0_1 a0_2 a0_3 a0_4 a0_5 a0_6 a1_0 a1_1))) else (barrowref32_In.j0 k true a0_0 a0_1 a0_2 a0_3 a0_4 a0_5 a0_6 a1_0 a1_1))
theorem barrowref32_In.mono_l : ∀ k, (∀ y0 y1 y2 y3 y4 y5 y6 y7 y8 y9, LeO (barrowref32_In.j0 k y0 y1 y2 y3 y4 y5 y6 y7 y8 y9) (barrowref32_In.j0 (k + 1) y0 y1 y2 y3 y4 y5 y6 y7 y8 y9))
  | 0 => fun _ _ _ _ _ _ _ _ _ _ r h => by simp [barrowref32_In.j0] at h
  | k + 1 => by
    have ih0 := barrowref32_In.mono_l k
    · intro y0 y1 y2 y3 y4 y5 y6 y7 y8 y9
      unfold barrowref32_In.j0
      repeat' first
      | (with_reducible exact ih0 _ _ _ _ _ _ _ _ _ _)
      | (with_reducible exact LeO.refl _)
      | (with_reducible exact LeO.none _)
      | (with_reducible refine LeO.ite ?_ ?_)
      | (with_reducible refine LeO.bind ?_ (fun _ => ?_))
      | exact ih0 _ _ _ _ _ _ _ _ _ _
      | exact LeO.none _
      | refine LeO.ite ?_ ?_
      | refine LeO.bind ?_ (fun _ => ?_)
theorem barrowref32_In.mono : ∀ a0 a1 a2 a3 a4 a5 a6 a7 a8 k, LeO (barrowref32_In.f k a0 a1 a2 a3 a4 a5 a6 a7 a8) (barrowref32_In.f (k + 1) a0 a1 a2 a3 a4 a5 a6 a7 a8) := by
  intro a0 a1 a2 a3 a4 a5 a6 a7 a8 k
  have ih0 := barrowref32_In.mono_l k
  unfold barrowref32_In.f
  repeat' first
      | (with_reducible exact ih0 _ _ _ _ _ _ _ _ _ _)
      | (with_reducible exact LeO.refl _)
      | (with_reducible exact LeO.none _)
      | (with_reducible refine LeO.ite ?_ ?_)
      | (with_reducible refine LeO.bind ?_ (fun _ => ?_))
      | exact ih0 _ _ _ _ _ _ _ _ _ _
      | exact LeO.none _
      | refine LeO.ite ?_ ?_
      | refine LeO.bind ?_ (fun _ => ?_)
set_option maxHeartbeats 8000000 in
set_option maxRecDepth 100000 in
theorem barrowref32_In.calls (k : Nat) (a0_0 : Int) (a0_1 : Int) (a0_2 : Int) (a0_3 : Int) (a0_4 : Int) (a0_5 : Int) (a0_6 : Int) (a1_0 : Int) (a1_1 : Int) (r : Bool) (w : World) (h : barrowref32_In.f k a0_0 a0_1 a0_2 a0_3 a0_4 a0_5 a0_6 a1_0 a1_1 = some r) :
    Calls Try.prog 12 #[.agg #[.int .i64 a0_0, .int .i64 a0_1, .int .i64 a0_2, .int .i64 a0_3, .int .i64 a0_4, .int .i64 a0_5, .int .i64 a0_6], .agg #[.int .i64 a1_0, .int .i64 a1_1]] w fun e w' => e = .returned (.bool r) ∧ Below w.heap.size w w' := by
  have hu28 := Try.underlying28
  have hu26 := Try.underlying26
  have HB := Aside0.mk (Below.refl w.heap.size w)
  have H : ((barrowref32_Right.f a0_0 a0_1 a0_2 a0_3 a0_4 a0_5 a0_6).bind fun t435 => (if t435 = true then ((barrowref32_ends.f a1_0).bind fun t436 => (if t436 = true then ((barrowref32_ends.f a1_1).bind fun t437 => (barrowref32_In.j0 k (!t437) a0_0 a0_1 a0_2 a0_3 a0_4 a0_5 a0_6 a1_0 a1_1)) else (barrowref32_In.j0 k true a0_0 a0_1 a0_2 a0_3 a0_4 a0_5 a0_6 a1_0 a1_1))) else (barrowref32_In.j0 k true a0_0 a0_1 a0_2 a0_3 a0_4 a0_5 a0_6 a1_0 a1_1))) = some r := h
  clear h
  replace H := Option.bind_eq_some_iff.mp H
  obtain ⟨t435, A30, H⟩ := H
  replace H : (if t435 = true then ((barrowref32_ends.f a1_0).bind fun t436 => (if t436 = true then ((barrowref32_ends.f a1_1).bind fun t437 => (barrowref32_In.j0 k (!t437) a0_0 a0_1 a0_2 a0_3 a0_4 a0_5 a0_6 a1_0 a1_1)) else (barrowref32_In.j0 k true a0_0 a0_1 a0_2 a0_3 a0_4 a0_5 a0_6 a1_0 a1_1))) else (barrowref32_In.j0 k true a0_0 a0_1 a0_2 a0_3 a0_4 a0_5 a0_6 a1_0 a1_1)) = some r := H
  have A3 := Aside0.mk A30
  clear A30
  have HC4 := Aside0.mk H
  clear H
  go_enter Try.func12, Try.ntmps12
  go_upto_region 2 with (first | ((with_reducible refine gate_dst (N := 2) rfl ?_); (try (refine gate_guard (by rfl) ?_; dsimp only)); refine box_event ?hg (N := 2) ?hd (cs := #[.int .i64 a0_0, .int .i64 a0_1, .int .i64 a0_2, .int .i64 a0_3, .int .i64 a0_4, .int .i64 a0_5, .int .i64 a0_6]) (t := 28) ?hr ?_; (case hd => rfl); (case hg => rfl); (case hr => first | (go_simp; done) | (go_simp; rfl)); intro gb433 hg w5 hbox hb; have n0_ := Aside0.mk (below_step (by repeat (first | (with_reducible first | exact HB.out | apply below_alloc | apply pw_below_drewN | apply below_drew1) | exact HB.out)) hb); have n1_ := Aside0.mk (hbox); have n2_ := Aside0.mk ((by rw [hg]; exact (below_size (by repeat (first | (with_reducible first | exact HB.out | apply below_alloc | apply pw_below_drewN | apply below_drew1) | exact HB.out))) : w.heap.size ≤ gb433)); have n3_ := Aside0.mk ((by rw [hg]; exact (below_size (by repeat (first | (with_reducible first | exact HB.out | apply below_alloc | apply pw_below_drewN | apply below_drew1) | exact HB.out))) : w.heap.size ≤ gb433)); clear HB; have HB := n0_; have BK433 := n1_; have GW433 := n2_; have GE433 := n3_; clear n0_ n1_ n2_ n3_; clear hb hbox hg) | ((with_reducible refine gate_dst (N := 3) rfl ?_); (try (refine gate_guard (by rfl) ?_; dsimp only)); refine box_event ?hg (N := 3) ?hd (cs := #[.int .i64 a1_0, .int .i64 a1_1]) (t := 26) ?hr ?_; (case hd => rfl); (case hg => rfl); (case hr => first | (go_simp; done) | (go_simp; rfl)); intro gb434 hg w6 hbox hb; have n0_ := Aside0.mk (blk_below (g := gb433) (o := .cells #[.int .i64 a0_0, .int .i64 a0_1, .int .i64 a0_2, .int .i64 a0_3, .int .i64 a0_4, .int .i64 a0_5, .int .i64 a0_6] 28 (0, 0)) (by (with_reducible repeat (first | refine blk_drewN ?_ _ | refine blk_drew ?_ | refine blk_alloc ?_ _)); exact BK433.out) hb); have n1_ := Aside0.mk (below_step (by repeat (first | (with_reducible first | exact HB.out | apply below_alloc | apply pw_below_drewN | apply below_drew1 | refine below_set ?_ GE433.out) | exact HB.out)) hb); have n2_ := Aside0.mk (hbox); have n3_ := Aside0.mk ((by rw [hg]; exact (below_size (by repeat (first | (with_reducible first | exact HB.out | apply below_alloc | apply pw_below_drewN | apply below_drew1 | refine below_set ?_ GE433.out) | exact HB.out))) : w.heap.size ≤ gb434)); have n4_ := Aside0.mk ((by rw [hg]; exact (below_size (by repeat (first | (with_reducible first | exact HB.out | apply below_alloc | apply pw_below_drewN | apply below_drew1 | refine below_set ?_ GE433.out) | exact HB.out))) : w.heap.size ≤ gb434)); have n5_ := Aside0.mk ((by rw [hg]; exact Nat.ne_of_lt (blk_lt (g := gb433) (o := .cells #[.int .i64 a0_0, .int .i64 a0_1, .int .i64 a0_2, .int .i64 a0_3, .int .i64 a0_4, .int .i64 a0_5, .int .i64 a0_6] 28 (0, 0)) (by (with_reducible repeat (first | refine blk_drewN ?_ _ | refine blk_drew ?_ | refine blk_alloc ?_ _)); exact BK433.out)) : gb433 ≠ gb434)); have n6_ := Aside0.mk ((by rw [hg]; exact Nat.ne_of_gt (blk_lt (g := gb433) (o := .cells #[.int .i64 a0_0, .int .i64 a0_1, .int .i64 a0_2, .int .i64 a0_3, .int .i64 a0_4, .int .i64 a0_5, .int .i64 a0_6] 28 (0, 0)) (by (with_reducible repeat (first | refine blk_drewN ?_ _ | refine blk_drew ?_ | refine blk_alloc ?_ _)); exact BK433.out)) : gb434 ≠ gb433)); clear BK433; clear HB; have BK433 := n0_; have HB := n1_; have BK434 := n2_; have GW434 := n3_; have GE434 := n4_; have NB433_434 := n5_; have NB434_433 := n6_; clear n0_ n1_ n2_ n3_ n4_ n5_ n6_; clear hb hbox hg; have hnb7 := NB433_434.out; have hnc7 := NB434_433.out; have hcz8_0 : w6.cell? ⟨gb433, 0, none⟩ = some (.int .i64 a0_0) := (blk_cell BK433.out 0).trans rfl; have hcz8_1 : w6.cell? ⟨gb433, 1, none⟩ = some (.int .i64 a0_1) := (blk_cell BK433.out 1).trans rfl; have hcz8_2 : w6.cell? ⟨gb433, 2, none⟩ = some (.int .i64 a0_2) := (blk_cell BK433.out 2).trans rfl; have hcz8_3 : w6.cell? ⟨gb433, 3, none⟩ = some (.int .i64 a0_3) := (blk_cell BK433.out 3).trans rfl; have hcz8_4 : w6.cell? ⟨gb433, 4, none⟩ = some (.int .i64 a0_4) := (blk_cell BK433.out 4).trans rfl; have hcz8_5 : w6.cell? ⟨gb433, 5, none⟩ = some (.int .i64 a0_5) := (blk_cell BK433.out 5).trans rfl; have hcz8_6 : w6.cell? ⟨gb433, 6, none⟩ = some (.int .i64 a0_6) := (blk_cell BK433.out 6).trans rfl; have hfz8_0 := blk_frozen BK433.out 0; have hfz8_1 := blk_frozen BK433.out 1; have hfz8_2 := blk_frozen BK433.out 2; have hfz8_3 := blk_frozen BK433.out 3; have hfz8_4 := blk_frozen BK433.out 4; have hfz8_5 := blk_frozen BK433.out 5; have hfz8_6 := blk_frozen BK433.out 6) | ((with_reducible refine gate_callee (f := 10) rfl ?_); refine goesL_ (some 15) rfl rfl Try.func10 (by kernel_rfl) rfl #[.agg #[.int .i64 a0_0, .int .i64 a0_1, .int .i64 a0_2, .int .i64 a0_3, .int .i64 a0_4, .int .i64 a0_5, .int .i64 a0_6]] rfl (by (try simp only [List.map_toArray, List.map_cons, List.map_nil]); first | done | rfl | (simp only [List.length_drop, List.length_take]; rfl)) ?_; (with_reducible refine (barrowref32_Right.calls a0_0 a0_1 a0_2 a0_3 a0_4 a0_5 a0_6 t435 _ A3.out).mono ?_); rintro e w9 ⟨rfl, hb⟩; refine ⟨_, rfl, ?_⟩; have n0_ := Aside0.mk (blk_below (g := gb433) (o := .cells #[.int .i64 a0_0, .int .i64 a0_1, .int .i64 a0_2, .int .i64 a0_3, .int .i64 a0_4, .int .i64 a0_5, .int .i64 a0_6] 28 (0, 0)) (by (with_reducible repeat (first | refine blk_drewN ?_ _ | refine blk_drew ?_ | refine blk_alloc ?_ _)); exact BK433.out) hb); have n1_ := Aside0.mk (blk_below (g := gb434) (o := .cells #[.int .i64 a1_0, .int .i64 a1_1] 26 (0, 0)) (by (with_reducible repeat (first | refine blk_drewN ?_ _ | refine blk_drew ?_ | refine blk_alloc ?_ _)); exact BK434.out) hb); have n2_ := Aside0.mk (below_step (by repeat (first | (with_reducible first | exact HB.out | apply below_alloc | apply pw_below_drewN | apply below_drew1 | refine below_set ?_ GE433.out | refine below_set ?_ GE434.out) | exact HB.out)) hb); clear BK433; clear BK434; clear HB; have BK433 := n0_; have BK434 := n1_; have HB := n2_; clear n0_ n1_ n2_; (try clear hb); (try clear hb2); (try clear hk); (try clear hi)))
  (try simp only [Act.put, sT, sZ, sS])
  go_cut [29, 5] (fun v29 v5 wc => ∃ (kq : Nat) (x29_3 : Bool), v29 = .bool x29_3 ∧ v5 = .bool t435 ∧ Aside0 (barrowref32_In.j0 kq x29_3 a0_0 a0_1 a0_2 a0_3 a0_4 a0_5 a0_6 a1_0 a1_1 = some r) ∧ Aside0 (kq ≤ k) ∧ Aside0 (wc.heap[gb433]? = some (.cells #[.int .i64 a0_0, .int .i64 a0_1, .int .i64 a0_2, .int .i64 a0_3, .int .i64 a0_4, .int .i64 a0_5, .int .i64 a0_6] 28 (0, 0))) ∧ Aside0 (wc.heap[gb434]? = some (.cells #[.int .i64 a1_0, .int .i64 a1_1] 26 (0, 0))) ∧ Aside0 (Below w.heap.size w wc))
  case first =>
    have H := HC4.out
    clear HC4
    by_cases c10 : t435 = true
    · subst c10
      have H1 : ((barrowref32_ends.f a1_0).bind fun t436 => (if t436 = true then ((barrowref32_ends.f a1_1).bind fun t437 => (barrowref32_In.j0 k (!t437) a0_0 a0_1 a0_2 a0_3 a0_4 a0_5 a0_6 a1_0 a1_1)) else (barrowref32_In.j0 k true a0_0 a0_1 a0_2 a0_3 a0_4 a0_5 a0_6 a1_0 a1_1))) = some r := by rw [if_pos rfl] at H; exact H
      clear H
      have H := H1
      clear H1
      replace H := Option.bind_eq_some_iff.mp H
      obtain ⟨t436, A110, H⟩ := H
      replace H : (if t436 = true then ((barrowref32_ends.f a1_1).bind fun t437 => (barrowref32_In.j0 k (!t437) a0_0 a0_1 a0_2 a0_3 a0_4 a0_5 a0_6 a1_0 a1_1)) else (barrowref32_In.j0 k true a0_0 a0_1 a0_2 a0_3 a0_4 a0_5 a0_6 a1_0 a1_1)) = some r := H
      have A11 := Aside0.mk A110
      clear A110
      by_cases c12 : t436 = true
      · subst c12
        have H1 : ((barrowref32_ends.f a1_1).bind fun t437 => (barrowref32_In.j0 k (!t437) a0_0 a0_1 a0_2 a0_3 a0_4 a0_5 a0_6 a1_0 a1_1)) = some r := by rw [if_pos rfl] at H; exact H
        clear H
        have H := H1
        clear H1
        replace H := Option.bind_eq_some_iff.mp H
        obtain ⟨t437, A130, H⟩ := H
        replace H : (barrowref32_In.j0 k (!t437) a0_0 a0_1 a0_2 a0_3 a0_4 a0_5 a0_6 a1_0 a1_1) = some r := H
        have A13 := Aside0.mk A130
        clear A130
        have H' := Aside0.mk H
        clear H
        have hnb14 := NB434_433.out
        have hnc14 := NB433_434.out
        have hcz15_0 : w9.cell? ⟨gb434, 0, none⟩ = some (.int .i64 a1_0) := (blk_cell BK434.out 0).trans rfl
        have hcz15_1 : w9.cell? ⟨gb434, 1, none⟩ = some (.int .i64 a1_1) := (blk_cell BK434.out 1).trans rfl
        have hfz15_0 := blk_frozen BK434.out 0
        have hfz15_1 := blk_frozen BK434.out 1
        go_wp2_with (first | (go_at_call 24; (with_reducible refine calls_of_args (args' := #[.int .i64 a1_0]) rfl ?_); (with_reducible refine (barrowref32_ends.calls a1_0 true _ A11.out).mono ?_); rintro e w' ⟨rfl, ⟨nd, rfl⟩⟩) | (go_at_call 24; (with_reducible refine calls_of_args (args' := #[.int .i64 a1_1]) rfl ?_); (with_reducible refine (barrowref32_ends.calls a1_1 t437 _ A13.out).mono ?_); rintro e w' ⟨rfl, ⟨nd, rfl⟩⟩))
        go_meet
        case rel => exact ⟨_, (!t437), (by first | rfl | (simp; done) | (simp [*]; done)), (by first | rfl | (simp; done) | (simp [*]; done)), H', ⟨by first | omega | exact Nat.le_refl _⟩, ⟨by (with_reducible repeat (first | refine blk_drewN ?_ _ | refine blk_drew ?_ | refine blk_alloc ?_ _)); exact BK433.out⟩, ⟨by (with_reducible repeat (first | refine blk_drewN ?_ _ | refine blk_drew ?_ | refine blk_alloc ?_ _)); exact BK434.out⟩, ⟨by repeat (first | (with_reducible first | exact HB.out | apply below_alloc | apply pw_below_drewN | apply below_drew1 | refine below_set ?_ GE433.out | refine below_set ?_ GE434.out) | exact HB.out)⟩⟩
      · replace c12 := Bool.eq_false_iff.mpr c12
        subst c12
        have H1 : (barrowref32_In.j0 k true a0_0 a0_1 a0_2 a0_3 a0_4 a0_5 a0_6 a1_0 a1_1) = some r := by rw [if_neg (show ¬ (false = true) by decide)] at H; exact H
        clear H
        have H := H1
        clear H1
        have H' := Aside0.mk H
        clear H
        have hnb16 := NB434_433.out
        have hnc16 := NB433_434.out
        have hcz17_0 : w9.cell? ⟨gb434, 0, none⟩ = some (.int .i64 a1_0) := (blk_cell BK434.out 0).trans rfl
        have hcz17_1 : w9.cell? ⟨gb434, 1, none⟩ = some (.int .i64 a1_1) := (blk_cell BK434.out 1).trans rfl
        have hfz17_0 := blk_frozen BK434.out 0
        have hfz17_1 := blk_frozen BK434.out 1
        go_wp2_with (first | (go_at_call 24; (with_reducible refine calls_of_args (args' := #[.int .i64 a1_0]) rfl ?_); (with_reducible refine (barrowref32_ends.calls a1_0 false _ A11.out).mono ?_); rintro e w' ⟨rfl, ⟨nd, rfl⟩⟩))
        go_meet
        case rel => exact ⟨_, (true), (by first | rfl | (simp; done) | (simp [*]; done)), (by first | rfl | (simp; done) | (simp [*]; done)), H', ⟨by first | omega | exact Nat.le_refl _⟩, ⟨by (with_reducible repeat (first | refine blk_drewN ?_ _ | refine blk_drew ?_ | refine blk_alloc ?_ _)); exact BK433.out⟩, ⟨by (with_reducible repeat (first | refine blk_drewN ?_ _ | refine blk_drew ?_ | refine blk_alloc ?_ _)); exact BK434.out⟩, ⟨by repeat (first | (with_reducible first | exact HB.out | apply below_alloc | apply pw_below_drewN | apply below_drew1 | refine below_set ?_ GE433.out | refine below_set ?_ GE434.out) | exact HB.out)⟩⟩
    · replace c10 := Bool.eq_false_iff.mpr c10
      subst c10
      have H1 : (barrowref32_In.j0 k true a0_0 a0_1 a0_2 a0_3 a0_4 a0_5 a0_6 a1_0 a1_1) = some r := by rw [if_neg (show ¬ (false = true) by decide)] at H; exact H
      clear H
      have H := H1
      clear H1
      have H' := Aside0.mk H
      clear H
      go_wp2
      go_meet
      case rel => exact ⟨_, (true), (by first | rfl | (simp; done) | (simp [*]; done)), (by first | rfl | (simp; done) | (simp [*]; done)), H', ⟨by first | omega | exact Nat.le_refl _⟩, ⟨by (with_reducible repeat (first | refine blk_drewN ?_ _ | refine blk_drew ?_ | refine blk_alloc ?_ _)); exact BK433.out⟩, ⟨by (with_reducible repeat (first | refine blk_drewN ?_ _ | refine blk_drew ?_ | refine blk_alloc ?_ _)); exact BK434.out⟩, ⟨by repeat (first | (with_reducible first | exact HB.out | apply below_alloc | apply pw_below_drewN | apply below_drew1 | refine below_set ?_ GE433.out | refine below_set ?_ GE434.out) | exact HB.out)⟩⟩
  case rest =>
    clear HC4
    try clear c1
    try clear p2
    try clear c7
    try clear c10
    try clear c12
    try clear c14
    try clear c16
    try clear hcz15_0
    try clear hcz15_1
    try clear hcz17_0
    try clear hcz17_1
    try clear hcz8_0
    try clear hcz8_1
    try clear hcz8_2
    try clear hcz8_3
    try clear hcz8_4
    try clear hcz8_5
    try clear hcz8_6
    try clear hfz15_0
    try clear hfz15_1
    try clear hfz17_0
    try clear hfz17_1
    try clear hfz8_0
    try clear hfz8_1
    try clear hfz8_2
    try clear hfz8_3
    try clear hfz8_4
    try clear hfz8_5
    try clear hfz8_6
    obtain ⟨kq, x29_3, rfl, rfl, HA, HJ3, BK433, BK434, HB⟩ := hcut
    cases kq with
    | zero => exact absurd HA.out (by simp [barrowref32_In.j0])
    | succ kj3 =>
      have H := HA.out
      clear HA
      simp only [barrowref32_In.j0] at H
      by_cases c18 : x29_3 = true
      · subst c18
        have H1 : (some false) = some r := by rw [if_pos rfl] at H; exact H
        clear H
        have H := H1
        clear H1
        obtain rfl := Option.some.inj H
        go_wp2
        go_ret
        exact ⟨by first | rfl | (simp [errW_none, errW_some] <;> rfl) | (simp [*, errW_none, errW_some] <;> rfl), by repeat (first | (with_reducible first | exact HB.out | apply below_alloc | apply pw_below_drewN | apply below_drew1 | refine below_set ?_ GE433.out | refine below_set ?_ GE434.out) | exact HB.out)⟩
      · replace c18 := Bool.eq_false_iff.mpr c18
        subst c18
        have H1 : (if a0_0 = 1 then (some (decide ((wrap64 ((wrap64 ((wrap64 (a1_0 - a0_1)) * (wrap64 (a1_0 - a0_1)))) + (wrap64 ((wrap64 (a1_1 - a0_2)) * (wrap64 (a1_1 - a0_2)))))) ≤ (wrap64 (a0_5 * a0_5))))) else (if a0_0 = 2 then (if (wrap64 ((wrap64 ((wrap64 (a1_0 - a0_1)) * (wrap64 (a1_0 - a0_1)))) + (wrap64 ((wrap64 (a1_1 - a0_2)) * (wrap64 (a1_1 - a0_2)))))) ≤ (wrap64 (a0_6 * a0_6)) then (if a0_5 = 0 then (some true) else (some (decide ((wrap64 ((wrap64 ((wrap64 (a1_0 - a0_1)) * (wrap64 (a1_0 - a0_1)))) + (wrap64 ((wrap64 (a1_1 - a0_2)) * (wrap64 (a1_1 - a0_2)))))) > (wrap64 (a0_5 * a0_5)))))) else (some false)) else (if a0_0 = 3 then (if (mn 0 (wrap64 (a0_3 - a0_1))) ≤ (wrap64 (a1_0 - a0_1)) then (if (wrap64 (a1_0 - a0_1)) ≤ (mx 0 (wrap64 (a0_3 - a0_1))) then (if (mn 0 (wrap64 (a0_4 - a0_2))) ≤ (wrap64 (a1_1 - a0_2)) then (some (decide ((wrap64 (a1_1 - a0_2)) ≤ (mx 0 (wrap64 (a0_4 - a0_2)))))) else (some false)) else (some false)) else (some false)) else (if a0_0 = 4 then (if (wrap64 ((wrap64 ((wrap64 (a1_0 - a0_1)) * (wrap64 (a1_0 - a0_1)))) + (wrap64 ((wrap64 (a1_1 - a0_2)) * (wrap64 (a1_1 - a0_2)))))) ≤ (wrap64 (a0_5 * a0_5)) then (if (wrap64 ((wrap64 ((wrap64 (a1_0 - a0_1)) * (wrap64 (a1_0 - a0_1)))) + (wrap64 ((wrap64 (a1_1 - a0_2)) * (wrap64 (a1_1 - a0_2)))))) = 0 then (some true) else (if (wrap64 ((wrap64 ((wrap64 (a1_0 - a0_1)) * (wrap64 (a0_3 - a0_1)))) + (wrap64 ((wrap64 (a1_1 - a0_2)) * (wrap64 (a0_4 - a0_2)))))) > 0 then (if (wrap64 ((wrap64 ((wrap64 (a1_0 - a0_1)) * (wrap64 (a0_4 - a0_2)))) - (wrap64 ((wrap64 (a1_1 - a0_2)) * (wrap64 (a0_3 - a0_1)))))) ≤ (wrap64 ((wrap64 ((wrap64 (a1_0 - a0_1)) * (wrap64 (a0_3 - a0_1)))) + (wrap64 ((wrap64 (a1_1 - a0_2)) * (wrap64 (a0_4 - a0_2)))))) then (some (decide ((wrap64 (-(wrap64 ((wrap64 ((wrap64 (a1_0 - a0_1)) * (wrap64 (a0_4 - a0_2)))) - (wrap64 ((wrap64 (a1_1 - a0_2)) * (wrap64 (a0_3 - a0_1)))))))) ≤ (wrap64 ((wrap64 ((wrap64 (a1_0 - a0_1)) * (wrap64 (a0_3 - a0_1)))) + (wrap64 ((wrap64 (a1_1 - a0_2)) * (wrap64 (a0_4 - a0_2))))))))) else (some false)) else (some false))) else (some false)) else (if (wrap64 ((wrap64 ((wrap64 (a0_3 - a0_1)) * (wrap64 (a0_3 - a0_1)))) + (wrap64 ((wrap64 (a0_4 - a0_2)) * (wrap64 (a0_4 - a0_2)))))) = 0 then (some (decide ((wrap64 ((wrap64 ((wrap64 (a1_0 - a0_1)) * (wrap64 (a1_0 - a0_1)))) + (wrap64 ((wrap64 (a1_1 - a0_2)) * (wrap64 (a1_1 - a0_2)))))) ≤ (wrap64 (a0_5 * a0_5))))) else (if (wrap64 ((wrap64 ((wrap64 (a1_0 - a0_1)) * (wrap64 (a0_3 - a0_1)))) + (wrap64 ((wrap64 (a1_1 - a0_2)) * (wrap64 (a0_4 - a0_2)))))) ≥ 0 then (if (wrap64 ((wrap64 ((wrap64 (a1_0 - a0_1)) * (wrap64 (a0_3 - a0_1)))) + (wrap64 ((wrap64 (a1_1 - a0_2)) * (wrap64 (a0_4 - a0_2)))))) ≤ (wrap64 ((wrap64 ((wrap64 (a0_3 - a0_1)) * (wrap64 (a0_3 - a0_1)))) + (wrap64 ((wrap64 (a0_4 - a0_2)) * (wrap64 (a0_4 - a0_2)))))) then (some (decide ((wrap64 ((wrap64 ((wrap64 ((wrap64 (a1_0 - a0_1)) * (wrap64 (a0_4 - a0_2)))) - (wrap64 ((wrap64 (a1_1 - a0_2)) * (wrap64 (a0_3 - a0_1)))))) * (wrap64 ((wrap64 ((wrap64 (a1_0 - a0_1)) * (wrap64 (a0_4 - a0_2)))) - (wrap64 ((wrap64 (a1_1 - a0_2)) * (wrap64 (a0_3 - a0_1)))))))) ≤ (wrap64 ((wrap64 (a0_5 * a0_5)) * (wrap64 ((wrap64 ((wrap64 (a0_3 - a0_1)) * (wrap64 (a0_3 - a0_1)))) + (wrap64 ((wrap64 (a0_4 - a0_2)) * (wrap64 (a0_4 - a0_2))))))))))) else (some false)) else (some false))))))) = some r := by rw [if_neg (show ¬ (false = true) by decide)] at H; exact H
        clear H
        have H := H1
        clear H1
        by_cases c19 : a0_0 = 1
        · rw [if_pos c19] at H
          have c19b0 : (a0_0 == 1) = true := beq_iff_eq.mpr c19
          have c19b1 : (a0_0 != 1) = false := bne_eq_false_iff_eq.mpr c19
          clear c19
          obtain rfl := Option.some.inj H
          have hnb20 := NB434_433.out
          have hnc20 := NB433_434.out
          have hcz21_0 : wc.cell? ⟨gb434, 0, none⟩ = some (.int .i64 a1_0) := (blk_cell BK434.out 0).trans rfl
          have hcz21_1 : wc.cell? ⟨gb434, 1, none⟩ = some (.int .i64 a1_1) := (blk_cell BK434.out 1).trans rfl
          have hfz21_0 := blk_frozen BK434.out 0
          have hfz21_1 := blk_frozen BK434.out 1
          have hcz22_0 : wc.cell? ⟨gb433, 0, none⟩ = some (.int .i64 a0_0) := (blk_cell BK433.out 0).trans rfl
          have hcz22_1 : wc.cell? ⟨gb433, 1, none⟩ = some (.int .i64 a0_1) := (blk_cell BK433.out 1).trans rfl
          have hcz22_2 : wc.cell? ⟨gb433, 2, none⟩ = some (.int .i64 a0_2) := (blk_cell BK433.out 2).trans rfl
          have hcz22_3 : wc.cell? ⟨gb433, 3, none⟩ = some (.int .i64 a0_3) := (blk_cell BK433.out 3).trans rfl
          have hcz22_4 : wc.cell? ⟨gb433, 4, none⟩ = some (.int .i64 a0_4) := (blk_cell BK433.out 4).trans rfl
          have hcz22_5 : wc.cell? ⟨gb433, 5, none⟩ = some (.int .i64 a0_5) := (blk_cell BK433.out 5).trans rfl
          have hcz22_6 : wc.cell? ⟨gb433, 6, none⟩ = some (.int .i64 a0_6) := (blk_cell BK433.out 6).trans rfl
          have hfz22_0 := blk_frozen BK433.out 0
          have hfz22_1 := blk_frozen BK433.out 1
          have hfz22_2 := blk_frozen BK433.out 2
          have hfz22_3 := blk_frozen BK433.out 3
          have hfz22_4 := blk_frozen BK433.out 4
          have hfz22_5 := blk_frozen BK433.out 5
          have hfz22_6 := blk_frozen BK433.out 6
          go_wp2
          go_ret
          exact ⟨by first | rfl | (simp [errW_none, errW_some] <;> rfl) | (simp [*, errW_none, errW_some] <;> rfl), by repeat (first | (with_reducible first | exact HB.out | apply below_alloc | apply pw_below_drewN | apply below_drew1 | refine below_set ?_ GE433.out | refine below_set ?_ GE434.out) | exact HB.out)⟩
        · rw [if_neg c19] at H
          have c19b0 : (a0_0 == 1) = false := beq_eq_false_iff_ne.mpr c19
          have c19b1 : (a0_0 != 1) = true := bne_iff_ne.mpr c19
          by_cases c23 : a0_0 = 2
          · rw [if_pos c23] at H
            have c23b0 : (a0_0 == 2) = true := beq_iff_eq.mpr c23
            have c23b1 : (a0_0 != 2) = false := bne_eq_false_iff_eq.mpr c23
            clear c23
            by_cases c24 : (wrap64 ((wrap64 ((wrap64 (a1_0 - a0_1)) * (wrap64 (a1_0 - a0_1)))) + (wrap64 ((wrap64 (a1_1 - a0_2)) * (wrap64 (a1_1 - a0_2)))))) ≤ (wrap64 (a0_6 * a0_6))
            · rw [if_pos c24] at H
              have c24b0 : decide ((wrap64 ((wrap64 ((wrap64 (a1_0 - a0_1)) * (wrap64 (a1_0 - a0_1)))) + (wrap64 ((wrap64 (a1_1 - a0_2)) * (wrap64 (a1_1 - a0_2)))))) ≤ (wrap64 (a0_6 * a0_6))) = true := decide_eq_true c24
              clear c24
              by_cases c25 : a0_5 = 0
              · rw [if_pos c25] at H
                have c25b0 : (a0_5 == 0) = true := beq_iff_eq.mpr c25
                have c25b1 : (a0_5 != 0) = false := bne_eq_false_iff_eq.mpr c25
                clear c25
                obtain rfl := Option.some.inj H
                have hnb26 := NB434_433.out
                have hnc26 := NB433_434.out
                have hcz27_0 : wc.cell? ⟨gb434, 0, none⟩ = some (.int .i64 a1_0) := (blk_cell BK434.out 0).trans rfl
                have hcz27_1 : wc.cell? ⟨gb434, 1, none⟩ = some (.int .i64 a1_1) := (blk_cell BK434.out 1).trans rfl
                have hfz27_0 := blk_frozen BK434.out 0
                have hfz27_1 := blk_frozen BK434.out 1
                have hcz28_0 : wc.cell? ⟨gb433, 0, none⟩ = some (.int .i64 a0_0) := (blk_cell BK433.out 0).trans rfl
                have hcz28_1 : wc.cell? ⟨gb433, 1, none⟩ = some (.int .i64 a0_1) := (blk_cell BK433.out 1).trans rfl
                have hcz28_2 : wc.cell? ⟨gb433, 2, none⟩ = some (.int .i64 a0_2) := (blk_cell BK433.out 2).trans rfl
                have hcz28_3 : wc.cell? ⟨gb433, 3, none⟩ = some (.int .i64 a0_3) := (blk_cell BK433.out 3).trans rfl
                have hcz28_4 : wc.cell? ⟨gb433, 4, none⟩ = some (.int .i64 a0_4) := (blk_cell BK433.out 4).trans rfl
                have hcz28_5 : wc.cell? ⟨gb433, 5, none⟩ = some (.int .i64 a0_5) := (blk_cell BK433.out 5).trans rfl
                have hcz28_6 : wc.cell? ⟨gb433, 6, none⟩ = some (.int .i64 a0_6) := (blk_cell BK433.out 6).trans rfl
                have hfz28_0 := blk_frozen BK433.out 0
                have hfz28_1 := blk_frozen BK433.out 1
                have hfz28_2 := blk_frozen BK433.out 2
                have hfz28_3 := blk_frozen BK433.out 3
                have hfz28_4 := blk_frozen BK433.out 4
                have hfz28_5 := blk_frozen BK433.out 5
                have hfz28_6 := blk_frozen BK433.out 6
                go_wp2
                go_ret
                exact ⟨by first | rfl | (simp [errW_none, errW_some] <;> rfl) | (simp [*, errW_none, errW_some] <;> rfl), by repeat (first | (with_reducible first | exact HB.out | apply below_alloc | apply pw_below_drewN | apply below_drew1 | refine below_set ?_ GE433.out | refine below_set ?_ GE434.out) | exact HB.out)⟩
              · rw [if_neg c25] at H
                have c25b0 : (a0_5 == 0) = false := beq_eq_false_iff_ne.mpr c25
                have c25b1 : (a0_5 != 0) = true := bne_iff_ne.mpr c25
                obtain rfl := Option.some.inj H
                have hnb29 := NB434_433.out
                have hnc29 := NB433_434.out
                have hcz30_0 : wc.cell? ⟨gb434, 0, none⟩ = some (.int .i64 a1_0) := (blk_cell BK434.out 0).trans rfl
                have hcz30_1 : wc.cell? ⟨gb434, 1, none⟩ = some (.int .i64 a1_1) := (blk_cell BK434.out 1).trans rfl
                have hfz30_0 := blk_frozen BK434.out 0
                have hfz30_1 := blk_frozen BK434.out 1
                have hcz31_0 : wc.cell? ⟨gb433, 0, none⟩ = some (.int .i64 a0_0) := (blk_cell BK433.out 0).trans rfl
                have hcz31_1 : wc.cell? ⟨gb433, 1, none⟩ = some (.int .i64 a0_1) := (blk_cell BK433.out 1).trans rfl
                have hcz31_2 : wc.cell? ⟨gb433, 2, none⟩ = some (.int .i64 a0_2) := (blk_cell BK433.out 2).trans rfl
                have hcz31_3 : wc.cell? ⟨gb433, 3, none⟩ = some (.int .i64 a0_3) := (blk_cell BK433.out 3).trans rfl
                have hcz31_4 : wc.cell? ⟨gb433, 4, none⟩ = some (.int .i64 a0_4) := (blk_cell BK433.out 4).trans rfl
                have hcz31_5 : wc.cell? ⟨gb433, 5, none⟩ = some (.int .i64 a0_5) := (blk_cell BK433.out 5).trans rfl
                have hcz31_6 : wc.cell? ⟨gb433, 6, none⟩ = some (.int .i64 a0_6) := (blk_cell BK433.out 6).trans rfl
                have hfz31_0 := blk_frozen BK433.out 0
                have hfz31_1 := blk_frozen BK433.out 1
                have hfz31_2 := blk_frozen BK433.out 2
                have hfz31_3 := blk_frozen BK433.out 3
                have hfz31_4 := blk_frozen BK433.out 4
                have hfz31_5 := blk_frozen BK433.out 5
                have hfz31_6 := blk_frozen BK433.out 6
                go_wp2
                go_ret
                exact ⟨by first | rfl | (simp [errW_none, errW_some] <;> rfl) | (simp [*, errW_none, errW_some] <;> rfl), by repeat (first | (with_reducible first | exact HB.out | apply below_alloc | apply pw_below_drewN | apply below_drew1 | refine below_set ?_ GE433.out | refine below_set ?_ GE434.out) | exact HB.out)⟩
            · rw [if_neg c24] at H
              have c24b0 : decide ((wrap64 ((wrap64 ((wrap64 (a1_0 - a0_1)) * (wrap64 (a1_0 - a0_1)))) + (wrap64 ((wrap64 (a1_1 - a0_2)) * (wrap64 (a1_1 - a0_2)))))) ≤ (wrap64 (a0_6 * a0_6))) = false := decide_eq_false c24
              clear c24
              obtain rfl := Option.some.inj H
              have hnb32 := NB434_433.out
              have hnc32 := NB433_434.out
              have hcz33_0 : wc.cell? ⟨gb434, 0, none⟩ = some (.int .i64 a1_0) := (blk_cell BK434.out 0).trans rfl
              have hcz33_1 : wc.cell? ⟨gb434, 1, none⟩ = some (.int .i64 a1_1) := (blk_cell BK434.out 1).trans rfl
              have hfz33_0 := blk_frozen BK434.out 0
              have hfz33_1 := blk_frozen BK434.out 1
              have hcz34_0 : wc.cell? ⟨gb433, 0, none⟩ = some (.int .i64 a0_0) := (blk_cell BK433.out 0).trans rfl
              have hcz34_1 : wc.cell? ⟨gb433, 1, none⟩ = some (.int .i64 a0_1) := (blk_cell BK433.out 1).trans rfl
              have hcz34_2 : wc.cell? ⟨gb433, 2, none⟩ = some (.int .i64 a0_2) := (blk_cell BK433.out 2).trans rfl
              have hcz34_3 : wc.cell? ⟨gb433, 3, none⟩ = some (.int .i64 a0_3) := (blk_cell BK433.out 3).trans rfl
              have hcz34_4 : wc.cell? ⟨gb433, 4, none⟩ = some (.int .i64 a0_4) := (blk_cell BK433.out 4).trans rfl
              have hcz34_5 : wc.cell? ⟨gb433, 5, none⟩ = some (.int .i64 a0_5) := (blk_cell BK433.out 5).trans rfl
              have hcz34_6 : wc.cell? ⟨gb433, 6, none⟩ = some (.int .i64 a0_6) := (blk_cell BK433.out 6).trans rfl
              have hfz34_0 := blk_frozen BK433.out 0
              have hfz34_1 := blk_frozen BK433.out 1
              have hfz34_2 := blk_frozen BK433.out 2
              have hfz34_3 := blk_frozen BK433.out 3
              have hfz34_4 := blk_frozen BK433.out 4
              have hfz34_5 := blk_frozen BK433.out 5
              have hfz34_6 := blk_frozen BK433.out 6
              go_wp2
              go_ret
              exact ⟨by first | rfl | (simp [errW_none, errW_some] <;> rfl) | (simp [*, errW_none, errW_some] <;> rfl), by repeat (first | (with_reducible first | exact HB.out | apply below_alloc | apply pw_below_drewN | apply below_drew1 | refine below_set ?_ GE433.out | refine below_set ?_ GE434.out) | exact HB.out)⟩
          · rw [if_neg c23] at H
            have c23b0 : (a0_0 == 2) = false := beq_eq_false_iff_ne.mpr c23
            have c23b1 : (a0_0 != 2) = true := bne_iff_ne.mpr c23
            by_cases c35 : a0_0 = 3
            · rw [if_pos c35] at H
              have c35b0 : (a0_0 == 3) = true := beq_iff_eq.mpr c35
              have c35b1 : (a0_0 != 3) = false := bne_eq_false_iff_eq.mpr c35
              clear c35
              obtain ⟨ji36, hji36⟩ : ∃ j_ : Int, (mn 0 (wrap64 (a0_3 - a0_1))) = j_ := ⟨_, rfl⟩
              replace H : (if (ji36) ≤ (wrap64 (a1_0 - a0_1)) then (if (wrap64 (a1_0 - a0_1)) ≤ (mx 0 (wrap64 (a0_3 - a0_1))) then (if (mn 0 (wrap64 (a0_4 - a0_2))) ≤ (wrap64 (a1_1 - a0_2)) then (some (decide ((wrap64 (a1_1 - a0_2)) ≤ (mx 0 (wrap64 (a0_4 - a0_2)))))) else (some false)) else (some false)) else (some false)) = some r := by first | (rw [hji36] at H; exact H) | (simp only [hji36] at H ⊢; exact H)
              have hji36_ : (if (wrap64 (a0_3 - a0_1)) < 0 then (wrap64 (a0_3 - a0_1)) else 0) = ji36 := hji36
              by_cases c37 : (ji36) ≤ (wrap64 (a1_0 - a0_1))
              · rw [if_pos c37] at H
                have c37b0 : decide ((ji36) ≤ (wrap64 (a1_0 - a0_1))) = true := decide_eq_true c37
                clear c37
                obtain ⟨ji38, hji38⟩ : ∃ j_ : Int, (mx 0 (wrap64 (a0_3 - a0_1))) = j_ := ⟨_, rfl⟩
                replace H : (if (wrap64 (a1_0 - a0_1)) ≤ (ji38) then (if (mn 0 (wrap64 (a0_4 - a0_2))) ≤ (wrap64 (a1_1 - a0_2)) then (some (decide ((wrap64 (a1_1 - a0_2)) ≤ (mx 0 (wrap64 (a0_4 - a0_2)))))) else (some false)) else (some false)) = some r := by first | (rw [hji38] at H; exact H) | (simp only [hji38] at H ⊢; exact H)
                have hji38_ : (if 0 < (wrap64 (a0_3 - a0_1)) then (wrap64 (a0_3 - a0_1)) else 0) = ji38 := hji38
                by_cases c39 : (wrap64 (a1_0 - a0_1)) ≤ (ji38)
                · rw [if_pos c39] at H
                  have c39b0 : decide ((wrap64 (a1_0 - a0_1)) ≤ (ji38)) = true := decide_eq_true c39
                  clear c39
                  obtain ⟨ji40, hji40⟩ : ∃ j_ : Int, (mn 0 (wrap64 (a0_4 - a0_2))) = j_ := ⟨_, rfl⟩
                  replace H : (if (ji40) ≤ (wrap64 (a1_1 - a0_2)) then (some (decide ((wrap64 (a1_1 - a0_2)) ≤ (mx 0 (wrap64 (a0_4 - a0_2)))))) else (some false)) = some r := by first | (rw [hji40] at H; exact H) | (simp only [hji40] at H ⊢; exact H)
                  have hji40_ : (if (wrap64 (a0_4 - a0_2)) < 0 then (wrap64 (a0_4 - a0_2)) else 0) = ji40 := hji40
                  by_cases c41 : (ji40) ≤ (wrap64 (a1_1 - a0_2))
                  · rw [if_pos c41] at H
                    have c41b0 : decide ((ji40) ≤ (wrap64 (a1_1 - a0_2))) = true := decide_eq_true c41
                    clear c41
                    obtain ⟨ji42, hji42⟩ : ∃ j_ : Int, (mx 0 (wrap64 (a0_4 - a0_2))) = j_ := ⟨_, rfl⟩
                    replace H : (some (decide ((wrap64 (a1_1 - a0_2)) ≤ (ji42)))) = some r := by first | (rw [hji42] at H; exact H) | (simp only [hji42] at H ⊢; exact H)
                    have hji42_ : (if 0 < (wrap64 (a0_4 - a0_2)) then (wrap64 (a0_4 - a0_2)) else 0) = ji42 := hji42
                    obtain rfl := Option.some.inj H
                    have hnb43 := NB434_433.out
                    have hnc43 := NB433_434.out
                    have hcz44_0 : wc.cell? ⟨gb434, 0, none⟩ = some (.int .i64 a1_0) := (blk_cell BK434.out 0).trans rfl
                    have hcz44_1 : wc.cell? ⟨gb434, 1, none⟩ = some (.int .i64 a1_1) := (blk_cell BK434.out 1).trans rfl
                    have hfz44_0 := blk_frozen BK434.out 0
                    have hfz44_1 := blk_frozen BK434.out 1
                    have hcz45_0 : wc.cell? ⟨gb433, 0, none⟩ = some (.int .i64 a0_0) := (blk_cell BK433.out 0).trans rfl
                    have hcz45_1 : wc.cell? ⟨gb433, 1, none⟩ = some (.int .i64 a0_1) := (blk_cell BK433.out 1).trans rfl
                    have hcz45_2 : wc.cell? ⟨gb433, 2, none⟩ = some (.int .i64 a0_2) := (blk_cell BK433.out 2).trans rfl
                    have hcz45_3 : wc.cell? ⟨gb433, 3, none⟩ = some (.int .i64 a0_3) := (blk_cell BK433.out 3).trans rfl
                    have hcz45_4 : wc.cell? ⟨gb433, 4, none⟩ = some (.int .i64 a0_4) := (blk_cell BK433.out 4).trans rfl
                    have hcz45_5 : wc.cell? ⟨gb433, 5, none⟩ = some (.int .i64 a0_5) := (blk_cell BK433.out 5).trans rfl
                    have hcz45_6 : wc.cell? ⟨gb433, 6, none⟩ = some (.int .i64 a0_6) := (blk_cell BK433.out 6).trans rfl
                    have hfz45_0 := blk_frozen BK433.out 0
                    have hfz45_1 := blk_frozen BK433.out 1
                    have hfz45_2 := blk_frozen BK433.out 2
                    have hfz45_3 := blk_frozen BK433.out 3
                    have hfz45_4 := blk_frozen BK433.out 4
                    have hfz45_5 := blk_frozen BK433.out 5
                    have hfz45_6 := blk_frozen BK433.out 6
                    go_wp2
                    go_ret
                    exact ⟨by first | rfl | (simp [errW_none, errW_some] <;> rfl) | (simp only [← hji36, ← hji38, ← hji40, ← hji42]; first | rfl | (simp [errW_none, errW_some] <;> rfl)) | (simp [*, errW_none, errW_some] <;> rfl), by repeat (first | (with_reducible first | exact HB.out | apply below_alloc | apply pw_below_drewN | apply below_drew1 | refine below_set ?_ GE433.out | refine below_set ?_ GE434.out) | exact HB.out)⟩
                  · rw [if_neg c41] at H
                    have c41b0 : decide ((ji40) ≤ (wrap64 (a1_1 - a0_2))) = false := decide_eq_false c41
                    clear c41
                    obtain rfl := Option.some.inj H
                    have hnb46 := NB434_433.out
                    have hnc46 := NB433_434.out
                    have hcz47_0 : wc.cell? ⟨gb434, 0, none⟩ = some (.int .i64 a1_0) := (blk_cell BK434.out 0).trans rfl
                    have hcz47_1 : wc.cell? ⟨gb434, 1, none⟩ = some (.int .i64 a1_1) := (blk_cell BK434.out 1).trans rfl
                    have hfz47_0 := blk_frozen BK434.out 0
                    have hfz47_1 := blk_frozen BK434.out 1
                    have hcz48_0 : wc.cell? ⟨gb433, 0, none⟩ = some (.int .i64 a0_0) := (blk_cell BK433.out 0).trans rfl
                    have hcz48_1 : wc.cell? ⟨gb433, 1, none⟩ = some (.int .i64 a0_1) := (blk_cell BK433.out 1).trans rfl
                    have hcz48_2 : wc.cell? ⟨gb433, 2, none⟩ = some (.int .i64 a0_2) := (blk_cell BK433.out 2).trans rfl
                    have hcz48_3 : wc.cell? ⟨gb433, 3, none⟩ = some (.int .i64 a0_3) := (blk_cell BK433.out 3).trans rfl
                    have hcz48_4 : wc.cell? ⟨gb433, 4, none⟩ = some (.int .i64 a0_4) := (blk_cell BK433.out 4).trans rfl
                    have hcz48_5 : wc.cell? ⟨gb433, 5, none⟩ = some (.int .i64 a0_5) := (blk_cell BK433.out 5).trans rfl
                    have hcz48_6 : wc.cell? ⟨gb433, 6, none⟩ = some (.int .i64 a0_6) := (blk_cell BK433.out 6).trans rfl
                    have hfz48_0 := blk_frozen BK433.out 0
                    have hfz48_1 := blk_frozen BK433.out 1
                    have hfz48_2 := blk_frozen BK433.out 2
                    have hfz48_3 := blk_frozen BK433.out 3
                    have hfz48_4 := blk_frozen BK433.out 4
                    have hfz48_5 := blk_frozen BK433.out 5
                    have hfz48_6 := blk_frozen BK433.out 6
                    go_wp2
                    go_ret
                    exact ⟨by first | rfl | (simp [errW_none, errW_some] <;> rfl) | (simp only [← hji36, ← hji38, ← hji40]; first | rfl | (simp [errW_none, errW_some] <;> rfl)) | (simp [*, errW_none, errW_some] <;> rfl), by repeat (first | (with_reducible first | exact HB.out | apply below_alloc | apply pw_below_drewN | apply below_drew1 | refine below_set ?_ GE433.out | refine below_set ?_ GE434.out) | exact HB.out)⟩
                · rw [if_neg c39] at H
                  have c39b0 : decide ((wrap64 (a1_0 - a0_1)) ≤ (ji38)) = false := decide_eq_false c39
                  clear c39
                  obtain rfl := Option.some.inj H
                  have hnb49 := NB434_433.out
                  have hnc49 := NB433_434.out
                  have hcz50_0 : wc.cell? ⟨gb434, 0, none⟩ = some (.int .i64 a1_0) := (blk_cell BK434.out 0).trans rfl
                  have hcz50_1 : wc.cell? ⟨gb434, 1, none⟩ = some (.int .i64 a1_1) := (blk_cell BK434.out 1).trans rfl
                  have hfz50_0 := blk_frozen BK434.out 0
                  have hfz50_1 := blk_frozen BK434.out 1
                  have hcz51_0 : wc.cell? ⟨gb433, 0, none⟩ = some (.int .i64 a0_0) := (blk_cell BK433.out 0).trans rfl
                  have hcz51_1 : wc.cell? ⟨gb433, 1, none⟩ = some (.int .i64 a0_1) := (blk_cell BK433.out 1).trans rfl
                  have hcz51_2 : wc.cell? ⟨gb433, 2, none⟩ = some (.int .i64 a0_2) := (blk_cell BK433.out 2).trans rfl
                  have hcz51_3 : wc.cell? ⟨gb433, 3, none⟩ = some (.int .i64 a0_3) := (blk_cell BK433.out 3).trans rfl
                  have hcz51_4 : wc.cell? ⟨gb433, 4, none⟩ = some (.int .i64 a0_4) := (blk_cell BK433.out 4).trans rfl
                  have hcz51_5 : wc.cell? ⟨gb433, 5, none⟩ = some (.int .i64 a0_5) := (blk_cell BK433.out 5).trans rfl
                  have hcz51_6 : wc.cell? ⟨gb433, 6, none⟩ = some (.int .i64 a0_6) := (blk_cell BK433.out 6).trans rfl
                  have hfz51_0 := blk_frozen BK433.out 0
                  have hfz51_1 := blk_frozen BK433.out 1
                  have hfz51_2 := blk_frozen BK433.out 2
                  have hfz51_3 := blk_frozen BK433.out 3
                  have hfz51_4 := blk_frozen BK433.out 4
                  have hfz51_5 := blk_frozen BK433.out 5
                  have hfz51_6 := blk_frozen BK433.out 6
                  go_wp2
                  go_ret
                  exact ⟨by first | rfl | (simp [errW_none, errW_some] <;> rfl) | (simp only [← hji36, ← hji38]; first | rfl | (simp [errW_none, errW_some] <;> rfl)) | (simp [*, errW_none, errW_some] <;> rfl), by repeat (first | (with_reducible first | exact HB.out | apply below_alloc | apply pw_below_drewN | apply below_drew1 | refine below_set ?_ GE433.out | refine below_set ?_ GE434.out) | exact HB.out)⟩
              · rw [if_neg c37] at H
                have c37b0 : decide ((ji36) ≤ (wrap64 (a1_0 - a0_1))) = false := decide_eq_false c37
                clear c37
                obtain rfl := Option.some.inj H
                have hnb52 := NB434_433.out
                have hnc52 := NB433_434.out
                have hcz53_0 : wc.cell? ⟨gb434, 0, none⟩ = some (.int .i64 a1_0) := (blk_cell BK434.out 0).trans rfl
                have hcz53_1 : wc.cell? ⟨gb434, 1, none⟩ = some (.int .i64 a1_1) := (blk_cell BK434.out 1).trans rfl
                have hfz53_0 := blk_frozen BK434.out 0
                have hfz53_1 := blk_frozen BK434.out 1
                have hcz54_0 : wc.cell? ⟨gb433, 0, none⟩ = some (.int .i64 a0_0) := (blk_cell BK433.out 0).trans rfl
                have hcz54_1 : wc.cell? ⟨gb433, 1, none⟩ = some (.int .i64 a0_1) := (blk_cell BK433.out 1).trans rfl
                have hcz54_2 : wc.cell? ⟨gb433, 2, none⟩ = some (.int .i64 a0_2) := (blk_cell BK433.out 2).trans rfl
                have hcz54_3 : wc.cell? ⟨gb433, 3, none⟩ = some (.int .i64 a0_3) := (blk_cell BK433.out 3).trans rfl
                have hcz54_4 : wc.cell? ⟨gb433, 4, none⟩ = some (.int .i64 a0_4) := (blk_cell BK433.out 4).trans rfl
                have hcz54_5 : wc.cell? ⟨gb433, 5, none⟩ = some (.int .i64 a0_5) := (blk_cell BK433.out 5).trans rfl
                have hcz54_6 : wc.cell? ⟨gb433, 6, none⟩ = some (.int .i64 a0_6) := (blk_cell BK433.out 6).trans rfl
                have hfz54_0 := blk_frozen BK433.out 0
                have hfz54_1 := blk_frozen BK433.out 1
                have hfz54_2 := blk_frozen BK433.out 2
                have hfz54_3 := blk_frozen BK433.out 3
                have hfz54_4 := blk_frozen BK433.out 4
                have hfz54_5 := blk_frozen BK433.out 5
                have hfz54_6 := blk_frozen BK433.out 6
                go_wp2
                go_ret
                exact ⟨by first | rfl | (simp [errW_none, errW_some] <;> rfl) | (simp only [← hji36]; first | rfl | (simp [errW_none, errW_some] <;> rfl)) | (simp [*, errW_none, errW_some] <;> rfl), by repeat (first | (with_reducible first | exact HB.out | apply below_alloc | apply pw_below_drewN | apply below_drew1 | refine below_set ?_ GE433.out | refine below_set ?_ GE434.out) | exact HB.out)⟩
            · rw [if_neg c35] at H
              have c35b0 : (a0_0 == 3) = false := beq_eq_false_iff_ne.mpr c35
              have c35b1 : (a0_0 != 3) = true := bne_iff_ne.mpr c35
              by_cases c55 : a0_0 = 4
              · rw [if_pos c55] at H
                have c55b0 : (a0_0 == 4) = true := beq_iff_eq.mpr c55
                have c55b1 : (a0_0 != 4) = false := bne_eq_false_iff_eq.mpr c55
                clear c55
                by_cases c56 : (wrap64 ((wrap64 ((wrap64 (a1_0 - a0_1)) * (wrap64 (a1_0 - a0_1)))) + (wrap64 ((wrap64 (a1_1 - a0_2)) * (wrap64 (a1_1 - a0_2)))))) ≤ (wrap64 (a0_5 * a0_5))
                · rw [if_pos c56] at H
                  have c56b0 : decide ((wrap64 ((wrap64 ((wrap64 (a1_0 - a0_1)) * (wrap64 (a1_0 - a0_1)))) + (wrap64 ((wrap64 (a1_1 - a0_2)) * (wrap64 (a1_1 - a0_2)))))) ≤ (wrap64 (a0_5 * a0_5))) = true := decide_eq_true c56
                  clear c56
                  by_cases c57 : (wrap64 ((wrap64 ((wrap64 (a1_0 - a0_1)) * (wrap64 (a1_0 - a0_1)))) + (wrap64 ((wrap64 (a1_1 - a0_2)) * (wrap64 (a1_1 - a0_2)))))) = 0
                  · rw [if_pos c57] at H
                    have c57b0 : ((wrap64 ((wrap64 ((wrap64 (a1_0 - a0_1)) * (wrap64 (a1_0 - a0_1)))) + (wrap64 ((wrap64 (a1_1 - a0_2)) * (wrap64 (a1_1 - a0_2)))))) == 0) = true := beq_iff_eq.mpr c57
                    have c57b1 : ((wrap64 ((wrap64 ((wrap64 (a1_0 - a0_1)) * (wrap64 (a1_0 - a0_1)))) + (wrap64 ((wrap64 (a1_1 - a0_2)) * (wrap64 (a1_1 - a0_2)))))) != 0) = false := bne_eq_false_iff_eq.mpr c57
                    clear c57
                    obtain rfl := Option.some.inj H
                    have hnb58 := NB434_433.out
                    have hnc58 := NB433_434.out
                    have hcz59_0 : wc.cell? ⟨gb434, 0, none⟩ = some (.int .i64 a1_0) := (blk_cell BK434.out 0).trans rfl
                    have hcz59_1 : wc.cell? ⟨gb434, 1, none⟩ = some (.int .i64 a1_1) := (blk_cell BK434.out 1).trans rfl
                    have hfz59_0 := blk_frozen BK434.out 0
                    have hfz59_1 := blk_frozen BK434.out 1
                    have hcz60_0 : wc.cell? ⟨gb433, 0, none⟩ = some (.int .i64 a0_0) := (blk_cell BK433.out 0).trans rfl
                    have hcz60_1 : wc.cell? ⟨gb433, 1, none⟩ = some (.int .i64 a0_1) := (blk_cell BK433.out 1).trans rfl
                    have hcz60_2 : wc.cell? ⟨gb433, 2, none⟩ = some (.int .i64 a0_2) := (blk_cell BK433.out 2).trans rfl
                    have hcz60_3 : wc.cell? ⟨gb433, 3, none⟩ = some (.int .i64 a0_3) := (blk_cell BK433.out 3).trans rfl
                    have hcz60_4 : wc.cell? ⟨gb433, 4, none⟩ = some (.int .i64 a0_4) := (blk_cell BK433.out 4).trans rfl
                    have hcz60_5 : wc.cell? ⟨gb433, 5, none⟩ = some (.int .i64 a0_5) := (blk_cell BK433.out 5).trans rfl
                    have hcz60_6 : wc.cell? ⟨gb433, 6, none⟩ = some (.int .i64 a0_6) := (blk_cell BK433.out 6).trans rfl
                    have hfz60_0 := blk_frozen BK433.out 0
                    have hfz60_1 := blk_frozen BK433.out 1
                    have hfz60_2 := blk_frozen BK433.out 2
                    have hfz60_3 := blk_frozen BK433.out 3
                    have hfz60_4 := blk_frozen BK433.out 4
                    have hfz60_5 := blk_frozen BK433.out 5
                    have hfz60_6 := blk_frozen BK433.out 6
                    go_wp2
                    go_ret
                    exact ⟨by first | rfl | (simp [errW_none, errW_some] <;> rfl) | (simp [*, errW_none, errW_some] <;> rfl), by repeat (first | (with_reducible first | exact HB.out | apply below_alloc | apply pw_below_drewN | apply below_drew1 | refine below_set ?_ GE433.out | refine below_set ?_ GE434.out) | exact HB.out)⟩
                  · rw [if_neg c57] at H
                    have c57b0 : ((wrap64 ((wrap64 ((wrap64 (a1_0 - a0_1)) * (wrap64 (a1_0 - a0_1)))) + (wrap64 ((wrap64 (a1_1 - a0_2)) * (wrap64 (a1_1 - a0_2)))))) == 0) = false := beq_eq_false_iff_ne.mpr c57
                    have c57b1 : ((wrap64 ((wrap64 ((wrap64 (a1_0 - a0_1)) * (wrap64 (a1_0 - a0_1)))) + (wrap64 ((wrap64 (a1_1 - a0_2)) * (wrap64 (a1_1 - a0_2)))))) != 0) = true := bne_iff_ne.mpr c57
                    by_cases c61 : (wrap64 ((wrap64 ((wrap64 (a1_0 - a0_1)) * (wrap64 (a0_3 - a0_1)))) + (wrap64 ((wrap64 (a1_1 - a0_2)) * (wrap64 (a0_4 - a0_2)))))) > 0
                    · rw [if_pos c61] at H
                      have c61b0 : decide (0 < (wrap64 ((wrap64 ((wrap64 (a1_0 - a0_1)) * (wrap64 (a0_3 - a0_1)))) + (wrap64 ((wrap64 (a1_1 - a0_2)) * (wrap64 (a0_4 - a0_2))))))) = true := decide_eq_true c61
                      clear c61
                      by_cases c62 : (wrap64 ((wrap64 ((wrap64 (a1_0 - a0_1)) * (wrap64 (a0_4 - a0_2)))) - (wrap64 ((wrap64 (a1_1 - a0_2)) * (wrap64 (a0_3 - a0_1)))))) ≤ (wrap64 ((wrap64 ((wrap64 (a1_0 - a0_1)) * (wrap64 (a0_3 - a0_1)))) + (wrap64 ((wrap64 (a1_1 - a0_2)) * (wrap64 (a0_4 - a0_2))))))
                      · rw [if_pos c62] at H
                        have c62b0 : decide ((wrap64 ((wrap64 ((wrap64 (a1_0 - a0_1)) * (wrap64 (a0_4 - a0_2)))) - (wrap64 ((wrap64 (a1_1 - a0_2)) * (wrap64 (a0_3 - a0_1)))))) ≤ (wrap64 ((wrap64 ((wrap64 (a1_0 - a0_1)) * (wrap64 (a0_3 - a0_1)))) + (wrap64 ((wrap64 (a1_1 - a0_2)) * (wrap64 (a0_4 - a0_2))))))) = true := decide_eq_true c62
                        clear c62
                        obtain rfl := Option.some.inj H
                        have hnb63 := NB434_433.out
                        have hnc63 := NB433_434.out
                        have hcz64_0 : wc.cell? ⟨gb434, 0, none⟩ = some (.int .i64 a1_0) := (blk_cell BK434.out 0).trans rfl
                        have hcz64_1 : wc.cell? ⟨gb434, 1, none⟩ = some (.int .i64 a1_1) := (blk_cell BK434.out 1).trans rfl
                        have hfz64_0 := blk_frozen BK434.out 0
                        have hfz64_1 := blk_frozen BK434.out 1
                        have hcz65_0 : wc.cell? ⟨gb433, 0, none⟩ = some (.int .i64 a0_0) := (blk_cell BK433.out 0).trans rfl
                        have hcz65_1 : wc.cell? ⟨gb433, 1, none⟩ = some (.int .i64 a0_1) := (blk_cell BK433.out 1).trans rfl
                        have hcz65_2 : wc.cell? ⟨gb433, 2, none⟩ = some (.int .i64 a0_2) := (blk_cell BK433.out 2).trans rfl
                        have hcz65_3 : wc.cell? ⟨gb433, 3, none⟩ = some (.int .i64 a0_3) := (blk_cell BK433.out 3).trans rfl
                        have hcz65_4 : wc.cell? ⟨gb433, 4, none⟩ = some (.int .i64 a0_4) := (blk_cell BK433.out 4).trans rfl
                        have hcz65_5 : wc.cell? ⟨gb433, 5, none⟩ = some (.int .i64 a0_5) := (blk_cell BK433.out 5).trans rfl
                        have hcz65_6 : wc.cell? ⟨gb433, 6, none⟩ = some (.int .i64 a0_6) := (blk_cell BK433.out 6).trans rfl
                        have hfz65_0 := blk_frozen BK433.out 0
                        have hfz65_1 := blk_frozen BK433.out 1
                        have hfz65_2 := blk_frozen BK433.out 2
                        have hfz65_3 := blk_frozen BK433.out 3
                        have hfz65_4 := blk_frozen BK433.out 4
                        have hfz65_5 := blk_frozen BK433.out 5
                        have hfz65_6 := blk_frozen BK433.out 6
                        go_wp2
                        go_ret
                        exact ⟨by first | rfl | (simp [errW_none, errW_some] <;> rfl) | (simp [*, errW_none, errW_some] <;> rfl), by repeat (first | (with_reducible first | exact HB.out | apply below_alloc | apply pw_below_drewN | apply below_drew1 | refine below_set ?_ GE433.out | refine below_set ?_ GE434.out) | exact HB.out)⟩
                      · rw [if_neg c62] at H
                        have c62b0 : decide ((wrap64 ((wrap64 ((wrap64 (a1_0 - a0_1)) * (wrap64 (a0_4 - a0_2)))) - (wrap64 ((wrap64 (a1_1 - a0_2)) * (wrap64 (a0_3 - a0_1)))))) ≤ (wrap64 ((wrap64 ((wrap64 (a1_0 - a0_1)) * (wrap64 (a0_3 - a0_1)))) + (wrap64 ((wrap64 (a1_1 - a0_2)) * (wrap64 (a0_4 - a0_2))))))) = false := decide_eq_false c62
                        clear c62
                        obtain rfl := Option.some.inj H
                        have hnb66 := NB434_433.out
                        have hnc66 := NB433_434.out
                        have hcz67_0 : wc.cell? ⟨gb434, 0, none⟩ = some (.int .i64 a1_0) := (blk_cell BK434.out 0).trans rfl
                        have hcz67_1 : wc.cell? ⟨gb434, 1, none⟩ = some (.int .i64 a1_1) := (blk_cell BK434.out 1).trans rfl
                        have hfz67_0 := blk_frozen BK434.out 0
                        have hfz67_1 := blk_frozen BK434.out 1
                        have hcz68_0 : wc.cell? ⟨gb433, 0, none⟩ = some (.int .i64 a0_0) := (blk_cell BK433.out 0).trans rfl
                        have hcz68_1 : wc.cell? ⟨gb433, 1, none⟩ = some (.int .i64 a0_1) := (blk_cell BK433.out 1).trans rfl
                        have hcz68_2 : wc.cell? ⟨gb433, 2, none⟩ = some (.int .i64 a0_2) := (blk_cell BK433.out 2).trans rfl
                        have hcz68_3 : wc.cell? ⟨gb433, 3, none⟩ = some (.int .i64 a0_3) := (blk_cell BK433.out 3).trans rfl
                        have hcz68_4 : wc.cell? ⟨gb433, 4, none⟩ = some (.int .i64 a0_4) := (blk_cell BK433.out 4).trans rfl
                        have hcz68_5 : wc.cell? ⟨gb433, 5, none⟩ = some (.int .i64 a0_5) := (blk_cell BK433.out 5).trans rfl
                        have hcz68_6 : wc.cell? ⟨gb433, 6, none⟩ = some (.int .i64 a0_6) := (blk_cell BK433.out 6).trans rfl
                        have hfz68_0 := blk_frozen BK433.out 0
                        have hfz68_1 := blk_frozen BK433.out 1
                        have hfz68_2 := blk_frozen BK433.out 2
                        have hfz68_3 := blk_frozen BK433.out 3
                        have hfz68_4 := blk_frozen BK433.out 4
                        have hfz68_5 := blk_frozen BK433.out 5
                        have hfz68_6 := blk_frozen BK433.out 6
                        go_wp2
                        go_ret
                        exact ⟨by first | rfl | (simp [errW_none, errW_some] <;> rfl) | (simp [*, errW_none, errW_some] <;> rfl), by repeat (first | (with_reducible first | exact HB.out | apply below_alloc | apply pw_below_drewN | apply below_drew1 | refine below_set ?_ GE433.out | refine below_set ?_ GE434.out) | exact HB.out)⟩
                    · rw [if_neg c61] at H
                      have c61b0 : decide (0 < (wrap64 ((wrap64 ((wrap64 (a1_0 - a0_1)) * (wrap64 (a0_3 - a0_1)))) + (wrap64 ((wrap64 (a1_1 - a0_2)) * (wrap64 (a0_4 - a0_2))))))) = false := decide_eq_false c61
                      clear c61
                      obtain rfl := Option.some.inj H
                      have hnb69 := NB434_433.out
                      have hnc69 := NB433_434.out
                      have hcz70_0 : wc.cell? ⟨gb434, 0, none⟩ = some (.int .i64 a1_0) := (blk_cell BK434.out 0).trans rfl
                      have hcz70_1 : wc.cell? ⟨gb434, 1, none⟩ = some (.int .i64 a1_1) := (blk_cell BK434.out 1).trans rfl
                      have hfz70_0 := blk_frozen BK434.out 0
                      have hfz70_1 := blk_frozen BK434.out 1
                      have hcz71_0 : wc.cell? ⟨gb433, 0, none⟩ = some (.int .i64 a0_0) := (blk_cell BK433.out 0).trans rfl
                      have hcz71_1 : wc.cell? ⟨gb433, 1, none⟩ = some (.int .i64 a0_1) := (blk_cell BK433.out 1).trans rfl
                      have hcz71_2 : wc.cell? ⟨gb433, 2, none⟩ = some (.int .i64 a0_2) := (blk_cell BK433.out 2).trans rfl
                      have hcz71_3 : wc.cell? ⟨gb433, 3, none⟩ = some (.int .i64 a0_3) := (blk_cell BK433.out 3).trans rfl
                      have hcz71_4 : wc.cell? ⟨gb433, 4, none⟩ = some (.int .i64 a0_4) := (blk_cell BK433.out 4).trans rfl
                      have hcz71_5 : wc.cell? ⟨gb433, 5, none⟩ = some (.int .i64 a0_5) := (blk_cell BK433.out 5).trans rfl
                      have hcz71_6 : wc.cell? ⟨gb433, 6, none⟩ = some (.int .i64 a0_6) := (blk_cell BK433.out 6).trans rfl
                      have hfz71_0 := blk_frozen BK433.out 0
                      have hfz71_1 := blk_frozen BK433.out 1
                      have hfz71_2 := blk_frozen BK433.out 2
                      have hfz71_3 := blk_frozen BK433.out 3
                      have hfz71_4 := blk_frozen BK433.out 4
                      have hfz71_5 := blk_frozen BK433.out 5
                      have hfz71_6 := blk_frozen BK433.out 6
                      go_wp2
                      go_ret
                      exact ⟨by first | rfl | (simp [errW_none, errW_some] <;> rfl) | (simp [*, errW_none, errW_some] <;> rfl), by repeat (first | (with_reducible first | exact HB.out | apply below_alloc | apply pw_below_drewN | apply below_drew1 | refine below_set ?_ GE433.out | refine below_set ?_ GE434.out) | exact HB.out)⟩
                · rw [if_neg c56] at H
                  have c56b0 : decide ((wrap64 ((wrap64 ((wrap64 (a1_0 - a0_1)) * (wrap64 (a1_0 - a0_1)))) + (wrap64 ((wrap64 (a1_1 - a0_2)) * (wrap64 (a1_1 - a0_2)))))) ≤ (wrap64 (a0_5 * a0_5))) = false := decide_eq_false c56
                  clear c56
                  obtain rfl := Option.some.inj H
                  have hnb72 := NB434_433.out
                  have hnc72 := NB433_434.out
                  have hcz73_0 : wc.cell? ⟨gb434, 0, none⟩ = some (.int .i64 a1_0) := (blk_cell BK434.out 0).trans rfl
                  have hcz73_1 : wc.cell? ⟨gb434, 1, none⟩ = some (.int .i64 a1_1) := (blk_cell BK434.out 1).trans rfl
                  have hfz73_0 := blk_frozen BK434.out 0
                  have hfz73_1 := blk_frozen BK434.out 1
                  have hcz74_0 : wc.cell? ⟨gb433, 0, none⟩ = some (.int .i64 a0_0) := (blk_cell BK433.out 0).trans rfl
                  have hcz74_1 : wc.cell? ⟨gb433, 1, none⟩ = some (.int .i64 a0_1) := (blk_cell BK433.out 1).trans rfl
                  have hcz74_2 : wc.cell? ⟨gb433, 2, none⟩ = some (.int .i64 a0_2) := (blk_cell BK433.out 2).trans rfl
                  have hcz74_3 : wc.cell? ⟨gb433, 3, none⟩ = some (.int .i64 a0_3) := (blk_cell BK433.out 3).trans rfl
                  have hcz74_4 : wc.cell? ⟨gb433, 4, none⟩ = some (.int .i64 a0_4) := (blk_cell BK433.out 4).trans rfl
                  have hcz74_5 : wc.cell? ⟨gb433, 5, none⟩ = some (.int .i64 a0_5) := (blk_cell BK433.out 5).trans rfl
                  have hcz74_6 : wc.cell? ⟨gb433, 6, none⟩ = some (.int .i64 a0_6) := (blk_cell BK433.out 6).trans rfl
                  have hfz74_0 := blk_frozen BK433.out 0
                  have hfz74_1 := blk_frozen BK433.out 1
                  have hfz74_2 := blk_frozen BK433.out 2
                  have hfz74_3 := blk_frozen BK433.out 3
                  have hfz74_4 := blk_frozen BK433.out 4
                  have hfz74_5 := blk_frozen BK433.out 5
                  have hfz74_6 := blk_frozen BK433.out 6
                  go_wp2
                  go_ret
                  exact ⟨by first | rfl | (simp [errW_none, errW_some] <;> rfl) | (simp [*, errW_none, errW_some] <;> rfl), by repeat (first | (with_reducible first | exact HB.out | apply below_alloc | apply pw_below_drewN | apply below_drew1 | refine below_set ?_ GE433.out | refine below_set ?_ GE434.out) | exact HB.out)⟩
              · rw [if_neg c55] at H
                have c55b0 : (a0_0 == 4) = false := beq_eq_false_iff_ne.mpr c55
                have c55b1 : (a0_0 != 4) = true := bne_iff_ne.mpr c55
                by_cases c75 : (wrap64 ((wrap64 ((wrap64 (a0_3 - a0_1)) * (wrap64 (a0_3 - a0_1)))) + (wrap64 ((wrap64 (a0_4 - a0_2)) * (wrap64 (a0_4 - a0_2)))))) = 0
                · rw [if_pos c75] at H
                  have c75b0 : ((wrap64 ((wrap64 ((wrap64 (a0_3 - a0_1)) * (wrap64 (a0_3 - a0_1)))) + (wrap64 ((wrap64 (a0_4 - a0_2)) * (wrap64 (a0_4 - a0_2)))))) == 0) = true := beq_iff_eq.mpr c75
                  have c75b1 : ((wrap64 ((wrap64 ((wrap64 (a0_3 - a0_1)) * (wrap64 (a0_3 - a0_1)))) + (wrap64 ((wrap64 (a0_4 - a0_2)) * (wrap64 (a0_4 - a0_2)))))) != 0) = false := bne_eq_false_iff_eq.mpr c75
                  clear c75
                  obtain rfl := Option.some.inj H
                  have hnb76 := NB434_433.out
                  have hnc76 := NB433_434.out
                  have hcz77_0 : wc.cell? ⟨gb434, 0, none⟩ = some (.int .i64 a1_0) := (blk_cell BK434.out 0).trans rfl
                  have hcz77_1 : wc.cell? ⟨gb434, 1, none⟩ = some (.int .i64 a1_1) := (blk_cell BK434.out 1).trans rfl
                  have hfz77_0 := blk_frozen BK434.out 0
                  have hfz77_1 := blk_frozen BK434.out 1
                  have hcz78_0 : wc.cell? ⟨gb433, 0, none⟩ = some (.int .i64 a0_0) := (blk_cell BK433.out 0).trans rfl
                  have hcz78_1 : wc.cell? ⟨gb433, 1, none⟩ = some (.int .i64 a0_1) := (blk_cell BK433.out 1).trans rfl
                  have hcz78_2 : wc.cell? ⟨gb433, 2, none⟩ = some (.int .i64 a0_2) := (blk_cell BK433.out 2).trans rfl
                  have hcz78_3 : wc.cell? ⟨gb433, 3, none⟩ = some (.int .i64 a0_3) := (blk_cell BK433.out 3).trans rfl
                  have hcz78_4 : wc.cell? ⟨gb433, 4, none⟩ = some (.int .i64 a0_4) := (blk_cell BK433.out 4).trans rfl
                  have hcz78_5 : wc.cell? ⟨gb433, 5, none⟩ = some (.int .i64 a0_5) := (blk_cell BK433.out 5).trans rfl
                  have hcz78_6 : wc.cell? ⟨gb433, 6, none⟩ = some (.int .i64 a0_6) := (blk_cell BK433.out 6).trans rfl
                  have hfz78_0 := blk_frozen BK433.out 0
                  have hfz78_1 := blk_frozen BK433.out 1
                  have hfz78_2 := blk_frozen BK433.out 2
                  have hfz78_3 := blk_frozen BK433.out 3
                  have hfz78_4 := blk_frozen BK433.out 4
                  have hfz78_5 := blk_frozen BK433.out 5
                  have hfz78_6 := blk_frozen BK433.out 6
                  go_wp2
                  go_ret
                  exact ⟨by first | rfl | (simp [errW_none, errW_some] <;> rfl) | (simp [*, errW_none, errW_some] <;> rfl), by repeat (first | (with_reducible first | exact HB.out | apply below_alloc | apply pw_below_drewN | apply below_drew1 | refine below_set ?_ GE433.out | refine below_set ?_ GE434.out) | exact HB.out)⟩
                · rw [if_neg c75] at H
                  have c75b0 : ((wrap64 ((wrap64 ((wrap64 (a0_3 - a0_1)) * (wrap64 (a0_3 - a0_1)))) + (wrap64 ((wrap64 (a0_4 - a0_2)) * (wrap64 (a0_4 - a0_2)))))) == 0) = false := beq_eq_false_iff_ne.mpr c75
                  have c75b1 : ((wrap64 ((wrap64 ((wrap64 (a0_3 - a0_1)) * (wrap64 (a0_3 - a0_1)))) + (wrap64 ((wrap64 (a0_4 - a0_2)) * (wrap64 (a0_4 - a0_2)))))) != 0) = true := bne_iff_ne.mpr c75
                  by_cases c79 : (wrap64 ((wrap64 ((wrap64 (a1_0 - a0_1)) * (wrap64 (a0_3 - a0_1)))) + (wrap64 ((wrap64 (a1_1 - a0_2)) * (wrap64 (a0_4 - a0_2)))))) ≥ 0
                  · rw [if_pos c79] at H
                    have c79b0 : decide (0 ≤ (wrap64 ((wrap64 ((wrap64 (a1_0 - a0_1)) * (wrap64 (a0_3 - a0_1)))) + (wrap64 ((wrap64 (a1_1 - a0_2)) * (wrap64 (a0_4 - a0_2))))))) = true := decide_eq_true c79
                    clear c79
                    by_cases c80 : (wrap64 ((wrap64 ((wrap64 (a1_0 - a0_1)) * (wrap64 (a0_3 - a0_1)))) + (wrap64 ((wrap64 (a1_1 - a0_2)) * (wrap64 (a0_4 - a0_2)))))) ≤ (wrap64 ((wrap64 ((wrap64 (a0_3 - a0_1)) * (wrap64 (a0_3 - a0_1)))) + (wrap64 ((wrap64 (a0_4 - a0_2)) * (wrap64 (a0_4 - a0_2))))))
                    · rw [if_pos c80] at H
                      have c80b0 : decide ((wrap64 ((wrap64 ((wrap64 (a1_0 - a0_1)) * (wrap64 (a0_3 - a0_1)))) + (wrap64 ((wrap64 (a1_1 - a0_2)) * (wrap64 (a0_4 - a0_2)))))) ≤ (wrap64 ((wrap64 ((wrap64 (a0_3 - a0_1)) * (wrap64 (a0_3 - a0_1)))) + (wrap64 ((wrap64 (a0_4 - a0_2)) * (wrap64 (a0_4 - a0_2))))))) = true := decide_eq_true c80
                      clear c80
                      obtain rfl := Option.some.inj H
                      have hnb81 := NB434_433.out
                      have hnc81 := NB433_434.out
                      have hcz82_0 : wc.cell? ⟨gb434, 0, none⟩ = some (.int .i64 a1_0) := (blk_cell BK434.out 0).trans rfl
                      have hcz82_1 : wc.cell? ⟨gb434, 1, none⟩ = some (.int .i64 a1_1) := (blk_cell BK434.out 1).trans rfl
                      have hfz82_0 := blk_frozen BK434.out 0
                      have hfz82_1 := blk_frozen BK434.out 1
                      have hcz83_0 : wc.cell? ⟨gb433, 0, none⟩ = some (.int .i64 a0_0) := (blk_cell BK433.out 0).trans rfl
                      have hcz83_1 : wc.cell? ⟨gb433, 1, none⟩ = some (.int .i64 a0_1) := (blk_cell BK433.out 1).trans rfl
                      have hcz83_2 : wc.cell? ⟨gb433, 2, none⟩ = some (.int .i64 a0_2) := (blk_cell BK433.out 2).trans rfl
                      have hcz83_3 : wc.cell? ⟨gb433, 3, none⟩ = some (.int .i64 a0_3) := (blk_cell BK433.out 3).trans rfl
                      have hcz83_4 : wc.cell? ⟨gb433, 4, none⟩ = some (.int .i64 a0_4) := (blk_cell BK433.out 4).trans rfl
                      have hcz83_5 : wc.cell? ⟨gb433, 5, none⟩ = some (.int .i64 a0_5) := (blk_cell BK433.out 5).trans rfl
                      have hcz83_6 : wc.cell? ⟨gb433, 6, none⟩ = some (.int .i64 a0_6) := (blk_cell BK433.out 6).trans rfl
                      have hfz83_0 := blk_frozen BK433.out 0
                      have hfz83_1 := blk_frozen BK433.out 1
                      have hfz83_2 := blk_frozen BK433.out 2
                      have hfz83_3 := blk_frozen BK433.out 3
                      have hfz83_4 := blk_frozen BK433.out 4
                      have hfz83_5 := blk_frozen BK433.out 5
                      have hfz83_6 := blk_frozen BK433.out 6
                      go_wp2
                      go_ret
                      exact ⟨by first | rfl | (simp [errW_none, errW_some] <;> rfl) | (simp [*, errW_none, errW_some] <;> rfl), by repeat (first | (with_reducible first | exact HB.out | apply below_alloc | apply pw_below_drewN | apply below_drew1 | refine below_set ?_ GE433.out | refine below_set ?_ GE434.out) | exact HB.out)⟩
                    · rw [if_neg c80] at H
                      have c80b0 : decide ((wrap64 ((wrap64 ((wrap64 (a1_0 - a0_1)) * (wrap64 (a0_3 - a0_1)))) + (wrap64 ((wrap64 (a1_1 - a0_2)) * (wrap64 (a0_4 - a0_2)))))) ≤ (wrap64 ((wrap64 ((wrap64 (a0_3 - a0_1)) * (wrap64 (a0_3 - a0_1)))) + (wrap64 ((wrap64 (a0_4 - a0_2)) * (wrap64 (a0_4 - a0_2))))))) = false := decide_eq_false c80
                      clear c80
                      obtain rfl := Option.some.inj H
                      have hnb84 := NB434_433.out
                      have hnc84 := NB433_434.out
                      have hcz85_0 : wc.cell? ⟨gb434, 0, none⟩ = some (.int .i64 a1_0) := (blk_cell BK434.out 0).trans rfl
                      have hcz85_1 : wc.cell? ⟨gb434, 1, none⟩ = some (.int .i64 a1_1) := (blk_cell BK434.out 1).trans rfl
                      have hfz85_0 := blk_frozen BK434.out 0
                      have hfz85_1 := blk_frozen BK434.out 1
                      have hcz86_0 : wc.cell? ⟨gb433, 0, none⟩ = some (.int .i64 a0_0) := (blk_cell BK433.out 0).trans rfl
                      have hcz86_1 : wc.cell? ⟨gb433, 1, none⟩ = some (.int .i64 a0_1) := (blk_cell BK433.out 1).trans rfl
                      have hcz86_2 : wc.cell? ⟨gb433, 2, none⟩ = some (.int .i64 a0_2) := (blk_cell BK433.out 2).trans rfl
                      have hcz86_3 : wc.cell? ⟨gb433, 3, none⟩ = some (.int .i64 a0_3) := (blk_cell BK433.out 3).trans rfl
                      have hcz86_4 : wc.cell? ⟨gb433, 4, none⟩ = some (.int .i64 a0_4) := (blk_cell BK433.out 4).trans rfl
                      have hcz86_5 : wc.cell? ⟨gb433, 5, none⟩ = some (.int .i64 a0_5) := (blk_cell BK433.out 5).trans rfl
                      have hcz86_6 : wc.cell? ⟨gb433, 6, none⟩ = some (.int .i64 a0_6) := (blk_cell BK433.out 6).trans rfl
                      have hfz86_0 := blk_frozen BK433.out 0
                      have hfz86_1 := blk_frozen BK433.out 1
                      have hfz86_2 := blk_frozen BK433.out 2
                      have hfz86_3 := blk_frozen BK433.out 3
                      have hfz86_4 := blk_frozen BK433.out 4
                      have hfz86_5 := blk_frozen BK433.out 5
                      have hfz86_6 := blk_frozen BK433.out 6
                      go_wp2
                      go_ret
                      exact ⟨by first | rfl | (simp [errW_none, errW_some] <;> rfl) | (simp [*, errW_none, errW_some] <;> rfl), by repeat (first | (with_reducible first | exact HB.out | apply below_alloc | apply pw_below_drewN | apply below_drew1 | refine below_set ?_ GE433.out | refine below_set ?_ GE434.out) | exact HB.out)⟩
                  · rw [if_neg c79] at H
                    have c79b0 : decide (0 ≤ (wrap64 ((wrap64 ((wrap64 (a1_0 - a0_1)) * (wrap64 (a0_3 - a0_1)))) + (wrap64 ((wrap64 (a1_1 - a0_2)) * (wrap64 (a0_4 - a0_2))))))) = false := decide_eq_false c79
                    clear c79
                    obtain rfl := Option.some.inj H
                    have hnb87 := NB434_433.out
                    have hnc87 := NB433_434.out
                    have hcz88_0 : wc.cell? ⟨gb434, 0, none⟩ = some (.int .i64 a1_0) := (blk_cell BK434.out 0).trans rfl
                    have hcz88_1 : wc.cell? ⟨gb434, 1, none⟩ = some (.int .i64 a1_1) := (blk_cell BK434.out 1).trans rfl
                    have hfz88_0 := blk_frozen BK434.out 0
                    have hfz88_1 := blk_frozen BK434.out 1
                    have hcz89_0 : wc.cell? ⟨gb433, 0, none⟩ = some (.int .i64 a0_0) := (blk_cell BK433.out 0).trans rfl
                    have hcz89_1 : wc.cell? ⟨gb433, 1, none⟩ = some (.int .i64 a0_1) := (blk_cell BK433.out 1).trans rfl
                    have hcz89_2 : wc.cell? ⟨gb433, 2, none⟩ = some (.int .i64 a0_2) := (blk_cell BK433.out 2).trans rfl
                    have hcz89_3 : wc.cell? ⟨gb433, 3, none⟩ = some (.int .i64 a0_3) := (blk_cell BK433.out 3).trans rfl
                    have hcz89_4 : wc.cell? ⟨gb433, 4, none⟩ = some (.int .i64 a0_4) := (blk_cell BK433.out 4).trans rfl
                    have hcz89_5 : wc.cell? ⟨gb433, 5, none⟩ = some (.int .i64 a0_5) := (blk_cell BK433.out 5).trans rfl
                    have hcz89_6 : wc.cell? ⟨gb433, 6, none⟩ = some (.int .i64 a0_6) := (blk_cell BK433.out 6).trans rfl
                    have hfz89_0 := blk_frozen BK433.out 0
                    have hfz89_1 := blk_frozen BK433.out 1
                    have hfz89_2 := blk_frozen BK433.out 2
                    have hfz89_3 := blk_frozen BK433.out 3
                    have hfz89_4 := blk_frozen BK433.out 4
                    have hfz89_5 := blk_frozen BK433.out 5
                    have hfz89_6 := blk_frozen BK433.out 6
                    go_wp2
                    go_ret
                    exact ⟨by first | rfl | (simp [errW_none, errW_some] <;> rfl) | (simp [*, errW_none, errW_some] <;> rfl), by repeat (first | (with_reducible first | exact HB.out | apply below_alloc | apply pw_below_drewN | apply below_drew1 | refine below_set ?_ GE433.out | refine below_set ?_ GE434.out) | exact HB.out)⟩

end Go.Proofs.Ytofodbnnminmkaa.XAR
