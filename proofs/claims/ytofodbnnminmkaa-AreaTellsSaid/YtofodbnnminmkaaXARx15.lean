-- Written by xprint.py (a program of this session) for this claim
import Derived.Test.YtofodbnnminmkaaXARx0
import Derived.Test.YtofodbnnminmkaaXARx13
import Derived.Test.YtofodbnnminmkaaXARx14
namespace Go.Proofs.Ytofodbnnminmkaa.XAR
open Go.Proofs.YtofodbnnminmkaaV Go.Proofs.YtofodbnnminmkaaS
open Go.RowKit Go.Proofs.YtofodbnnminmkaaW.PrintWords Go.Proofs.YtofodbnnminmkaaW.PrintLast Go.Proofs.YtofodbnnminmkaaW.PrintMore
attribute [local go_sem] max2_int min2_int max_two min_two max_three min_three max_four min_four   -- for this text's walks alone
set_option linter.unusedVariables false
set_option linter.unusedSimpArgs false

/-! ### barrowref32_Tiles: function 15 -/
mutual
def barrowref32_Tiles.l0 : Nat → Bool → List (S26) → Int → Int → Int → List Bool → Int → Int → Int → Int → Int → Int → Int → Option ((List (S26)))
  | 0, _, _, _, _, _, _, _, _, _, _, _, _, _ => none
  | k + 1, x5, x6, x7, x449000, x449001, x449002, x450000, x450001, x450002, x450003, x450004, x450005, x450006 => if x7 < (x449002.length : Int) then (barrowref32_Tiles.j1 k x5 x6 x7 x5 x449000 x449001 x449002 x450000 x450001 x450002 x450003 x450004 x450005 x450006) else (barrowref32_Tiles.j1 k x5 x6 x7 false x449000 x449001 x449002 x450000 x450001 x450002 x450003 x450004 x450005 x450006)
def barrowref32_Tiles.j1 : Nat → Bool → List (S26) → Int → Bool → Int → Int → List Bool → Int → Int → Int → Int → Int → Int → Int → Option ((List (S26)))
  | 0, _, _, _, _, _, _, _, _, _, _, _, _, _, _ => none
  | k + 1, x5, x6, x7, x19, x449000, x449001, x449002, x450000, x450001, x450002, x450003, x450004, x450005, x450006 => if x19 = true then (if x449000 = 0 then (none) else ((barrowref32_In.f k x450000 x450001 x450002 x450003 x450004 x450005 x450006 (Int.tmod x7 x449000) (wrap64 (Int.tdiv x7 x449000))).bind fun t452 => (if t452 = true then (if 0 ≤ x7 then (if x7 < (x449002.length : Int) then (if rdOf false x449002 x7 = true then (barrowref32_Tiles.l0 k x5 x6 (wrap64 (x7 + 1)) x449000 x449001 x449002 x450000 x450001 x450002 x450003 x450004 x450005 x450006) else (if x6.length < 8796093022208 then (barrowref32_Tiles.l0 k x5 (x6 ++ [(⟨Int.tmod x7 x449000, wrap64 (Int.tdiv x7 x449000)⟩ : S26)]) (wrap64 (x7 + 1)) x449000 x449001 x449002 x450000 x450001 x450002 x450003 x450004 x450005 x450006) else (none))) else (none)) else (none)) else (barrowref32_Tiles.l0 k x5 x6 (wrap64 (x7 + 1)) x449000 x449001 x449002 x450000 x450001 x450002 x450003 x450004 x450005 x450006)))) else (some x6)
end
def barrowref32_Tiles.f (k : Nat) (a0_0 : Int) (a0_1 : Int) (l0_2 : List Bool) (a1_0 : Int) (a1_1 : Int) (a1_2 : Int) (a1_3 : Int) (a1_4 : Int) (a1_5 : Int) (a1_6 : Int) : Option ((List (S26))) := (barrowref06_Right.f a0_0 a0_1 l0_2).bind fun t450 => (barrowref32_Tiles.l0 k t450 ([] : List (S26)) 0 a0_0 a0_1 l0_2 a1_0 a1_1 a1_2 a1_3 a1_4 a1_5 a1_6)
theorem barrowref32_Tiles.mono_l : ∀ k, (∀ y0 y1 y2 y3 y4 y5 y6 y7 y8 y9 y10 y11 y12, LeO (barrowref32_Tiles.l0 k y0 y1 y2 y3 y4 y5 y6 y7 y8 y9 y10 y11 y12) (barrowref32_Tiles.l0 (k + 1) y0 y1 y2 y3 y4 y5 y6 y7 y8 y9 y10 y11 y12)) ∧ (∀ y0 y1 y2 y3 y4 y5 y6 y7 y8 y9 y10 y11 y12 y13, LeO (barrowref32_Tiles.j1 k y0 y1 y2 y3 y4 y5 y6 y7 y8 y9 y10 y11 y12 y13) (barrowref32_Tiles.j1 (k + 1) y0 y1 y2 y3 y4 y5 y6 y7 y8 y9 y10 y11 y12 y13))
  | 0 => ⟨fun _ _ _ _ _ _ _ _ _ _ _ _ _ r h => by simp [barrowref32_Tiles.l0] at h, fun _ _ _ _ _ _ _ _ _ _ _ _ _ _ r h => by simp [barrowref32_Tiles.j1] at h⟩
  | k + 1 => by
    obtain ⟨ih0, ih1⟩ := barrowref32_Tiles.mono_l k
    refine ⟨?_, ?_⟩
    · intro y0 y1 y2 y3 y4 y5 y6 y7 y8 y9 y10 y11 y12
      unfold barrowref32_Tiles.l0
      repeat' first
      | (with_reducible exact ih0 _ _ _ _ _ _ _ _ _ _ _ _ _)
      | (with_reducible exact ih1 _ _ _ _ _ _ _ _ _ _ _ _ _ _)
      | (with_reducible exact barrowref32_In.mono _ _ _ _ _ _ _ _ _ _)
      | (with_reducible exact LeO.refl _)
      | (with_reducible exact LeO.none _)
      | (with_reducible refine LeO.ite ?_ ?_)
      | (with_reducible refine LeO.bind ?_ (fun _ => ?_))
      | exact ih0 _ _ _ _ _ _ _ _ _ _ _ _ _
      | exact ih1 _ _ _ _ _ _ _ _ _ _ _ _ _ _
      | exact barrowref32_In.mono _ _ _ _ _ _ _ _ _ _
      | exact LeO.none _
      | refine LeO.ite ?_ ?_
      | refine LeO.bind ?_ (fun _ => ?_)
    · intro y0 y1 y2 y3 y4 y5 y6 y7 y8 y9 y10 y11 y12 y13
      unfold barrowref32_Tiles.j1
      repeat' first
      | (with_reducible exact ih0 _ _ _ _ _ _ _ _ _ _ _ _ _)
      | (with_reducible exact ih1 _ _ _ _ _ _ _ _ _ _ _ _ _ _)
      | (with_reducible exact barrowref32_In.mono _ _ _ _ _ _ _ _ _ _)
      | (with_reducible exact LeO.refl _)
      | (with_reducible exact LeO.none _)
      | (with_reducible refine LeO.ite ?_ ?_)
      | (with_reducible refine LeO.bind ?_ (fun _ => ?_))
      | exact ih0 _ _ _ _ _ _ _ _ _ _ _ _ _
      | exact ih1 _ _ _ _ _ _ _ _ _ _ _ _ _ _
      | exact barrowref32_In.mono _ _ _ _ _ _ _ _ _ _
      | exact LeO.none _
      | refine LeO.ite ?_ ?_
      | refine LeO.bind ?_ (fun _ => ?_)
theorem barrowref32_Tiles.mono : ∀ a0 a1 a2 a3 a4 a5 a6 a7 a8 a9 k, LeO (barrowref32_Tiles.f k a0 a1 a2 a3 a4 a5 a6 a7 a8 a9) (barrowref32_Tiles.f (k + 1) a0 a1 a2 a3 a4 a5 a6 a7 a8 a9) := by
  intro a0 a1 a2 a3 a4 a5 a6 a7 a8 a9 k
  obtain ⟨ih0, ih1⟩ := barrowref32_Tiles.mono_l k
  unfold barrowref32_Tiles.f
  repeat' first
      | (with_reducible exact ih0 _ _ _ _ _ _ _ _ _ _ _ _ _)
      | (with_reducible exact ih1 _ _ _ _ _ _ _ _ _ _ _ _ _ _)
      | (with_reducible exact barrowref32_In.mono _ _ _ _ _ _ _ _ _ _)
      | (with_reducible exact LeO.refl _)
      | (with_reducible exact LeO.none _)
      | (with_reducible refine LeO.ite ?_ ?_)
      | (with_reducible refine LeO.bind ?_ (fun _ => ?_))
      | exact ih0 _ _ _ _ _ _ _ _ _ _ _ _ _
      | exact ih1 _ _ _ _ _ _ _ _ _ _ _ _ _ _
      | exact barrowref32_In.mono _ _ _ _ _ _ _ _ _ _
      | exact LeO.none _
      | refine LeO.ite ?_ ?_
      | refine LeO.bind ?_ (fun _ => ?_)
def barrowref32_Tiles.T6 : Bool × List (List Nat × List Nat) := (true, [([], []), ([], []), ([1], [1]), ([0, 2], [0, 2]), ([], []), ([], []), ([5], [5]), ([4, 6], [4, 6]), ([3, 7], [3, 7]), ([], []), ([9, 8, 0, 1, 2, 3, 4, 5, 6, 7, 8, 9], [8, 9])])
def barrowref32_Tiles.B6 : List Nat := [0, 0, 2, 7, 0, 0, 32, 112, 255, 0, 1023]
theorem barrowref32_Tiles.tab6 : rtab .any (opsOf Try.f15 6) = barrowref32_Tiles.T6 := by kernel_rfl
theorem barrowref32_Tiles.bits6 : waitsOk barrowref32_Tiles.T6.2 barrowref32_Tiles.B6 = true := by kernel_rfl
set_option maxHeartbeats 8000000 in
set_option maxRecDepth 100000 in
theorem barrowref32_Tiles.calls (k : Nat) (a0_0 : Int) (a0_1 : Int) (A0_2 : Option Addr) (c0_2 : Nat) (l0_2 : List Bool) (a1_0 : Int) (a1_1 : Int) (a1_2 : Int) (a1_3 : Int) (a1_4 : Int) (a1_5 : Int) (a1_6 : Int) (r : List (S26)) (w : World) (hr0_2 : Kd.C Kd.bool w A0_2 l0_2.length l0_2) (hc0_2 : l0_2.length ≤ c0_2) (h : barrowref32_Tiles.f k a0_0 a0_1 l0_2 a1_0 a1_1 a1_2 a1_3 a1_4 a1_5 a1_6 = some r) :
    Calls Try.prog 15 #[.agg #[.int .i64 a0_0, .int .i64 a0_1, .slice A0_2 l0_2.length c0_2], .agg #[.int .i64 a1_0, .int .i64 a1_1, .int .i64 a1_2, .int .i64 a1_3, .int .i64 a1_4, .int .i64 a1_5, .int .i64 a1_6]] w fun e w' => ∃ v0_ : Value, e = .returned (v0_) ∧ Kd.R k26 26 w' w.heap.size (fun _ => True) v0_ r ∧ Below w.heap.size w w' := by
  have hu24 := Try.underlying24
  have hu28 := Try.underlying28
  have hu26 := Try.underlying26
  have HR0_2 := Aside0.mk hr0_2
  have HC0_2 := Aside0.mk hc0_2
  clear hr0_2 hc0_2
  have HB := Aside0.mk (Below.refl w.heap.size w)
  have H : ((barrowref06_Right.f a0_0 a0_1 l0_2).bind fun t450 => (barrowref32_Tiles.l0 k t450 ([] : List (S26)) 0 a0_0 a0_1 l0_2 a1_0 a1_1 a1_2 a1_3 a1_4 a1_5 a1_6)) = some r := h
  clear h
  replace H := Option.bind_eq_some_iff.mp H
  obtain ⟨t450, A30, H⟩ := H
  replace H : (barrowref32_Tiles.l0 k t450 ([] : List (S26)) 0 a0_0 a0_1 l0_2 a1_0 a1_1 a1_2 a1_3 a1_4 a1_5 a1_6) = some r := H
  have A3 := Aside0.mk A30
  clear A30
  have H' := Aside0.mk H
  clear H
  go_enter Try.func15, Try.ntmps15
  go_wp2_with (first | ((with_reducible refine gate_dst (N := 2) rfl ?_); refine box_event ?hg (N := 2) ?hd (cs := #[.int .i64 a0_0, .int .i64 a0_1, .slice A0_2 l0_2.length c0_2]) (t := 24) ?hr ?_; (case hd => rfl); (case hg => rfl); (case hr => first | (go_simp; done) | (go_simp; rfl)); intro gb448 hg w4 hbox hb; have n0_ := Aside0.mk (below_step (by repeat (first | (with_reducible first | exact HB.out | apply below_alloc | apply pw_below_drewN | apply below_drew1) | exact HB.out)) hb); have n1_ := Aside0.mk (hbox); have n2_ := Aside0.mk ((by rw [hg]; exact (below_size (by repeat (first | (with_reducible first | exact HB.out | apply below_alloc | apply pw_below_drewN | apply below_drew1) | exact HB.out))) : w.heap.size ≤ gb448)); have n3_ := Aside0.mk ((by rw [hg]; exact (below_size (by repeat (first | (with_reducible first | exact HB.out | apply below_alloc | apply pw_below_drewN | apply below_drew1) | exact HB.out))) : w.heap.size ≤ gb448)); clear HB; have HB := n0_; have BK448 := n1_; have GW448 := n2_; have GE448 := n3_; clear n0_ n1_ n2_ n3_; clear hb hbox hg) | ((with_reducible refine gate_dst (N := 3) rfl ?_); refine box_event ?hg (N := 3) ?hd (cs := #[.int .i64 a1_0, .int .i64 a1_1, .int .i64 a1_2, .int .i64 a1_3, .int .i64 a1_4, .int .i64 a1_5, .int .i64 a1_6]) (t := 28) ?hr ?_; (case hd => rfl); (case hg => rfl); (case hr => first | (go_simp; done) | (go_simp; rfl)); intro gb449 hg w5 hbox hb; have n0_ := Aside0.mk (blk_below (g := gb448) (o := .cells #[.int .i64 a0_0, .int .i64 a0_1, .slice A0_2 l0_2.length c0_2] 24 (0, 0)) (by (with_reducible repeat (first | refine blk_drewN ?_ _ | refine blk_drew ?_ | refine blk_alloc ?_ _)); exact BK448.out) hb); have n1_ := Aside0.mk (below_step (by repeat (first | (with_reducible first | exact HB.out | apply below_alloc | apply pw_below_drewN | apply below_drew1 | refine below_set ?_ GE448.out) | exact HB.out)) hb); have n2_ := Aside0.mk (hbox); have n3_ := Aside0.mk ((by rw [hg]; exact (below_size (by repeat (first | (with_reducible first | exact HB.out | apply below_alloc | apply pw_below_drewN | apply below_drew1 | refine below_set ?_ GE448.out) | exact HB.out))) : w.heap.size ≤ gb449)); have n4_ := Aside0.mk ((by rw [hg]; exact (below_size (by repeat (first | (with_reducible first | exact HB.out | apply below_alloc | apply pw_below_drewN | apply below_drew1 | refine below_set ?_ GE448.out) | exact HB.out))) : w.heap.size ≤ gb449)); have n5_ := Aside0.mk ((by rw [hg]; exact Nat.ne_of_lt (blk_lt (g := gb448) (o := .cells #[.int .i64 a0_0, .int .i64 a0_1, .slice A0_2 l0_2.length c0_2] 24 (0, 0)) (by (with_reducible repeat (first | refine blk_drewN ?_ _ | refine blk_drew ?_ | refine blk_alloc ?_ _)); exact BK448.out)) : gb448 ≠ gb449)); have n6_ := Aside0.mk ((by rw [hg]; exact Nat.ne_of_gt (blk_lt (g := gb448) (o := .cells #[.int .i64 a0_0, .int .i64 a0_1, .slice A0_2 l0_2.length c0_2] 24 (0, 0)) (by (with_reducible repeat (first | refine blk_drewN ?_ _ | refine blk_drew ?_ | refine blk_alloc ?_ _)); exact BK448.out)) : gb449 ≠ gb448)); clear BK448; clear HB; have BK448 := n0_; have HB := n1_; have BK449 := n2_; have GW449 := n3_; have GE449 := n4_; have NB448_449 := n5_; have NB449_448 := n6_; clear n0_ n1_ n2_ n3_ n4_ n5_ n6_; clear hb hbox hg; have hnb6 := NB448_449.out; have hnc6 := NB449_448.out; have hcz7_0 : w5.cell? ⟨gb448, 0, none⟩ = some (.int .i64 a0_0) := (blk_cell BK448.out 0).trans rfl; have hcz7_1 : w5.cell? ⟨gb448, 1, none⟩ = some (.int .i64 a0_1) := (blk_cell BK448.out 1).trans rfl; have hcz7_2 : w5.cell? ⟨gb448, 2, none⟩ = some (.slice A0_2 l0_2.length c0_2) := (blk_cell BK448.out 2).trans rfl; have hfz7_0 := blk_frozen BK448.out 0; have hfz7_1 := blk_frozen BK448.out 1; have hfz7_2 := blk_frozen BK448.out 2) | ((with_reducible refine gate_callee (f := 32) rfl ?_); refine goesL_ (some 11) rfl rfl Try.func32 (by kernel_rfl) rfl #[.agg #[.int .i64 a0_0, .int .i64 a0_1, .slice A0_2 l0_2.length c0_2]] rfl (by (try simp only [List.map_toArray, List.map_cons, List.map_nil]); first | done | rfl | (simp only [List.length_drop, List.length_take]; rfl)) ?_; (with_reducible refine (barrowref06_Right.calls a0_0 a0_1 _ _ l0_2 t450 _ ?side1 ?side2 A3.out).mono ?_); (case side1 => repeat (first | exact (Kd.C_below HR0_2.out HB.out) | (with_reducible refine Kd.C_alloc ?_ _) | (with_reducible refine Kd.C_drewN ?_ _) | (with_reducible refine Kd.C_drew ?_))); (case side2 => exact HC0_2.out); rintro e w8 ⟨rfl, hb⟩; refine ⟨_, rfl, ?_⟩; have n0_ := Aside0.mk (blk_below (g := gb448) (o := .cells #[.int .i64 a0_0, .int .i64 a0_1, .slice A0_2 l0_2.length c0_2] 24 (0, 0)) (by (with_reducible repeat (first | refine blk_drewN ?_ _ | refine blk_drew ?_ | refine blk_alloc ?_ _)); exact BK448.out) hb); have n1_ := Aside0.mk (blk_below (g := gb449) (o := .cells #[.int .i64 a1_0, .int .i64 a1_1, .int .i64 a1_2, .int .i64 a1_3, .int .i64 a1_4, .int .i64 a1_5, .int .i64 a1_6] 28 (0, 0)) (by (with_reducible repeat (first | refine blk_drewN ?_ _ | refine blk_drew ?_ | refine blk_alloc ?_ _)); exact BK449.out) hb); have n2_ := Aside0.mk (below_step (by repeat (first | (with_reducible first | exact HB.out | apply below_alloc | apply pw_below_drewN | apply below_drew1 | refine below_set ?_ GE448.out | refine below_set ?_ GE449.out) | exact HB.out)) hb); clear BK448; clear BK449; clear HB; have BK448 := n0_; have BK449 := n1_; have HB := n2_; clear n0_ n1_ n2_; (try clear hb); (try clear hb2); (try clear hk); (try clear hi)))
  go_loopg [6, 7] k (fun kq v6 v7 w' => ∃ (x6_1 : List (S26)) (x7_1 : Int), v7 = .int .i64 x7_1 ∧ Aside0 (barrowref32_Tiles.l0 kq t450 x6_1 x7_1 a0_0 a0_1 l0_2 a1_0 a1_1 a1_2 a1_3 a1_4 a1_5 a1_6 = some r) ∧ Aside0 (kq ≤ k) ∧ Aside0 (Kd.R k26 26 w' w.heap.size (fun _ => True) v6 x6_1) ∧ Aside0 (w'.heap[gb448]? = some (.cells #[.int .i64 a0_0, .int .i64 a0_1, (.slice A0_2 l0_2.length c0_2)] 24 (0, 0))) ∧ Aside0 (w'.heap[gb449]? = some (.cells #[.int .i64 a1_0, .int .i64 a1_1, .int .i64 a1_2, .int .i64 a1_3, .int .i64 a1_4, .int .i64 a1_5, .int .i64 a1_6] 28 (0, 0))) ∧ Aside0 (Below w.heap.size w w'))
  case atStart => exact ⟨(([] : List (S26))), (0), (by first | rfl | (simp; done) | (simp [*]; done)), H', ⟨Nat.le_refl _⟩, ⟨by first | exact Kd.R_nil _ _ _ _ _ | exact Kd.N_nil _ _ _ _ _ | exact Kd.V_nil _ _ _ _ _ | exact Kd.Q_nil _ _ _ _ _ | exact Kd.S_nil _ _ _ _ _⟩, ⟨by (with_reducible repeat (first | refine blk_drewN ?_ _ | refine blk_drew ?_ | refine blk_alloc ?_ _)); exact BK448.out⟩, ⟨by (with_reducible repeat (first | refine blk_drewN ?_ _ | refine blk_drew ?_ | refine blk_alloc ?_ _)); exact BK449.out⟩, ⟨by repeat (first | (with_reducible first | exact HB.out | apply below_alloc | apply pw_below_drewN | apply below_drew1 | refine below_set ?_ GE448.out | refine below_set ?_ GE449.out) | exact HB.out)⟩⟩
  case round =>
    clear H'
    try clear c1
    try clear p2
    try clear c3
    try clear c6
    try clear hcz7_0
    try clear hcz7_1
    try clear hcz7_2
    try clear hfz7_0
    try clear hfz7_1
    try clear hfz7_2
    obtain ⟨x6_1, x7_1, rfl, HA, HK1, HO_6, BK448, BK449, HB⟩ := hrel
    cases gk with
    | zero => exact absurd HA.out (by simp [barrowref32_Tiles.l0])
    | succ k1 =>
      have H := HA.out
      clear HA
      simp only [barrowref32_Tiles.l0] at H
      have HC9 := Aside0.mk H
      clear H
      go_upto_region 4 with (fail)
      go_cut [19, 5] (fun v19 v5 wc => ∃ (kq : Nat) (x19_8 : Bool), v19 = .bool x19_8 ∧ v5 = .bool t450 ∧ Aside0 (barrowref32_Tiles.j1 kq t450 x6_1 x7_1 x19_8 a0_0 a0_1 l0_2 a1_0 a1_1 a1_2 a1_3 a1_4 a1_5 a1_6 = some r) ∧ Aside0 (kq ≤ k1) ∧ Aside0 (Kd.R k26 26 wc w.heap.size (fun _ => True) u6 x6_1) ∧ Aside0 (wc.heap[gb448]? = some (.cells #[.int .i64 a0_0, .int .i64 a0_1, (.slice A0_2 l0_2.length c0_2)] 24 (0, 0))) ∧ Aside0 (wc.heap[gb449]? = some (.cells #[.int .i64 a1_0, .int .i64 a1_1, .int .i64 a1_2, .int .i64 a1_3, .int .i64 a1_4, .int .i64 a1_5, .int .i64 a1_6] 28 (0, 0))) ∧ Aside0 (Below w.heap.size w wc))
      case first =>
        have H := HC9.out
        clear HC9
        by_cases c10 : x7_1 < (l0_2.length : Int)
        · rw [if_pos c10] at H
          have c10b0 : decide (x7_1 < (l0_2.length : Int)) = true := decide_eq_true c10
          clear c10
          (first | rw [c10b0] | (simp only [i64_w, i32_w]; rw [c10b0]) | skip)
          have H' := Aside0.mk H
          clear H
          have hnb11 := NB448_449.out
          have hnc11 := NB449_448.out
          have hcz12_0 : wr.cell? ⟨gb448, 0, none⟩ = some (.int .i64 a0_0) := (blk_cell BK448.out 0).trans rfl
          have hcz12_1 : wr.cell? ⟨gb448, 1, none⟩ = some (.int .i64 a0_1) := (blk_cell BK448.out 1).trans rfl
          have hcz12_2 : wr.cell? ⟨gb448, 2, none⟩ = some (.slice A0_2 l0_2.length c0_2) := (blk_cell BK448.out 2).trans rfl
          have hfz12_0 := blk_frozen BK448.out 0
          have hfz12_1 := blk_frozen BK448.out 1
          have hfz12_2 := blk_frozen BK448.out 2
          go_wp2
          go_meet
          case rel => exact ⟨_, (t450), (by first | rfl | (simp; done) | (simp [*]; done)), (by first | rfl | (simp; done) | (simp [*]; done)), H', ⟨by have := HK1.out; first | omega | exact Nat.le_refl _⟩, ⟨by (with_reducible repeat (first | apply Kd.R_alloc | apply Kd.R_drewN | apply Kd.R_drew)); exact HO_6.out⟩, ⟨by (with_reducible repeat (first | refine blk_drewN ?_ _ | refine blk_drew ?_ | refine blk_alloc ?_ _)); exact BK448.out⟩, ⟨by (with_reducible repeat (first | refine blk_drewN ?_ _ | refine blk_drew ?_ | refine blk_alloc ?_ _)); exact BK449.out⟩, ⟨by repeat (first | (with_reducible first | exact HB.out | apply below_alloc | apply pw_below_drewN | apply below_drew1 | refine below_set ?_ GE448.out | refine below_set ?_ GE449.out) | exact HB.out)⟩⟩
        · rw [if_neg c10] at H
          have c10b0 : decide (x7_1 < (l0_2.length : Int)) = false := decide_eq_false c10
          clear c10
          (first | rw [c10b0] | (simp only [i64_w, i32_w]; rw [c10b0]) | skip)
          have H' := Aside0.mk H
          clear H
          have hnb13 := NB448_449.out
          have hnc13 := NB449_448.out
          have hcz14_0 : wr.cell? ⟨gb448, 0, none⟩ = some (.int .i64 a0_0) := (blk_cell BK448.out 0).trans rfl
          have hcz14_1 : wr.cell? ⟨gb448, 1, none⟩ = some (.int .i64 a0_1) := (blk_cell BK448.out 1).trans rfl
          have hcz14_2 : wr.cell? ⟨gb448, 2, none⟩ = some (.slice A0_2 l0_2.length c0_2) := (blk_cell BK448.out 2).trans rfl
          have hfz14_0 := blk_frozen BK448.out 0
          have hfz14_1 := blk_frozen BK448.out 1
          have hfz14_2 := blk_frozen BK448.out 2
          go_wp2
          go_meet
          case rel => exact ⟨_, (false), (by first | rfl | (simp; done) | (simp [*]; done)), (by first | rfl | (simp; done) | (simp [*]; done)), H', ⟨by have := HK1.out; first | omega | exact Nat.le_refl _⟩, ⟨by (with_reducible repeat (first | apply Kd.R_alloc | apply Kd.R_drewN | apply Kd.R_drew)); exact HO_6.out⟩, ⟨by (with_reducible repeat (first | refine blk_drewN ?_ _ | refine blk_drew ?_ | refine blk_alloc ?_ _)); exact BK448.out⟩, ⟨by (with_reducible repeat (first | refine blk_drewN ?_ _ | refine blk_drew ?_ | refine blk_alloc ?_ _)); exact BK449.out⟩, ⟨by repeat (first | (with_reducible first | exact HB.out | apply below_alloc | apply pw_below_drewN | apply below_drew1 | refine below_set ?_ GE448.out | refine below_set ?_ GE449.out) | exact HB.out)⟩⟩
      case rest =>
        clear HC9
        try clear c1
        try clear p2
        try clear c3
        try clear c6
        try clear c10
        try clear c10b0
        try clear c11
        try clear c13
        try clear hcz12_0
        try clear hcz12_1
        try clear hcz12_2
        try clear hcz14_0
        try clear hcz14_1
        try clear hcz14_2
        try clear hcz7_0
        try clear hcz7_1
        try clear hcz7_2
        try clear hfz12_0
        try clear hfz12_1
        try clear hfz12_2
        try clear hfz14_0
        try clear hfz14_1
        try clear hfz14_2
        try clear hfz7_0
        try clear hfz7_1
        try clear hfz7_2
        try clear p2
        obtain ⟨kq, x19_8, rfl, rfl, HA, HJ8, HO_6, BK448, BK449, HB⟩ := hcut
        cases kq with
        | zero => exact absurd HA.out (by simp [barrowref32_Tiles.j1])
        | succ kj8 =>
          have H := HA.out
          clear HA
          simp only [barrowref32_Tiles.j1] at H
          by_cases c15 : x19_8 = true
          · subst c15
            have H1 : (if a0_0 = 0 then (none) else ((barrowref32_In.f kj8 a1_0 a1_1 a1_2 a1_3 a1_4 a1_5 a1_6 (Int.tmod x7_1 a0_0) (wrap64 (Int.tdiv x7_1 a0_0))).bind fun t452 => (if t452 = true then (if 0 ≤ x7_1 then (if x7_1 < (l0_2.length : Int) then (if rdOf false l0_2 x7_1 = true then (barrowref32_Tiles.l0 kj8 t450 x6_1 (wrap64 (x7_1 + 1)) a0_0 a0_1 l0_2 a1_0 a1_1 a1_2 a1_3 a1_4 a1_5 a1_6) else (if x6_1.length < 8796093022208 then (barrowref32_Tiles.l0 kj8 t450 (x6_1 ++ [(⟨Int.tmod x7_1 a0_0, wrap64 (Int.tdiv x7_1 a0_0)⟩ : S26)]) (wrap64 (x7_1 + 1)) a0_0 a0_1 l0_2 a1_0 a1_1 a1_2 a1_3 a1_4 a1_5 a1_6) else (none))) else (none)) else (none)) else (barrowref32_Tiles.l0 kj8 t450 x6_1 (wrap64 (x7_1 + 1)) a0_0 a0_1 l0_2 a1_0 a1_1 a1_2 a1_3 a1_4 a1_5 a1_6)))) = some r := by rw [if_pos rfl] at H; exact H
            clear H
            have H := H1
            clear H1
            by_cases c16 : a0_0 = 0
            · rw [if_pos c16] at H
              exact absurd H (by simp)
            · rw [if_neg c16] at H
              have c16b0 : (a0_0 == 0) = false := beq_eq_false_iff_ne.mpr c16
              have c16b1 : (a0_0 != 0) = true := bne_iff_ne.mpr c16
              replace H := Option.bind_eq_some_iff.mp H
              obtain ⟨t452, A170, H⟩ := H
              replace H : (if t452 = true then (if 0 ≤ x7_1 then (if x7_1 < (l0_2.length : Int) then (if rdOf false l0_2 x7_1 = true then (barrowref32_Tiles.l0 kj8 t450 x6_1 (wrap64 (x7_1 + 1)) a0_0 a0_1 l0_2 a1_0 a1_1 a1_2 a1_3 a1_4 a1_5 a1_6) else (if x6_1.length < 8796093022208 then (barrowref32_Tiles.l0 kj8 t450 (x6_1 ++ [(⟨Int.tmod x7_1 a0_0, wrap64 (Int.tdiv x7_1 a0_0)⟩ : S26)]) (wrap64 (x7_1 + 1)) a0_0 a0_1 l0_2 a1_0 a1_1 a1_2 a1_3 a1_4 a1_5 a1_6) else (none))) else (none)) else (none)) else (barrowref32_Tiles.l0 kj8 t450 x6_1 (wrap64 (x7_1 + 1)) a0_0 a0_1 l0_2 a1_0 a1_1 a1_2 a1_3 a1_4 a1_5 a1_6)) = some r := H
              have A17 := Aside0.mk A170
              clear A170
              by_cases c18 : t452 = true
              · subst c18
                have H1 : (if 0 ≤ x7_1 then (if x7_1 < (l0_2.length : Int) then (if rdOf false l0_2 x7_1 = true then (barrowref32_Tiles.l0 kj8 t450 x6_1 (wrap64 (x7_1 + 1)) a0_0 a0_1 l0_2 a1_0 a1_1 a1_2 a1_3 a1_4 a1_5 a1_6) else (if x6_1.length < 8796093022208 then (barrowref32_Tiles.l0 kj8 t450 (x6_1 ++ [(⟨Int.tmod x7_1 a0_0, wrap64 (Int.tdiv x7_1 a0_0)⟩ : S26)]) (wrap64 (x7_1 + 1)) a0_0 a0_1 l0_2 a1_0 a1_1 a1_2 a1_3 a1_4 a1_5 a1_6) else (none))) else (none)) else (none)) = some r := by rw [if_pos rfl] at H; exact H
                clear H
                have H := H1
                clear H1
                by_cases c19 : 0 ≤ x7_1
                · rw [if_pos c19] at H
                  have c19b0 : decide (0 ≤ x7_1) = true := decide_eq_true c19
                  clear c19
                  by_cases c20 : x7_1 < (l0_2.length : Int)
                  · rw [if_pos c20] at H
                    have c20b0 : decide (x7_1 < (l0_2.length : Int)) = true := decide_eq_true c20
                    clear c20
                    obtain ⟨bq21, hbq21⟩ : ∃ b_ : Bool, b_ = (rdOf false l0_2 x7_1) := ⟨_, rfl⟩
                    replace H : (if bq21 = true then (barrowref32_Tiles.l0 kj8 t450 x6_1 (wrap64 (x7_1 + 1)) a0_0 a0_1 l0_2 a1_0 a1_1 a1_2 a1_3 a1_4 a1_5 a1_6) else (if x6_1.length < 8796093022208 then (barrowref32_Tiles.l0 kj8 t450 (x6_1 ++ [(⟨Int.tmod x7_1 a0_0, wrap64 (Int.tdiv x7_1 a0_0)⟩ : S26)]) (wrap64 (x7_1 + 1)) a0_0 a0_1 l0_2 a1_0 a1_1 a1_2 a1_3 a1_4 a1_5 a1_6) else (none))) = some r := by rw [← hbq21] at H; exact H
                    have Nbq21 := Aside0.mk hbq21
                    clear hbq21
                    by_cases c22 : bq21 = true
                    · subst c22
                      have H1 : (barrowref32_Tiles.l0 kj8 t450 x6_1 (wrap64 (x7_1 + 1)) a0_0 a0_1 l0_2 a1_0 a1_1 a1_2 a1_3 a1_4 a1_5 a1_6) = some r := by rw [if_pos rfl] at H; exact H
                      clear H
                      have H := H1
                      clear H1
                      have H' := Aside0.mk H
                      clear H
                      try go_wp2
                      have n0_ := Aside0.mk (Kd.R_drew HO_6.out)
                      have n1_ := Aside0.mk (blk_drew BK448.out)
                      have n2_ := Aside0.mk (blk_drew BK449.out)
                      have n3_ := Aside0.mk (below_drew1 HB.out)
                      clear HO_6
                      clear BK448
                      clear BK449
                      clear HB
                      have HO_6 := n0_
                      have BK448 := n1_
                      have BK449 := n2_
                      have HB := n3_
                      clear n0_ n1_ n2_ n3_
                      refine start_ (n := 11) (S := fun w' => w'.cell? ⟨gb448, 0, none⟩ = some (.int .i64 a0_0) ∧ w'.cell? ⟨gb448, 1, none⟩ = some (.int .i64 a0_1) ∧ w'.cell? ⟨gb448, 2, none⟩ = some (.slice A0_2 l0_2.length c0_2)) (ds := []) #[false, false, false, false, false, false, false, false, false, false, false] (by kernel_rfl) rfl rfl ⟨(blk_cell BK448.out 0).trans rfl, (blk_cell BK448.out 1).trans rfl, (blk_cell BK448.out 2).trans rfl⟩ (fun hHeld => ?_); refine with_tabW barrowref32_Tiles.tab6 barrowref32_Tiles.bits6 (fun HT_ HW_ => ?_)
                      generalize wc.drew = w23 at HO_6 BK448 BK449 HB hHeld ⊢
                      refine pure_ (i := 0) (N := some 22) (v := ?_) (a' := ?_) #[true, false, false, false, false, false, false, false, false, false, false] rfl rfl (any_of HT_.out (by kernel_rfl)) (fun _ _ _ h => h) (Or.inl ⟨by rfl, ?_⟩) ?_ ?_; rotate_left; · (intro w'; go_simp; with_reducible rfl)
                      rotate_left; · (simp only [Act.put, sT, sZ, sS, i64_w, i32_w]; rfl)
                      refine pure_ (i := 1) (N := some 23) (v := ?_) (a' := ?_) #[true, true, false, false, false, false, false, false, false, false, false] rfl rfl (any_of HT_.out (by kernel_rfl)) (fun _ _ _ h => h) (Or.inl ⟨by rfl, ?_⟩) ?_ ?_; rotate_left; · (intro w'; go_simp; with_reducible rfl)
                      rotate_left; · (simp only [Act.put, sT, sZ, sS, i64_w, i32_w]; rfl)
                      refine pure_ (i := 4) (N := some 26) (v := ?_) (a' := ?_) #[true, true, false, false, true, false, false, false, false, false, false] rfl rfl (any_of HT_.out (by kernel_rfl)) (fun _ _ _ h => h) (Or.inl ⟨by rfl, ?_⟩) ?_ ?_; rotate_left; · (intro w'; go_simp; with_reducible rfl)
                      rotate_left; · (simp only [Act.put, sT, sZ, sS, i64_w, i32_w]; rfl)
                      refine pure_ (i := 5) (N := some 27) (v := ?_) (a' := ?_) #[true, true, false, false, true, true, false, false, false, false, false] rfl rfl (any_of HT_.out (by kernel_rfl)) (fun _ _ _ h => h) (Or.inl ⟨by rfl, ?_⟩) ?_ ?_; rotate_left; · (intro w'; go_simp; with_reducible rfl)
                      rotate_left; · (simp only [Act.put, sT, sZ, sS, i64_w, i32_w]; rfl)
                      refine take_ (i := 2) (N := some 24) (v := ?_) (a' := ?_) #[true, true, true, false, true, true, false, false, false, false, false] rfl rfl (take_ofW HT_.out HW_.out (by kernel_rfl)) (fun _ _ _ h => h) (Or.inl ⟨by rfl, ?_⟩) hHeld ?_ ?_; rotate_left
                      · rintro w' ⟨s0, s1, s2⟩
                        go_simp
                        with_reducible rfl
                      rotate_left; · (simp only [Act.put, sT, sZ, sS, i64_w, i32_w]; rfl)
                      refine pure_ (i := 3) (N := some 25) (v := ?_) (a' := ?_) #[true, true, true, true, true, true, false, false, false, false, false] rfl rfl (any_of HT_.out (by kernel_rfl)) (fun _ _ _ h => h) (Or.inl ⟨by rfl, ?_⟩) ?_ ?_; rotate_left; · (intro w'; go_simp; with_reducible rfl)
                      rotate_left; · (simp only [Act.put, sT, sZ, sS, i64_w, i32_w]; rfl)
                      refine take_ (i := 6) (N := some 28) (v := ?_) (a' := ?_) #[true, true, true, true, true, true, true, false, false, false, false] rfl rfl (take_ofW HT_.out HW_.out (by kernel_rfl)) (fun _ _ _ h => h) (Or.inl ⟨by rfl, ?_⟩) hHeld ?_ ?_; rotate_left
                      · rintro w' ⟨s0, s1, s2⟩
                        go_simp
                        with_reducible rfl
                      rotate_left; · (simp only [Act.put, sT, sZ, sS, i64_w, i32_w]; rfl)
                      refine pure_ (i := 7) (N := some 29) (v := ?_) (a' := ?_) #[true, true, true, true, true, true, true, true, false, false, false] rfl rfl (any_of HT_.out (by kernel_rfl)) (fun _ _ _ h => h) (Or.inl ⟨by rfl, ?_⟩) ?_ ?_; rotate_left; · (intro w'; go_simp; with_reducible rfl)
                      rotate_left; · (simp only [Act.put, sT, sZ, sS, i64_w, i32_w]; rfl)
                      refine pure_ (i := 8) (N := some 30) (v := ?_) (a' := ?_) #[true, true, true, true, true, true, true, true, true, false, false] rfl rfl (any_of HT_.out (by kernel_rfl)) (fun _ _ _ h => h) (Or.inl ⟨by rfl, ?_⟩) ?_ ?_; rotate_left; · (intro w'; go_simp; with_reducible rfl)
                      rotate_left; · (simp only [Act.put, sT, sZ, sS, i64_w, i32_w]; rfl)
                      refine one_ (i := 9) (N := some 8) #[true, true, true, true, true, true, true, true, true, true, false] rfl rfl (one_of HT_.out (by kernel_rfl)) (by decide) (fun K hK => ?_)
                      refine box_step ?hg (N := 8) ?hd (cs := #[.int .i64 0, .int .i64 0]) (t := 26) ?hr ?_; (case hd => rfl); (case hg => rfl); (case hr => first | (go_simp; done) | (go_simp; rfl))
                      intro gb451 hg w24 hbox hb
                      have n0_ := Aside0.mk (Kd.R_below (Kd.R_elderB (by (with_reducible repeat (first | apply Kd.R_alloc | apply Kd.R_drewN | apply Kd.R_drew)); exact HO_6.out) gb451 (Nat.le_of_eq hg.symm)) hb)
                      have n1_ := Aside0.mk (blk_below (g := gb448) (o := .cells #[.int .i64 a0_0, .int .i64 a0_1, .slice A0_2 l0_2.length c0_2] 24 (0, 0)) (by (with_reducible repeat (first | refine blk_drewN ?_ _ | refine blk_drew ?_ | refine blk_alloc ?_ _)); exact BK448.out) hb)
                      have n2_ := Aside0.mk (blk_below (g := gb449) (o := .cells #[.int .i64 a1_0, .int .i64 a1_1, .int .i64 a1_2, .int .i64 a1_3, .int .i64 a1_4, .int .i64 a1_5, .int .i64 a1_6] 28 (0, 0)) (by (with_reducible repeat (first | refine blk_drewN ?_ _ | refine blk_drew ?_ | refine blk_alloc ?_ _)); exact BK449.out) hb)
                      have n3_ := Aside0.mk (below_step (by repeat (first | (with_reducible first | exact HB.out | apply below_alloc | apply pw_below_drewN | apply below_drew1 | refine below_set ?_ GE448.out | refine below_set ?_ GE449.out) | exact HB.out)) hb)
                      have n4_ := Aside0.mk (hbox)
                      have n5_ := Aside0.mk ((by rw [hg]; exact (below_size (by repeat (first | (with_reducible first | exact HB.out | apply below_alloc | apply pw_below_drewN | apply below_drew1 | refine below_set ?_ GE448.out | refine below_set ?_ GE449.out) | exact HB.out))) : w.heap.size ≤ gb451))
                      have n6_ := Aside0.mk ((by rw [hg]; exact (below_size (by repeat (first | (with_reducible first | exact HB.out | apply below_alloc | apply pw_below_drewN | apply below_drew1 | refine below_set ?_ GE448.out | refine below_set ?_ GE449.out) | exact HB.out))) : w.heap.size ≤ gb451))
                      have n7_ := Aside0.mk ((by rw [hg]; exact Nat.ne_of_lt (blk_lt (g := gb448) (o := .cells #[.int .i64 a0_0, .int .i64 a0_1, .slice A0_2 l0_2.length c0_2] 24 (0, 0)) (by (with_reducible repeat (first | refine blk_drewN ?_ _ | refine blk_drew ?_ | refine blk_alloc ?_ _)); exact BK448.out)) : gb448 ≠ gb451))
                      have n8_ := Aside0.mk ((by rw [hg]; exact Nat.ne_of_gt (blk_lt (g := gb448) (o := .cells #[.int .i64 a0_0, .int .i64 a0_1, .slice A0_2 l0_2.length c0_2] 24 (0, 0)) (by (with_reducible repeat (first | refine blk_drewN ?_ _ | refine blk_drew ?_ | refine blk_alloc ?_ _)); exact BK448.out)) : gb451 ≠ gb448))
                      have n9_ := Aside0.mk ((by rw [hg]; exact Nat.ne_of_lt (blk_lt (g := gb449) (o := .cells #[.int .i64 a1_0, .int .i64 a1_1, .int .i64 a1_2, .int .i64 a1_3, .int .i64 a1_4, .int .i64 a1_5, .int .i64 a1_6] 28 (0, 0)) (by (with_reducible repeat (first | refine blk_drewN ?_ _ | refine blk_drew ?_ | refine blk_alloc ?_ _)); exact BK449.out)) : gb449 ≠ gb451))
                      have n10_ := Aside0.mk ((by rw [hg]; exact Nat.ne_of_gt (blk_lt (g := gb449) (o := .cells #[.int .i64 a1_0, .int .i64 a1_1, .int .i64 a1_2, .int .i64 a1_3, .int .i64 a1_4, .int .i64 a1_5, .int .i64 a1_6] 28 (0, 0)) (by (with_reducible repeat (first | refine blk_drewN ?_ _ | refine blk_drew ?_ | refine blk_alloc ?_ _)); exact BK449.out)) : gb451 ≠ gb449))
                      clear HO_6
                      clear BK448
                      clear BK449
                      clear HB
                      have HO_6 := n0_
                      have BK448 := n1_
                      have BK449 := n2_
                      have HB := n3_
                      have BK451 := n4_
                      have GW451 := n5_
                      have GE451 := n6_
                      have NB448_451 := n7_
                      have NB451_448 := n8_
                      have NB449_451 := n9_
                      have NB451_449 := n10_
                      clear n0_ n1_ n2_ n3_ n4_ n5_ n6_ n7_ n8_ n9_ n10_
                      clear hb hbox hg
                      refine hK.out _ _ ⟨(blk_cell BK448.out 0).trans rfl, (blk_cell BK448.out 1).trans rfl, (blk_cell BK448.out 2).trans rfl⟩ (fun hHeld => ?_)
                      clear hK K
                      refine norm_ (a' := ?_) ?_ ?_; rotate_left
                      · show Act.put _ (some 8) _ = _
                        simp only [Act.put, sT, sZ, sS, i64_w, i32_w]
                        rfl
                      refine one_ (i := 10) (N := none) #[true, true, true, true, true, true, true, true, true, true, true] rfl rfl (one_of HT_.out (by kernel_rfl)) (by decide) (fun K hK => ?_)
                      have hs25 : w24.cell? ⟨gb451, 0, none⟩ = some (.int .i64 0) := (blk_cell BK451.out 0).trans rfl
                      have hfs25 := blk_frozen BK451.out 0
                      have hns25_0 := NB448_451.out
                      have hns25_1 := NB449_451.out
                      have hms25_0 := NB451_448.out
                      have hms25_1 := NB451_449.out
                      have hs26 : w24.cell? ⟨gb451, 1, none⟩ = some (.int .i64 0) := (blk_cell BK451.out 1).trans rfl
                      have hfs26 := blk_frozen BK451.out 1
                      have hns26_0 := NB448_451.out
                      have hns26_1 := NB449_451.out
                      have hms26_0 := NB451_448.out
                      have hms26_1 := NB451_449.out
                      refine skip_ (w1 := ?_) (by rfl) rfl ?_ ?_; rotate_left
                      · go_simp
                        rfl
                      refine hK.out _ _ ⟨((cell_far (p := ⟨gb451, _, none⟩) NB448_451.out _).trans (((cell_far (p := ⟨gb451, _, none⟩) NB448_451.out _).trans (hHeld.1)))), ((cell_far (p := ⟨gb451, _, none⟩) NB448_451.out _).trans (((cell_far (p := ⟨gb451, _, none⟩) NB448_451.out _).trans (hHeld.2.1)))), ((cell_far (p := ⟨gb451, _, none⟩) NB448_451.out _).trans (((cell_far (p := ⟨gb451, _, none⟩) NB448_451.out _).trans (hHeld.2.2))))⟩ (fun hHeld => ?_)
                      clear hK K
                      refine done_ (done_of HT_.out (by kernel_rfl)) ?_
                      have hnb27 := NB449_448.out
                      have hnc27 := NB448_449.out
                      have hnb28 := NB449_451.out
                      have hnc28 := NB451_449.out
                      have hcz29_0 : w24.cell? ⟨gb449, 0, none⟩ = some (.int .i64 a1_0) := (blk_cell BK449.out 0).trans rfl
                      have hcz29_1 : w24.cell? ⟨gb449, 1, none⟩ = some (.int .i64 a1_1) := (blk_cell BK449.out 1).trans rfl
                      have hcz29_2 : w24.cell? ⟨gb449, 2, none⟩ = some (.int .i64 a1_2) := (blk_cell BK449.out 2).trans rfl
                      have hcz29_3 : w24.cell? ⟨gb449, 3, none⟩ = some (.int .i64 a1_3) := (blk_cell BK449.out 3).trans rfl
                      have hcz29_4 : w24.cell? ⟨gb449, 4, none⟩ = some (.int .i64 a1_4) := (blk_cell BK449.out 4).trans rfl
                      have hcz29_5 : w24.cell? ⟨gb449, 5, none⟩ = some (.int .i64 a1_5) := (blk_cell BK449.out 5).trans rfl
                      have hcz29_6 : w24.cell? ⟨gb449, 6, none⟩ = some (.int .i64 a1_6) := (blk_cell BK449.out 6).trans rfl
                      have hfz29_0 := blk_frozen BK449.out 0
                      have hfz29_1 := blk_frozen BK449.out 1
                      have hfz29_2 := blk_frozen BK449.out 2
                      have hfz29_3 := blk_frozen BK449.out 3
                      have hfz29_4 := blk_frozen BK449.out 4
                      have hfz29_5 := blk_frozen BK449.out 5
                      have hfz29_6 := blk_frozen BK449.out 6
                      have hnb30 := NB451_448.out
                      have hnc30 := NB448_451.out
                      have hcz31_0 : w24.cell? ⟨gb451, 0, none⟩ = some (.int .i64 0) := (blk_cell BK451.out 0).trans rfl
                      have hcz31_1 : w24.cell? ⟨gb451, 1, none⟩ = some (.int .i64 0) := (blk_cell BK451.out 1).trans rfl
                      have hfz31_0 := blk_frozen BK451.out 0
                      have hfz31_1 := blk_frozen BK451.out 1
                      try go_wp2_with (first | ((with_reducible refine gate_callee (f := 12) rfl ?_); refine goesL_ (some 33) rfl rfl Try.func12 (by kernel_rfl) rfl #[.agg #[.int .i64 a1_0, .int .i64 a1_1, .int .i64 a1_2, .int .i64 a1_3, .int .i64 a1_4, .int .i64 a1_5, .int .i64 a1_6], .agg #[.int .i64 (Int.tmod x7_1 a0_0), .int .i64 (wrap64 (Int.tdiv x7_1 a0_0))]] rfl (by (try simp only [List.map_toArray, List.map_cons, List.map_nil]); first | done | rfl | (simp only [List.length_drop, List.length_take]; rfl)) ?_; (with_reducible refine (barrowref32_In.calls kj8 a1_0 a1_1 a1_2 a1_3 a1_4 a1_5 a1_6 (Int.tmod x7_1 a0_0) (wrap64 (Int.tdiv x7_1 a0_0)) true _ A17.out).mono ?_); rintro e w32 ⟨rfl, hb⟩; refine ⟨_, rfl, ?_⟩; have n0_ := Aside0.mk (Kd.R_below (by (with_reducible repeat (first | apply Kd.R_alloc | apply Kd.R_drewN | apply Kd.R_drew)); exact (Kd.R_mono (Kd.R_far (p := ⟨gb451, 1, none⟩) (Kd.R_far (p := ⟨gb451, 0, none⟩) (Kd.R_mono HO_6.out (fun k_ hk => (⟨hk, hk.2⟩ : _ ∧ k_ ≠ gb451))) (fun _ hk => hk.2) (.int .i64 (Int.tmod x7_1 a0_0))) (fun _ hk => hk.2) (.int .i64 (wrap64 (Int.tdiv x7_1 a0_0)))) (fun _ h_ => h_.1))) hb); have n1_ := Aside0.mk (blk_below (g := gb448) (o := .cells #[.int .i64 a0_0, .int .i64 a0_1, .slice A0_2 l0_2.length c0_2] 24 (0, 0)) (by (with_reducible repeat (first | refine blk_drewN ?_ _ | refine blk_drew ?_ | refine blk_alloc ?_ _)); refine blk_far ?_ NB448_451.out _; (with_reducible repeat (first | refine blk_drewN ?_ _ | refine blk_drew ?_ | refine blk_alloc ?_ _)); refine blk_far ?_ NB448_451.out _; (with_reducible repeat (first | refine blk_drewN ?_ _ | refine blk_drew ?_ | refine blk_alloc ?_ _)); exact BK448.out) hb); have n2_ := Aside0.mk (blk_below (g := gb449) (o := .cells #[.int .i64 a1_0, .int .i64 a1_1, .int .i64 a1_2, .int .i64 a1_3, .int .i64 a1_4, .int .i64 a1_5, .int .i64 a1_6] 28 (0, 0)) (by (with_reducible repeat (first | refine blk_drewN ?_ _ | refine blk_drew ?_ | refine blk_alloc ?_ _)); refine blk_far ?_ NB449_451.out _; (with_reducible repeat (first | refine blk_drewN ?_ _ | refine blk_drew ?_ | refine blk_alloc ?_ _)); refine blk_far ?_ NB449_451.out _; (with_reducible repeat (first | refine blk_drewN ?_ _ | refine blk_drew ?_ | refine blk_alloc ?_ _)); exact BK449.out) hb); have n3_ := Aside0.mk (blk_below (g := gb451) (o := .cells #[.int .i64 (Int.tmod x7_1 a0_0), .int .i64 (wrap64 (Int.tdiv x7_1 a0_0))] 26 (0, 0)) (by (with_reducible repeat (first | refine blk_drewN ?_ _ | refine blk_drew ?_ | refine blk_alloc ?_ _)); refine blk_put (cs := #[.int .i64 (Int.tmod x7_1 a0_0), .int .i64 0]) ?_ 1 _ rfl; (with_reducible repeat (first | refine blk_drewN ?_ _ | refine blk_drew ?_ | refine blk_alloc ?_ _)); refine blk_put (cs := #[.int .i64 0, .int .i64 0]) ?_ 0 _ rfl; (with_reducible repeat (first | refine blk_drewN ?_ _ | refine blk_drew ?_ | refine blk_alloc ?_ _)); exact BK451.out) hb); have n4_ := Aside0.mk (below_step (by repeat (first | (with_reducible first | exact HB.out | apply below_alloc | apply pw_below_drewN | apply below_drew1 | refine below_set ?_ GE448.out | refine below_set ?_ GE449.out | refine below_set ?_ GE451.out) | exact HB.out)) hb); clear HO_6; clear BK448; clear BK449; clear BK451; clear HB; have HO_6 := n0_; have BK448 := n1_; have BK449 := n2_; have BK451 := n3_; have HB := n4_; clear n0_ n1_ n2_ n3_ n4_; (try clear hb); (try clear hb2); (try clear hk); (try clear hi); have hcz33_0 : w32.cell? ⟨gb448, 0, none⟩ = some (.int .i64 a0_0) := (blk_cell BK448.out 0).trans rfl; have hcz33_1 : w32.cell? ⟨gb448, 1, none⟩ = some (.int .i64 a0_1) := (blk_cell BK448.out 1).trans rfl; have hcz33_2 : w32.cell? ⟨gb448, 2, none⟩ = some (.slice A0_2 l0_2.length c0_2) := (blk_cell BK448.out 2).trans rfl; have hfz33_0 := blk_frozen BK448.out 0; have hfz33_1 := blk_frozen BK448.out 1; have hfz33_2 := blk_frozen BK448.out 2; have p453 : 0 ≤ (x7_1 : Int) := of_decide_eq_true (by first | (with_reducible assumption) | assumption); have q453 : x7_1 < (l0_2.length : Int) := of_decide_eq_true (by first | (with_reducible assumption) | assumption); obtain ⟨ad453, e453, hx453_0⟩ := Kd.at_bool HR0_2.out x7_1 p453 q453; (try rw [← Nbq21.out] at hx453_0); cases e453; replace hx453_0 := (HB.out.cell (World.block_lt_of_cell? w _ hx453_0)).trans hx453_0; replace p453 := eq_true p453; replace q453 := eq_true q453))
                      go_roundg kj8
                      case measure => have := HK1.out; have := HJ8.out; omega
                      case rel => exact ⟨(x6_1), (wrap64 (x7_1 + 1)), (by first | rfl | (simp; done) | (simp [*]; done)), H', ⟨by have := HK1.out; have := HJ8.out; omega⟩, ⟨by (with_reducible repeat (first | apply Kd.R_alloc | apply Kd.R_drewN | apply Kd.R_drew)); exact Kd.R_mono HO_6.out (fun _ hk => trivial)⟩, ⟨by (with_reducible repeat (first | refine blk_drewN ?_ _ | refine blk_drew ?_ | refine blk_alloc ?_ _)); exact BK448.out⟩, ⟨by (with_reducible repeat (first | refine blk_drewN ?_ _ | refine blk_drew ?_ | refine blk_alloc ?_ _)); exact BK449.out⟩, ⟨by repeat (first | (with_reducible first | exact HB.out | apply below_alloc | apply pw_below_drewN | apply below_drew1 | refine below_set ?_ GE448.out | refine below_set ?_ GE449.out | refine below_set ?_ GE451.out) | exact HB.out)⟩⟩
                    · replace c22 := Bool.eq_false_iff.mpr c22
                      subst c22
                      have H1 : (if x6_1.length < 8796093022208 then (barrowref32_Tiles.l0 kj8 t450 (x6_1 ++ [(⟨Int.tmod x7_1 a0_0, wrap64 (Int.tdiv x7_1 a0_0)⟩ : S26)]) (wrap64 (x7_1 + 1)) a0_0 a0_1 l0_2 a1_0 a1_1 a1_2 a1_3 a1_4 a1_5 a1_6) else (none)) = some r := by rw [if_neg (show ¬ (false = true) by decide)] at H; exact H
                      clear H
                      have H := H1
                      clear H1
                      by_cases c34 : x6_1.length < 8796093022208
                      · rw [if_pos c34] at H
                        have LMc34 := Aside0.mk c34
                        clear c34
                        obtain ⟨y454, hy454⟩ : ∃ y_ : List (S26), y_ = (x6_1 ++ [(⟨Int.tmod x7_1 a0_0, wrap64 (Int.tdiv x7_1 a0_0)⟩ : S26)]) := ⟨_, rfl⟩
                        replace H : (barrowref32_Tiles.l0 kj8 t450 y454 (wrap64 (x7_1 + 1)) a0_0 a0_1 l0_2 a1_0 a1_1 a1_2 a1_3 a1_4 a1_5 a1_6) = some r := by first | (rw [hy454]; with_reducible exact H) | (have H2_ := (Option.bind_some _ _).symm.trans H; rw [hy454]; with_reducible exact H2_) | (have H2_ := (Option.bind_some _ _).symm.trans H; with_reducible exact H2_) | with_reducible exact H | (rw [hy454]; exact H) | exact H
                        have Ny454 := Aside0.mk hy454
                        clear hy454
                        have H' := Aside0.mk H
                        clear H
                        try go_wp2
                        have n0_ := Aside0.mk (Kd.R_drew HO_6.out)
                        have n1_ := Aside0.mk (blk_drew BK448.out)
                        have n2_ := Aside0.mk (blk_drew BK449.out)
                        have n3_ := Aside0.mk (below_drew1 HB.out)
                        clear HO_6
                        clear BK448
                        clear BK449
                        clear HB
                        have HO_6 := n0_
                        have BK448 := n1_
                        have BK449 := n2_
                        have HB := n3_
                        clear n0_ n1_ n2_ n3_
                        refine start_ (n := 11) (S := fun w' => w'.cell? ⟨gb448, 0, none⟩ = some (.int .i64 a0_0) ∧ w'.cell? ⟨gb448, 1, none⟩ = some (.int .i64 a0_1) ∧ w'.cell? ⟨gb448, 2, none⟩ = some (.slice A0_2 l0_2.length c0_2)) (ds := []) #[false, false, false, false, false, false, false, false, false, false, false] (by kernel_rfl) rfl rfl ⟨(blk_cell BK448.out 0).trans rfl, (blk_cell BK448.out 1).trans rfl, (blk_cell BK448.out 2).trans rfl⟩ (fun hHeld => ?_); refine with_tabW barrowref32_Tiles.tab6 barrowref32_Tiles.bits6 (fun HT_ HW_ => ?_)
                        generalize wc.drew = w35 at HO_6 BK448 BK449 HB hHeld ⊢
                        refine pure_ (i := 0) (N := some 22) (v := ?_) (a' := ?_) #[true, false, false, false, false, false, false, false, false, false, false] rfl rfl (any_of HT_.out (by kernel_rfl)) (fun _ _ _ h => h) (Or.inl ⟨by rfl, ?_⟩) ?_ ?_; rotate_left; · (intro w'; go_simp; with_reducible rfl)
                        rotate_left; · (simp only [Act.put, sT, sZ, sS, i64_w, i32_w]; rfl)
                        refine pure_ (i := 1) (N := some 23) (v := ?_) (a' := ?_) #[true, true, false, false, false, false, false, false, false, false, false] rfl rfl (any_of HT_.out (by kernel_rfl)) (fun _ _ _ h => h) (Or.inl ⟨by rfl, ?_⟩) ?_ ?_; rotate_left; · (intro w'; go_simp; with_reducible rfl)
                        rotate_left; · (simp only [Act.put, sT, sZ, sS, i64_w, i32_w]; rfl)
                        refine pure_ (i := 4) (N := some 26) (v := ?_) (a' := ?_) #[true, true, false, false, true, false, false, false, false, false, false] rfl rfl (any_of HT_.out (by kernel_rfl)) (fun _ _ _ h => h) (Or.inl ⟨by rfl, ?_⟩) ?_ ?_; rotate_left; · (intro w'; go_simp; with_reducible rfl)
                        rotate_left; · (simp only [Act.put, sT, sZ, sS, i64_w, i32_w]; rfl)
                        refine pure_ (i := 5) (N := some 27) (v := ?_) (a' := ?_) #[true, true, false, false, true, true, false, false, false, false, false] rfl rfl (any_of HT_.out (by kernel_rfl)) (fun _ _ _ h => h) (Or.inl ⟨by rfl, ?_⟩) ?_ ?_; rotate_left; · (intro w'; go_simp; with_reducible rfl)
                        rotate_left; · (simp only [Act.put, sT, sZ, sS, i64_w, i32_w]; rfl)
                        refine take_ (i := 2) (N := some 24) (v := ?_) (a' := ?_) #[true, true, true, false, true, true, false, false, false, false, false] rfl rfl (take_ofW HT_.out HW_.out (by kernel_rfl)) (fun _ _ _ h => h) (Or.inl ⟨by rfl, ?_⟩) hHeld ?_ ?_; rotate_left
                        · rintro w' ⟨s0, s1, s2⟩
                          go_simp
                          with_reducible rfl
                        rotate_left; · (simp only [Act.put, sT, sZ, sS, i64_w, i32_w]; rfl)
                        refine pure_ (i := 3) (N := some 25) (v := ?_) (a' := ?_) #[true, true, true, true, true, true, false, false, false, false, false] rfl rfl (any_of HT_.out (by kernel_rfl)) (fun _ _ _ h => h) (Or.inl ⟨by rfl, ?_⟩) ?_ ?_; rotate_left; · (intro w'; go_simp; with_reducible rfl)
                        rotate_left; · (simp only [Act.put, sT, sZ, sS, i64_w, i32_w]; rfl)
                        refine take_ (i := 6) (N := some 28) (v := ?_) (a' := ?_) #[true, true, true, true, true, true, true, false, false, false, false] rfl rfl (take_ofW HT_.out HW_.out (by kernel_rfl)) (fun _ _ _ h => h) (Or.inl ⟨by rfl, ?_⟩) hHeld ?_ ?_; rotate_left
                        · rintro w' ⟨s0, s1, s2⟩
                          go_simp
                          with_reducible rfl
                        rotate_left; · (simp only [Act.put, sT, sZ, sS, i64_w, i32_w]; rfl)
                        refine pure_ (i := 7) (N := some 29) (v := ?_) (a' := ?_) #[true, true, true, true, true, true, true, true, false, false, false] rfl rfl (any_of HT_.out (by kernel_rfl)) (fun _ _ _ h => h) (Or.inl ⟨by rfl, ?_⟩) ?_ ?_; rotate_left; · (intro w'; go_simp; with_reducible rfl)
                        rotate_left; · (simp only [Act.put, sT, sZ, sS, i64_w, i32_w]; rfl)
                        refine pure_ (i := 8) (N := some 30) (v := ?_) (a' := ?_) #[true, true, true, true, true, true, true, true, true, false, false] rfl rfl (any_of HT_.out (by kernel_rfl)) (fun _ _ _ h => h) (Or.inl ⟨by rfl, ?_⟩) ?_ ?_; rotate_left; · (intro w'; go_simp; with_reducible rfl)
                        rotate_left; · (simp only [Act.put, sT, sZ, sS, i64_w, i32_w]; rfl)
                        refine one_ (i := 9) (N := some 8) #[true, true, true, true, true, true, true, true, true, true, false] rfl rfl (one_of HT_.out (by kernel_rfl)) (by decide) (fun K hK => ?_)
                        refine box_step ?hg (N := 8) ?hd (cs := #[.int .i64 0, .int .i64 0]) (t := 26) ?hr ?_; (case hd => rfl); (case hg => rfl); (case hr => first | (go_simp; done) | (go_simp; rfl))
                        intro gb451 hg w36 hbox hb
                        have n0_ := Aside0.mk (Kd.R_below (Kd.R_elderB (by (with_reducible repeat (first | apply Kd.R_alloc | apply Kd.R_drewN | apply Kd.R_drew)); exact HO_6.out) gb451 (Nat.le_of_eq hg.symm)) hb)
                        have n1_ := Aside0.mk (blk_below (g := gb448) (o := .cells #[.int .i64 a0_0, .int .i64 a0_1, .slice A0_2 l0_2.length c0_2] 24 (0, 0)) (by (with_reducible repeat (first | refine blk_drewN ?_ _ | refine blk_drew ?_ | refine blk_alloc ?_ _)); exact BK448.out) hb)
                        have n2_ := Aside0.mk (blk_below (g := gb449) (o := .cells #[.int .i64 a1_0, .int .i64 a1_1, .int .i64 a1_2, .int .i64 a1_3, .int .i64 a1_4, .int .i64 a1_5, .int .i64 a1_6] 28 (0, 0)) (by (with_reducible repeat (first | refine blk_drewN ?_ _ | refine blk_drew ?_ | refine blk_alloc ?_ _)); exact BK449.out) hb)
                        have n3_ := Aside0.mk (below_step (by repeat (first | (with_reducible first | exact HB.out | apply below_alloc | apply pw_below_drewN | apply below_drew1 | refine below_set ?_ GE448.out | refine below_set ?_ GE449.out) | exact HB.out)) hb)
                        have n4_ := Aside0.mk (hbox)
                        have n5_ := Aside0.mk ((by rw [hg]; exact (below_size (by repeat (first | (with_reducible first | exact HB.out | apply below_alloc | apply pw_below_drewN | apply below_drew1 | refine below_set ?_ GE448.out | refine below_set ?_ GE449.out) | exact HB.out))) : w.heap.size ≤ gb451))
                        have n6_ := Aside0.mk ((by rw [hg]; exact (below_size (by repeat (first | (with_reducible first | exact HB.out | apply below_alloc | apply pw_below_drewN | apply below_drew1 | refine below_set ?_ GE448.out | refine below_set ?_ GE449.out) | exact HB.out))) : w.heap.size ≤ gb451))
                        have n7_ := Aside0.mk ((by rw [hg]; exact Nat.ne_of_lt (blk_lt (g := gb448) (o := .cells #[.int .i64 a0_0, .int .i64 a0_1, .slice A0_2 l0_2.length c0_2] 24 (0, 0)) (by (with_reducible repeat (first | refine blk_drewN ?_ _ | refine blk_drew ?_ | refine blk_alloc ?_ _)); exact BK448.out)) : gb448 ≠ gb451))
                        have n8_ := Aside0.mk ((by rw [hg]; exact Nat.ne_of_gt (blk_lt (g := gb448) (o := .cells #[.int .i64 a0_0, .int .i64 a0_1, .slice A0_2 l0_2.length c0_2] 24 (0, 0)) (by (with_reducible repeat (first | refine blk_drewN ?_ _ | refine blk_drew ?_ | refine blk_alloc ?_ _)); exact BK448.out)) : gb451 ≠ gb448))
                        have n9_ := Aside0.mk ((by rw [hg]; exact Nat.ne_of_lt (blk_lt (g := gb449) (o := .cells #[.int .i64 a1_0, .int .i64 a1_1, .int .i64 a1_2, .int .i64 a1_3, .int .i64 a1_4, .int .i64 a1_5, .int .i64 a1_6] 28 (0, 0)) (by (with_reducible repeat (first | refine blk_drewN ?_ _ | refine blk_drew ?_ | refine blk_alloc ?_ _)); exact BK449.out)) : gb449 ≠ gb451))
                        have n10_ := Aside0.mk ((by rw [hg]; exact Nat.ne_of_gt (blk_lt (g := gb449) (o := .cells #[.int .i64 a1_0, .int .i64 a1_1, .int .i64 a1_2, .int .i64 a1_3, .int .i64 a1_4, .int .i64 a1_5, .int .i64 a1_6] 28 (0, 0)) (by (with_reducible repeat (first | refine blk_drewN ?_ _ | refine blk_drew ?_ | refine blk_alloc ?_ _)); exact BK449.out)) : gb451 ≠ gb449))
                        clear HO_6
                        clear BK448
                        clear BK449
                        clear HB
                        have HO_6 := n0_
                        have BK448 := n1_
                        have BK449 := n2_
                        have HB := n3_
                        have BK451 := n4_
                        have GW451 := n5_
                        have GE451 := n6_
                        have NB448_451 := n7_
                        have NB451_448 := n8_
                        have NB449_451 := n9_
                        have NB451_449 := n10_
                        clear n0_ n1_ n2_ n3_ n4_ n5_ n6_ n7_ n8_ n9_ n10_
                        clear hb hbox hg
                        refine hK.out _ _ ⟨(blk_cell BK448.out 0).trans rfl, (blk_cell BK448.out 1).trans rfl, (blk_cell BK448.out 2).trans rfl⟩ (fun hHeld => ?_)
                        clear hK K
                        refine norm_ (a' := ?_) ?_ ?_; rotate_left
                        · show Act.put _ (some 8) _ = _
                          simp only [Act.put, sT, sZ, sS, i64_w, i32_w]
                          rfl
                        refine one_ (i := 10) (N := none) #[true, true, true, true, true, true, true, true, true, true, true] rfl rfl (one_of HT_.out (by kernel_rfl)) (by decide) (fun K hK => ?_)
                        have hs37 : w36.cell? ⟨gb451, 0, none⟩ = some (.int .i64 0) := (blk_cell BK451.out 0).trans rfl
                        have hfs37 := blk_frozen BK451.out 0
                        have hns37_0 := NB448_451.out
                        have hns37_1 := NB449_451.out
                        have hms37_0 := NB451_448.out
                        have hms37_1 := NB451_449.out
                        have hs38 : w36.cell? ⟨gb451, 1, none⟩ = some (.int .i64 0) := (blk_cell BK451.out 1).trans rfl
                        have hfs38 := blk_frozen BK451.out 1
                        have hns38_0 := NB448_451.out
                        have hns38_1 := NB449_451.out
                        have hms38_0 := NB451_448.out
                        have hms38_1 := NB451_449.out
                        refine skip_ (w1 := ?_) (by rfl) rfl ?_ ?_; rotate_left
                        · go_simp
                          rfl
                        refine hK.out _ _ ⟨((cell_far (p := ⟨gb451, _, none⟩) NB448_451.out _).trans (((cell_far (p := ⟨gb451, _, none⟩) NB448_451.out _).trans (hHeld.1)))), ((cell_far (p := ⟨gb451, _, none⟩) NB448_451.out _).trans (((cell_far (p := ⟨gb451, _, none⟩) NB448_451.out _).trans (hHeld.2.1)))), ((cell_far (p := ⟨gb451, _, none⟩) NB448_451.out _).trans (((cell_far (p := ⟨gb451, _, none⟩) NB448_451.out _).trans (hHeld.2.2))))⟩ (fun hHeld => ?_)
                        clear hK K
                        refine done_ (done_of HT_.out (by kernel_rfl)) ?_
                        have hnb39 := NB449_448.out
                        have hnc39 := NB448_449.out
                        have hnb40 := NB449_451.out
                        have hnc40 := NB451_449.out
                        have hcz41_0 : w36.cell? ⟨gb449, 0, none⟩ = some (.int .i64 a1_0) := (blk_cell BK449.out 0).trans rfl
                        have hcz41_1 : w36.cell? ⟨gb449, 1, none⟩ = some (.int .i64 a1_1) := (blk_cell BK449.out 1).trans rfl
                        have hcz41_2 : w36.cell? ⟨gb449, 2, none⟩ = some (.int .i64 a1_2) := (blk_cell BK449.out 2).trans rfl
                        have hcz41_3 : w36.cell? ⟨gb449, 3, none⟩ = some (.int .i64 a1_3) := (blk_cell BK449.out 3).trans rfl
                        have hcz41_4 : w36.cell? ⟨gb449, 4, none⟩ = some (.int .i64 a1_4) := (blk_cell BK449.out 4).trans rfl
                        have hcz41_5 : w36.cell? ⟨gb449, 5, none⟩ = some (.int .i64 a1_5) := (blk_cell BK449.out 5).trans rfl
                        have hcz41_6 : w36.cell? ⟨gb449, 6, none⟩ = some (.int .i64 a1_6) := (blk_cell BK449.out 6).trans rfl
                        have hfz41_0 := blk_frozen BK449.out 0
                        have hfz41_1 := blk_frozen BK449.out 1
                        have hfz41_2 := blk_frozen BK449.out 2
                        have hfz41_3 := blk_frozen BK449.out 3
                        have hfz41_4 := blk_frozen BK449.out 4
                        have hfz41_5 := blk_frozen BK449.out 5
                        have hfz41_6 := blk_frozen BK449.out 6
                        have hnb42 := NB451_448.out
                        have hnc42 := NB448_451.out
                        have hcz43_0 : w36.cell? ⟨gb451, 0, none⟩ = some (.int .i64 0) := (blk_cell BK451.out 0).trans rfl
                        have hcz43_1 : w36.cell? ⟨gb451, 1, none⟩ = some (.int .i64 0) := (blk_cell BK451.out 1).trans rfl
                        have hfz43_0 := blk_frozen BK451.out 0
                        have hfz43_1 := blk_frozen BK451.out 1
                        try go_wp2_with (first | ((with_reducible refine gate_callee (f := 12) rfl ?_); refine goesL_ (some 33) rfl rfl Try.func12 (by kernel_rfl) rfl #[.agg #[.int .i64 a1_0, .int .i64 a1_1, .int .i64 a1_2, .int .i64 a1_3, .int .i64 a1_4, .int .i64 a1_5, .int .i64 a1_6], .agg #[.int .i64 (Int.tmod x7_1 a0_0), .int .i64 (wrap64 (Int.tdiv x7_1 a0_0))]] rfl (by (try simp only [List.map_toArray, List.map_cons, List.map_nil]); first | done | rfl | (simp only [List.length_drop, List.length_take]; rfl)) ?_; (with_reducible refine (barrowref32_In.calls kj8 a1_0 a1_1 a1_2 a1_3 a1_4 a1_5 a1_6 (Int.tmod x7_1 a0_0) (wrap64 (Int.tdiv x7_1 a0_0)) true _ A17.out).mono ?_); rintro e w44 ⟨rfl, hb⟩; refine ⟨_, rfl, ?_⟩; have n0_ := Aside0.mk (Kd.R_below (by (with_reducible repeat (first | apply Kd.R_alloc | apply Kd.R_drewN | apply Kd.R_drew)); exact (Kd.R_mono (Kd.R_far (p := ⟨gb451, 1, none⟩) (Kd.R_far (p := ⟨gb451, 0, none⟩) (Kd.R_mono HO_6.out (fun k_ hk => (⟨hk, hk.2⟩ : _ ∧ k_ ≠ gb451))) (fun _ hk => hk.2) (.int .i64 (Int.tmod x7_1 a0_0))) (fun _ hk => hk.2) (.int .i64 (wrap64 (Int.tdiv x7_1 a0_0)))) (fun _ h_ => h_.1))) hb); have n1_ := Aside0.mk (blk_below (g := gb448) (o := .cells #[.int .i64 a0_0, .int .i64 a0_1, .slice A0_2 l0_2.length c0_2] 24 (0, 0)) (by (with_reducible repeat (first | refine blk_drewN ?_ _ | refine blk_drew ?_ | refine blk_alloc ?_ _)); refine blk_far ?_ NB448_451.out _; (with_reducible repeat (first | refine blk_drewN ?_ _ | refine blk_drew ?_ | refine blk_alloc ?_ _)); refine blk_far ?_ NB448_451.out _; (with_reducible repeat (first | refine blk_drewN ?_ _ | refine blk_drew ?_ | refine blk_alloc ?_ _)); exact BK448.out) hb); have n2_ := Aside0.mk (blk_below (g := gb449) (o := .cells #[.int .i64 a1_0, .int .i64 a1_1, .int .i64 a1_2, .int .i64 a1_3, .int .i64 a1_4, .int .i64 a1_5, .int .i64 a1_6] 28 (0, 0)) (by (with_reducible repeat (first | refine blk_drewN ?_ _ | refine blk_drew ?_ | refine blk_alloc ?_ _)); refine blk_far ?_ NB449_451.out _; (with_reducible repeat (first | refine blk_drewN ?_ _ | refine blk_drew ?_ | refine blk_alloc ?_ _)); refine blk_far ?_ NB449_451.out _; (with_reducible repeat (first | refine blk_drewN ?_ _ | refine blk_drew ?_ | refine blk_alloc ?_ _)); exact BK449.out) hb); have n3_ := Aside0.mk (blk_below (g := gb451) (o := .cells #[.int .i64 (Int.tmod x7_1 a0_0), .int .i64 (wrap64 (Int.tdiv x7_1 a0_0))] 26 (0, 0)) (by (with_reducible repeat (first | refine blk_drewN ?_ _ | refine blk_drew ?_ | refine blk_alloc ?_ _)); refine blk_put (cs := #[.int .i64 (Int.tmod x7_1 a0_0), .int .i64 0]) ?_ 1 _ rfl; (with_reducible repeat (first | refine blk_drewN ?_ _ | refine blk_drew ?_ | refine blk_alloc ?_ _)); refine blk_put (cs := #[.int .i64 0, .int .i64 0]) ?_ 0 _ rfl; (with_reducible repeat (first | refine blk_drewN ?_ _ | refine blk_drew ?_ | refine blk_alloc ?_ _)); exact BK451.out) hb); have n4_ := Aside0.mk (below_step (by repeat (first | (with_reducible first | exact HB.out | apply below_alloc | apply pw_below_drewN | apply below_drew1 | refine below_set ?_ GE448.out | refine below_set ?_ GE449.out | refine below_set ?_ GE451.out) | exact HB.out)) hb); clear HO_6; clear BK448; clear BK449; clear BK451; clear HB; have HO_6 := n0_; have BK448 := n1_; have BK449 := n2_; have BK451 := n3_; have HB := n4_; clear n0_ n1_ n2_ n3_ n4_; (try clear hb); (try clear hb2); (try clear hk); (try clear hi); have hcz45_0 : w44.cell? ⟨gb448, 0, none⟩ = some (.int .i64 a0_0) := (blk_cell BK448.out 0).trans rfl; have hcz45_1 : w44.cell? ⟨gb448, 1, none⟩ = some (.int .i64 a0_1) := (blk_cell BK448.out 1).trans rfl; have hcz45_2 : w44.cell? ⟨gb448, 2, none⟩ = some (.slice A0_2 l0_2.length c0_2) := (blk_cell BK448.out 2).trans rfl; have hfz45_0 := blk_frozen BK448.out 0; have hfz45_1 := blk_frozen BK448.out 1; have hfz45_2 := blk_frozen BK448.out 2; have p453 : 0 ≤ (x7_1 : Int) := of_decide_eq_true (by first | (with_reducible assumption) | assumption); have q453 : x7_1 < (l0_2.length : Int) := of_decide_eq_true (by first | (with_reducible assumption) | assumption); obtain ⟨ad453, e453, hx453_0⟩ := Kd.at_bool HR0_2.out x7_1 p453 q453; (try rw [← Nbq21.out] at hx453_0); cases e453; replace hx453_0 := (HB.out.cell (World.block_lt_of_cell? w _ hx453_0)).trans hx453_0; replace p453 := eq_true p453; replace q453 := eq_true q453; have hcz46_0 : w44.cell? ⟨gb451, 0, none⟩ = some (.int .i64 (Int.tmod x7_1 a0_0)) := (blk_cell BK451.out 0).trans rfl; have hcz46_1 : w44.cell? ⟨gb451, 1, none⟩ = some (.int .i64 (wrap64 (Int.tdiv x7_1 a0_0))) := (blk_cell BK451.out 1).trans rfl; have hfz46_0 := blk_frozen BK451.out 0; have hfz46_1 := blk_frozen BK451.out 1) | ((with_reducible refine gate_builtin (b := .append) (xs := #[.tmp 43, .tmp 45]) rfl ?_); at_builtin; refine Kd.R_append k26 (w0 := w) w.heap.size rfl (.tmp 43) (.tmp 45) 34 26 (.agg #[(.int .i64 0), (.int .i64 0)]) 16 rfl Try.underlying34 info26 rfl (by decide) (by omega) u6 x6_1 (⟨Int.tmod x7_1 a0_0, wrap64 (Int.tdiv x7_1 a0_0)⟩ : S26) [.int .i64 (Int.tmod x7_1 a0_0), .int .i64 (wrap64 (Int.tdiv x7_1 a0_0))] (fun k_ => k_ ≠ gb451) (fun _ => False) rfl rfl ?aP (fun _ hk => hk.elim) ?aF ?aO ?aB ?aS ?aL ?_; (case aP => exact k26_mkM _ _ _ (⟨Int.tmod x7_1 a0_0, wrap64 (Int.tdiv x7_1 a0_0)⟩ : S26)); (case aB => exact (by repeat (first | (with_reducible first | exact HB.out | apply below_alloc | apply pw_below_drewN | apply below_drew1 | refine below_set ?_ GE448.out | refine below_set ?_ GE449.out | refine below_set ?_ GE451.out) | exact HB.out))); (case aF => exact (fun k_ hk => Kd.freshB (g := gb451) (o := .cells #[.int .i64 (Int.tmod x7_1 a0_0), .int .i64 (wrap64 (Int.tdiv x7_1 a0_0))] 26 (0, 0)) (by (with_reducible repeat (first | refine blk_drewN ?_ _ | refine blk_drew ?_ | refine blk_alloc ?_ _)); exact BK451.out) k_ hk)); (case aO => exact (by (with_reducible repeat (first | apply Kd.R_alloc | apply Kd.R_drewN | apply Kd.R_drew)); exact Kd.R_mono HO_6.out (fun _ hk => hk.2))); (case aS => exact (below_size (by repeat (first | (with_reducible first | exact HB.out | apply below_alloc | apply pw_below_drewN | apply below_drew1 | refine below_set ?_ GE448.out | refine below_set ?_ GE449.out | refine below_set ?_ GE451.out) | exact HB.out)))); (case aL => have := LMc34.out; omega); intro v455 w47 ho hb hg hat; rw [← Ny454.out] at ho; have n0_ := Aside0.mk (blk_grown (g := gb448) (o := .cells #[.int .i64 a0_0, .int .i64 a0_1, .slice (some ad453) l0_2.length c0_2] 24 (0, 0)) (by (with_reducible repeat (first | refine blk_drewN ?_ _ | refine blk_drew ?_ | refine blk_alloc ?_ _)); exact BK448.out) hg (Kd.R_ne HO_6.out BK448.out (by decide))); have n1_ := Aside0.mk (blk_grown (g := gb449) (o := .cells #[.int .i64 a1_0, .int .i64 a1_1, .int .i64 a1_2, .int .i64 a1_3, .int .i64 a1_4, .int .i64 a1_5, .int .i64 a1_6] 28 (0, 0)) (by (with_reducible repeat (first | refine blk_drewN ?_ _ | refine blk_drew ?_ | refine blk_alloc ?_ _)); exact BK449.out) hg (Kd.R_ne HO_6.out BK449.out (by decide))); have n2_ := Aside0.mk (blk_grown (g := gb451) (o := .cells #[.int .i64 (Int.tmod x7_1 a0_0), .int .i64 (wrap64 (Int.tdiv x7_1 a0_0))] 26 (0, 0)) (by (with_reducible repeat (first | refine blk_drewN ?_ _ | refine blk_drew ?_ | refine blk_alloc ?_ _)); exact BK451.out) hg (Kd.R_away HO_6.out (fun _ hk => hk.2))); have n3_ := Aside0.mk (hb); have n4_ := Aside0.mk (ho); clear BK448; clear BK449; clear BK451; clear HB; clear HO_6; have BK448 := n0_; have BK449 := n1_; have BK451 := n2_; have HB := n3_; have HO456 := n4_; clear n0_ n1_ n2_ n3_ n4_; clear ho hb hg hat))
                        go_roundg kj8
                        case measure => have := HK1.out; have := HJ8.out; omega
                        case rel => exact ⟨(y454), (wrap64 (x7_1 + 1)), (by first | rfl | (simp; done) | (simp [*]; done)), H', ⟨by have := HK1.out; have := HJ8.out; omega⟩, ⟨by (with_reducible repeat (first | apply Kd.R_alloc | apply Kd.R_drewN | apply Kd.R_drew)); exact Kd.R_mono HO456.out (fun _ hk => trivial)⟩, ⟨by (with_reducible repeat (first | refine blk_drewN ?_ _ | refine blk_drew ?_ | refine blk_alloc ?_ _)); exact BK448.out⟩, ⟨by (with_reducible repeat (first | refine blk_drewN ?_ _ | refine blk_drew ?_ | refine blk_alloc ?_ _)); exact BK449.out⟩, ⟨by repeat (first | (with_reducible first | exact HB.out | apply below_alloc | apply pw_below_drewN | apply below_drew1 | refine below_set ?_ GE448.out | refine below_set ?_ GE449.out | refine below_set ?_ GE451.out) | exact HB.out)⟩⟩
                      · rw [if_neg c34] at H
                        exact absurd H (by simp)
                  · rw [if_neg c20] at H
                    exact absurd H (by simp)
                · rw [if_neg c19] at H
                  exact absurd H (by simp)
              · replace c18 := Bool.eq_false_iff.mpr c18
                subst c18
                have H1 : (barrowref32_Tiles.l0 kj8 t450 x6_1 (wrap64 (x7_1 + 1)) a0_0 a0_1 l0_2 a1_0 a1_1 a1_2 a1_3 a1_4 a1_5 a1_6) = some r := by rw [if_neg (show ¬ (false = true) by decide)] at H; exact H
                clear H
                have H := H1
                clear H1
                have H' := Aside0.mk H
                clear H
                try go_wp2
                have n0_ := Aside0.mk (Kd.R_drew HO_6.out)
                have n1_ := Aside0.mk (blk_drew BK448.out)
                have n2_ := Aside0.mk (blk_drew BK449.out)
                have n3_ := Aside0.mk (below_drew1 HB.out)
                clear HO_6
                clear BK448
                clear BK449
                clear HB
                have HO_6 := n0_
                have BK448 := n1_
                have BK449 := n2_
                have HB := n3_
                clear n0_ n1_ n2_ n3_
                refine start_ (n := 11) (S := fun w' => w'.cell? ⟨gb448, 0, none⟩ = some (.int .i64 a0_0) ∧ w'.cell? ⟨gb448, 1, none⟩ = some (.int .i64 a0_1) ∧ w'.cell? ⟨gb448, 2, none⟩ = some (.slice A0_2 l0_2.length c0_2)) (ds := []) #[false, false, false, false, false, false, false, false, false, false, false] (by kernel_rfl) rfl rfl ⟨(blk_cell BK448.out 0).trans rfl, (blk_cell BK448.out 1).trans rfl, (blk_cell BK448.out 2).trans rfl⟩ (fun hHeld => ?_); refine with_tabW barrowref32_Tiles.tab6 barrowref32_Tiles.bits6 (fun HT_ HW_ => ?_)
                generalize wc.drew = w48 at HO_6 BK448 BK449 HB hHeld ⊢
                refine pure_ (i := 0) (N := some 22) (v := ?_) (a' := ?_) #[true, false, false, false, false, false, false, false, false, false, false] rfl rfl (any_of HT_.out (by kernel_rfl)) (fun _ _ _ h => h) (Or.inl ⟨by rfl, ?_⟩) ?_ ?_; rotate_left; · (intro w'; go_simp; with_reducible rfl)
                rotate_left; · (simp only [Act.put, sT, sZ, sS, i64_w, i32_w]; rfl)
                refine pure_ (i := 1) (N := some 23) (v := ?_) (a' := ?_) #[true, true, false, false, false, false, false, false, false, false, false] rfl rfl (any_of HT_.out (by kernel_rfl)) (fun _ _ _ h => h) (Or.inl ⟨by rfl, ?_⟩) ?_ ?_; rotate_left; · (intro w'; go_simp; with_reducible rfl)
                rotate_left; · (simp only [Act.put, sT, sZ, sS, i64_w, i32_w]; rfl)
                refine pure_ (i := 4) (N := some 26) (v := ?_) (a' := ?_) #[true, true, false, false, true, false, false, false, false, false, false] rfl rfl (any_of HT_.out (by kernel_rfl)) (fun _ _ _ h => h) (Or.inl ⟨by rfl, ?_⟩) ?_ ?_; rotate_left; · (intro w'; go_simp; with_reducible rfl)
                rotate_left; · (simp only [Act.put, sT, sZ, sS, i64_w, i32_w]; rfl)
                refine pure_ (i := 5) (N := some 27) (v := ?_) (a' := ?_) #[true, true, false, false, true, true, false, false, false, false, false] rfl rfl (any_of HT_.out (by kernel_rfl)) (fun _ _ _ h => h) (Or.inl ⟨by rfl, ?_⟩) ?_ ?_; rotate_left; · (intro w'; go_simp; with_reducible rfl)
                rotate_left; · (simp only [Act.put, sT, sZ, sS, i64_w, i32_w]; rfl)
                refine take_ (i := 2) (N := some 24) (v := ?_) (a' := ?_) #[true, true, true, false, true, true, false, false, false, false, false] rfl rfl (take_ofW HT_.out HW_.out (by kernel_rfl)) (fun _ _ _ h => h) (Or.inl ⟨by rfl, ?_⟩) hHeld ?_ ?_; rotate_left
                · rintro w' ⟨s0, s1, s2⟩
                  go_simp
                  with_reducible rfl
                rotate_left; · (simp only [Act.put, sT, sZ, sS, i64_w, i32_w]; rfl)
                refine pure_ (i := 3) (N := some 25) (v := ?_) (a' := ?_) #[true, true, true, true, true, true, false, false, false, false, false] rfl rfl (any_of HT_.out (by kernel_rfl)) (fun _ _ _ h => h) (Or.inl ⟨by rfl, ?_⟩) ?_ ?_; rotate_left; · (intro w'; go_simp; with_reducible rfl)
                rotate_left; · (simp only [Act.put, sT, sZ, sS, i64_w, i32_w]; rfl)
                refine take_ (i := 6) (N := some 28) (v := ?_) (a' := ?_) #[true, true, true, true, true, true, true, false, false, false, false] rfl rfl (take_ofW HT_.out HW_.out (by kernel_rfl)) (fun _ _ _ h => h) (Or.inl ⟨by rfl, ?_⟩) hHeld ?_ ?_; rotate_left
                · rintro w' ⟨s0, s1, s2⟩
                  go_simp
                  with_reducible rfl
                rotate_left; · (simp only [Act.put, sT, sZ, sS, i64_w, i32_w]; rfl)
                refine pure_ (i := 7) (N := some 29) (v := ?_) (a' := ?_) #[true, true, true, true, true, true, true, true, false, false, false] rfl rfl (any_of HT_.out (by kernel_rfl)) (fun _ _ _ h => h) (Or.inl ⟨by rfl, ?_⟩) ?_ ?_; rotate_left; · (intro w'; go_simp; with_reducible rfl)
                rotate_left; · (simp only [Act.put, sT, sZ, sS, i64_w, i32_w]; rfl)
                refine pure_ (i := 8) (N := some 30) (v := ?_) (a' := ?_) #[true, true, true, true, true, true, true, true, true, false, false] rfl rfl (any_of HT_.out (by kernel_rfl)) (fun _ _ _ h => h) (Or.inl ⟨by rfl, ?_⟩) ?_ ?_; rotate_left; · (intro w'; go_simp; with_reducible rfl)
                rotate_left; · (simp only [Act.put, sT, sZ, sS, i64_w, i32_w]; rfl)
                refine one_ (i := 9) (N := some 8) #[true, true, true, true, true, true, true, true, true, true, false] rfl rfl (one_of HT_.out (by kernel_rfl)) (by decide) (fun K hK => ?_)
                refine box_step ?hg (N := 8) ?hd (cs := #[.int .i64 0, .int .i64 0]) (t := 26) ?hr ?_; (case hd => rfl); (case hg => rfl); (case hr => first | (go_simp; done) | (go_simp; rfl))
                intro gb451 hg w49 hbox hb
                have n0_ := Aside0.mk (Kd.R_below (Kd.R_elderB (by (with_reducible repeat (first | apply Kd.R_alloc | apply Kd.R_drewN | apply Kd.R_drew)); exact HO_6.out) gb451 (Nat.le_of_eq hg.symm)) hb)
                have n1_ := Aside0.mk (blk_below (g := gb448) (o := .cells #[.int .i64 a0_0, .int .i64 a0_1, .slice A0_2 l0_2.length c0_2] 24 (0, 0)) (by (with_reducible repeat (first | refine blk_drewN ?_ _ | refine blk_drew ?_ | refine blk_alloc ?_ _)); exact BK448.out) hb)
                have n2_ := Aside0.mk (blk_below (g := gb449) (o := .cells #[.int .i64 a1_0, .int .i64 a1_1, .int .i64 a1_2, .int .i64 a1_3, .int .i64 a1_4, .int .i64 a1_5, .int .i64 a1_6] 28 (0, 0)) (by (with_reducible repeat (first | refine blk_drewN ?_ _ | refine blk_drew ?_ | refine blk_alloc ?_ _)); exact BK449.out) hb)
                have n3_ := Aside0.mk (below_step (by repeat (first | (with_reducible first | exact HB.out | apply below_alloc | apply pw_below_drewN | apply below_drew1 | refine below_set ?_ GE448.out | refine below_set ?_ GE449.out) | exact HB.out)) hb)
                have n4_ := Aside0.mk (hbox)
                have n5_ := Aside0.mk ((by rw [hg]; exact (below_size (by repeat (first | (with_reducible first | exact HB.out | apply below_alloc | apply pw_below_drewN | apply below_drew1 | refine below_set ?_ GE448.out | refine below_set ?_ GE449.out) | exact HB.out))) : w.heap.size ≤ gb451))
                have n6_ := Aside0.mk ((by rw [hg]; exact (below_size (by repeat (first | (with_reducible first | exact HB.out | apply below_alloc | apply pw_below_drewN | apply below_drew1 | refine below_set ?_ GE448.out | refine below_set ?_ GE449.out) | exact HB.out))) : w.heap.size ≤ gb451))
                have n7_ := Aside0.mk ((by rw [hg]; exact Nat.ne_of_lt (blk_lt (g := gb448) (o := .cells #[.int .i64 a0_0, .int .i64 a0_1, .slice A0_2 l0_2.length c0_2] 24 (0, 0)) (by (with_reducible repeat (first | refine blk_drewN ?_ _ | refine blk_drew ?_ | refine blk_alloc ?_ _)); exact BK448.out)) : gb448 ≠ gb451))
                have n8_ := Aside0.mk ((by rw [hg]; exact Nat.ne_of_gt (blk_lt (g := gb448) (o := .cells #[.int .i64 a0_0, .int .i64 a0_1, .slice A0_2 l0_2.length c0_2] 24 (0, 0)) (by (with_reducible repeat (first | refine blk_drewN ?_ _ | refine blk_drew ?_ | refine blk_alloc ?_ _)); exact BK448.out)) : gb451 ≠ gb448))
                have n9_ := Aside0.mk ((by rw [hg]; exact Nat.ne_of_lt (blk_lt (g := gb449) (o := .cells #[.int .i64 a1_0, .int .i64 a1_1, .int .i64 a1_2, .int .i64 a1_3, .int .i64 a1_4, .int .i64 a1_5, .int .i64 a1_6] 28 (0, 0)) (by (with_reducible repeat (first | refine blk_drewN ?_ _ | refine blk_drew ?_ | refine blk_alloc ?_ _)); exact BK449.out)) : gb449 ≠ gb451))
                have n10_ := Aside0.mk ((by rw [hg]; exact Nat.ne_of_gt (blk_lt (g := gb449) (o := .cells #[.int .i64 a1_0, .int .i64 a1_1, .int .i64 a1_2, .int .i64 a1_3, .int .i64 a1_4, .int .i64 a1_5, .int .i64 a1_6] 28 (0, 0)) (by (with_reducible repeat (first | refine blk_drewN ?_ _ | refine blk_drew ?_ | refine blk_alloc ?_ _)); exact BK449.out)) : gb451 ≠ gb449))
                clear HO_6
                clear BK448
                clear BK449
                clear HB
                have HO_6 := n0_
                have BK448 := n1_
                have BK449 := n2_
                have HB := n3_
                have BK451 := n4_
                have GW451 := n5_
                have GE451 := n6_
                have NB448_451 := n7_
                have NB451_448 := n8_
                have NB449_451 := n9_
                have NB451_449 := n10_
                clear n0_ n1_ n2_ n3_ n4_ n5_ n6_ n7_ n8_ n9_ n10_
                clear hb hbox hg
                refine hK.out _ _ ⟨(blk_cell BK448.out 0).trans rfl, (blk_cell BK448.out 1).trans rfl, (blk_cell BK448.out 2).trans rfl⟩ (fun hHeld => ?_)
                clear hK K
                refine norm_ (a' := ?_) ?_ ?_; rotate_left
                · show Act.put _ (some 8) _ = _
                  simp only [Act.put, sT, sZ, sS, i64_w, i32_w]
                  rfl
                refine one_ (i := 10) (N := none) #[true, true, true, true, true, true, true, true, true, true, true] rfl rfl (one_of HT_.out (by kernel_rfl)) (by decide) (fun K hK => ?_)
                have hs50 : w49.cell? ⟨gb451, 0, none⟩ = some (.int .i64 0) := (blk_cell BK451.out 0).trans rfl
                have hfs50 := blk_frozen BK451.out 0
                have hns50_0 := NB448_451.out
                have hns50_1 := NB449_451.out
                have hms50_0 := NB451_448.out
                have hms50_1 := NB451_449.out
                have hs51 : w49.cell? ⟨gb451, 1, none⟩ = some (.int .i64 0) := (blk_cell BK451.out 1).trans rfl
                have hfs51 := blk_frozen BK451.out 1
                have hns51_0 := NB448_451.out
                have hns51_1 := NB449_451.out
                have hms51_0 := NB451_448.out
                have hms51_1 := NB451_449.out
                refine skip_ (w1 := ?_) (by rfl) rfl ?_ ?_; rotate_left
                · go_simp
                  rfl
                refine hK.out _ _ ⟨((cell_far (p := ⟨gb451, _, none⟩) NB448_451.out _).trans (((cell_far (p := ⟨gb451, _, none⟩) NB448_451.out _).trans (hHeld.1)))), ((cell_far (p := ⟨gb451, _, none⟩) NB448_451.out _).trans (((cell_far (p := ⟨gb451, _, none⟩) NB448_451.out _).trans (hHeld.2.1)))), ((cell_far (p := ⟨gb451, _, none⟩) NB448_451.out _).trans (((cell_far (p := ⟨gb451, _, none⟩) NB448_451.out _).trans (hHeld.2.2))))⟩ (fun hHeld => ?_)
                clear hK K
                refine done_ (done_of HT_.out (by kernel_rfl)) ?_
                have hnb52 := NB449_448.out
                have hnc52 := NB448_449.out
                have hnb53 := NB449_451.out
                have hnc53 := NB451_449.out
                have hcz54_0 : w49.cell? ⟨gb449, 0, none⟩ = some (.int .i64 a1_0) := (blk_cell BK449.out 0).trans rfl
                have hcz54_1 : w49.cell? ⟨gb449, 1, none⟩ = some (.int .i64 a1_1) := (blk_cell BK449.out 1).trans rfl
                have hcz54_2 : w49.cell? ⟨gb449, 2, none⟩ = some (.int .i64 a1_2) := (blk_cell BK449.out 2).trans rfl
                have hcz54_3 : w49.cell? ⟨gb449, 3, none⟩ = some (.int .i64 a1_3) := (blk_cell BK449.out 3).trans rfl
                have hcz54_4 : w49.cell? ⟨gb449, 4, none⟩ = some (.int .i64 a1_4) := (blk_cell BK449.out 4).trans rfl
                have hcz54_5 : w49.cell? ⟨gb449, 5, none⟩ = some (.int .i64 a1_5) := (blk_cell BK449.out 5).trans rfl
                have hcz54_6 : w49.cell? ⟨gb449, 6, none⟩ = some (.int .i64 a1_6) := (blk_cell BK449.out 6).trans rfl
                have hfz54_0 := blk_frozen BK449.out 0
                have hfz54_1 := blk_frozen BK449.out 1
                have hfz54_2 := blk_frozen BK449.out 2
                have hfz54_3 := blk_frozen BK449.out 3
                have hfz54_4 := blk_frozen BK449.out 4
                have hfz54_5 := blk_frozen BK449.out 5
                have hfz54_6 := blk_frozen BK449.out 6
                have hnb55 := NB451_448.out
                have hnc55 := NB448_451.out
                have hcz56_0 : w49.cell? ⟨gb451, 0, none⟩ = some (.int .i64 0) := (blk_cell BK451.out 0).trans rfl
                have hcz56_1 : w49.cell? ⟨gb451, 1, none⟩ = some (.int .i64 0) := (blk_cell BK451.out 1).trans rfl
                have hfz56_0 := blk_frozen BK451.out 0
                have hfz56_1 := blk_frozen BK451.out 1
                try go_wp2_with (first | ((with_reducible refine gate_callee (f := 12) rfl ?_); refine goesL_ (some 33) rfl rfl Try.func12 (by kernel_rfl) rfl #[.agg #[.int .i64 a1_0, .int .i64 a1_1, .int .i64 a1_2, .int .i64 a1_3, .int .i64 a1_4, .int .i64 a1_5, .int .i64 a1_6], .agg #[.int .i64 (Int.tmod x7_1 a0_0), .int .i64 (wrap64 (Int.tdiv x7_1 a0_0))]] rfl (by (try simp only [List.map_toArray, List.map_cons, List.map_nil]); first | done | rfl | (simp only [List.length_drop, List.length_take]; rfl)) ?_; (with_reducible refine (barrowref32_In.calls kj8 a1_0 a1_1 a1_2 a1_3 a1_4 a1_5 a1_6 (Int.tmod x7_1 a0_0) (wrap64 (Int.tdiv x7_1 a0_0)) false _ A17.out).mono ?_); rintro e w57 ⟨rfl, hb⟩; refine ⟨_, rfl, ?_⟩; have n0_ := Aside0.mk (Kd.R_below (by (with_reducible repeat (first | apply Kd.R_alloc | apply Kd.R_drewN | apply Kd.R_drew)); exact (Kd.R_mono (Kd.R_far (p := ⟨gb451, 1, none⟩) (Kd.R_far (p := ⟨gb451, 0, none⟩) (Kd.R_mono HO_6.out (fun k_ hk => (⟨hk, hk.2⟩ : _ ∧ k_ ≠ gb451))) (fun _ hk => hk.2) (.int .i64 (Int.tmod x7_1 a0_0))) (fun _ hk => hk.2) (.int .i64 (wrap64 (Int.tdiv x7_1 a0_0)))) (fun _ h_ => h_.1))) hb); have n1_ := Aside0.mk (blk_below (g := gb448) (o := .cells #[.int .i64 a0_0, .int .i64 a0_1, .slice A0_2 l0_2.length c0_2] 24 (0, 0)) (by (with_reducible repeat (first | refine blk_drewN ?_ _ | refine blk_drew ?_ | refine blk_alloc ?_ _)); refine blk_far ?_ NB448_451.out _; (with_reducible repeat (first | refine blk_drewN ?_ _ | refine blk_drew ?_ | refine blk_alloc ?_ _)); refine blk_far ?_ NB448_451.out _; (with_reducible repeat (first | refine blk_drewN ?_ _ | refine blk_drew ?_ | refine blk_alloc ?_ _)); exact BK448.out) hb); have n2_ := Aside0.mk (blk_below (g := gb449) (o := .cells #[.int .i64 a1_0, .int .i64 a1_1, .int .i64 a1_2, .int .i64 a1_3, .int .i64 a1_4, .int .i64 a1_5, .int .i64 a1_6] 28 (0, 0)) (by (with_reducible repeat (first | refine blk_drewN ?_ _ | refine blk_drew ?_ | refine blk_alloc ?_ _)); refine blk_far ?_ NB449_451.out _; (with_reducible repeat (first | refine blk_drewN ?_ _ | refine blk_drew ?_ | refine blk_alloc ?_ _)); refine blk_far ?_ NB449_451.out _; (with_reducible repeat (first | refine blk_drewN ?_ _ | refine blk_drew ?_ | refine blk_alloc ?_ _)); exact BK449.out) hb); have n3_ := Aside0.mk (blk_below (g := gb451) (o := .cells #[.int .i64 (Int.tmod x7_1 a0_0), .int .i64 (wrap64 (Int.tdiv x7_1 a0_0))] 26 (0, 0)) (by (with_reducible repeat (first | refine blk_drewN ?_ _ | refine blk_drew ?_ | refine blk_alloc ?_ _)); refine blk_put (cs := #[.int .i64 (Int.tmod x7_1 a0_0), .int .i64 0]) ?_ 1 _ rfl; (with_reducible repeat (first | refine blk_drewN ?_ _ | refine blk_drew ?_ | refine blk_alloc ?_ _)); refine blk_put (cs := #[.int .i64 0, .int .i64 0]) ?_ 0 _ rfl; (with_reducible repeat (first | refine blk_drewN ?_ _ | refine blk_drew ?_ | refine blk_alloc ?_ _)); exact BK451.out) hb); have n4_ := Aside0.mk (below_step (by repeat (first | (with_reducible first | exact HB.out | apply below_alloc | apply pw_below_drewN | apply below_drew1 | refine below_set ?_ GE448.out | refine below_set ?_ GE449.out | refine below_set ?_ GE451.out) | exact HB.out)) hb); clear HO_6; clear BK448; clear BK449; clear BK451; clear HB; have HO_6 := n0_; have BK448 := n1_; have BK449 := n2_; have BK451 := n3_; have HB := n4_; clear n0_ n1_ n2_ n3_ n4_; (try clear hb); (try clear hb2); (try clear hk); (try clear hi)))
                go_roundg kj8
                case measure => have := HK1.out; have := HJ8.out; omega
                case rel => exact ⟨(x6_1), (wrap64 (x7_1 + 1)), (by first | rfl | (simp; done) | (simp [*]; done)), H', ⟨by have := HK1.out; have := HJ8.out; omega⟩, ⟨by (with_reducible repeat (first | apply Kd.R_alloc | apply Kd.R_drewN | apply Kd.R_drew)); exact Kd.R_mono HO_6.out (fun _ hk => trivial)⟩, ⟨by (with_reducible repeat (first | refine blk_drewN ?_ _ | refine blk_drew ?_ | refine blk_alloc ?_ _)); exact BK448.out⟩, ⟨by (with_reducible repeat (first | refine blk_drewN ?_ _ | refine blk_drew ?_ | refine blk_alloc ?_ _)); exact BK449.out⟩, ⟨by repeat (first | (with_reducible first | exact HB.out | apply below_alloc | apply pw_below_drewN | apply below_drew1 | refine below_set ?_ GE448.out | refine below_set ?_ GE449.out | refine below_set ?_ GE451.out) | exact HB.out)⟩⟩
          · replace c15 := Bool.eq_false_iff.mpr c15
            subst c15
            have H1 : (some x6_1) = some r := by rw [if_neg (show ¬ (false = true) by decide)] at H; exact H
            clear H
            have H := H1
            clear H1
            obtain rfl := Option.some.inj H
            go_wp2
            go_ret
            exact ⟨_, by first | rfl | (simp [errW_none, errW_some] <;> rfl) | (simp [*, errW_none, errW_some] <;> rfl), by (with_reducible repeat (first | apply Kd.R_alloc | apply Kd.R_drewN | apply Kd.R_drew)); exact HO_6.out, by repeat (first | (with_reducible first | exact HB.out | apply below_alloc | apply pw_below_drewN | apply below_drew1 | refine below_set ?_ GE448.out | refine below_set ?_ GE449.out) | exact HB.out)⟩

end Go.Proofs.Ytofodbnnminmkaa.XAR
