-- Written by xprint.py (a program of this session) for this claim
import Derived.Test.YtljmecjciifceaaXSGx0
import Derived.Test.YtljmecjciifceaaXSGx1
import Derived.Test.YtljmecjciifceaaXSGx9
namespace Go.Proofs.Ytljmecjciifceaa.XSG
open Go.Proofs.YtljmecjciifceaaV Go.Proofs.YtljmecjciifceaaS
open Go.RowKit Go.Proofs.YtljmecjciifceaaW.PrintWords Go.Proofs.YtljmecjciifceaaW.PrintLast Go.Proofs.YtljmecjciifceaaW.PrintMore
attribute [local go_sem] max2_int min2_int max_two min_two max_three min_three max_four min_four   -- for this text's walks alone
set_option linter.unusedVariables false
set_option linter.unusedSimpArgs false

attribute [local go_sem high] eqA26
/-! ### barrowref07_Line: function 13 -/
mutual
def barrowref07_Line.l0 : Nat → Bool → Bool → List (S26) → Int → Int → Int → Int → Int → Option ((List (S26)))
  | 0, _, _, _, _, _, _, _, _ => none
  | k + 1, x7, x8, x9, x10, x446000, x446001, x447000, x447001 => if x10 ≤ (mx x446001 x447001) then (if x7 = true then (barrowref07_Line.j1 k x7 x8 x9 x10 x8 x446000 x446001 x447000 x447001) else (barrowref07_Line.j1 k x7 x8 x9 x10 false x446000 x446001 x447000 x447001)) else (barrowref07_Line.j1 k x7 x8 x9 x10 false x446000 x446001 x447000 x447001)
def barrowref07_Line.j1 : Nat → Bool → Bool → List (S26) → Int → Bool → Int → Int → Int → Int → Option ((List (S26)))
  | 0, _, _, _, _, _, _, _, _, _ => none
  | k + 1, x7, x8, x9, x10, x37, x446000, x446001, x447000, x447001 => if x37 = true then (barrowref07_Line.l1 k x7 x8 x9 x10 (mn x446000 x447000) x446000 x446001 x447000 x447001) else (some x9)
def barrowref07_Line.l1 : Nat → Bool → Bool → List (S26) → Int → Int → Int → Int → Int → Int → Option ((List (S26)))
  | 0, _, _, _, _, _, _, _, _, _ => none
  | k + 1, x7, x8, x9, x10, x11, x446000, x446001, x447000, x447001 => if x11 ≤ (mx x446000 x447000) then (if (x446000 == x447000 && (x446001 == x447001)) = true then (if x9.length < 8796093022208 then (barrowref07_Line.l1 k x7 x8 (x9 ++ [(⟨x11, x10⟩ : S26)]) x10 (wrap64 (x11 + 1)) x446000 x446001 x447000 x447001) else (none)) else ((barrowref07_touches.f k x446000 x446001 x447000 x447001 x11 x10).bind fun t453 => (if t453 = true then (if x9.length < 8796093022208 then (barrowref07_Line.l1 k x7 x8 (x9 ++ [(⟨x11, x10⟩ : S26)]) x10 (wrap64 (x11 + 1)) x446000 x446001 x447000 x447001) else (none)) else (barrowref07_Line.l1 k x7 x8 x9 x10 (wrap64 (x11 + 1)) x446000 x446001 x447000 x447001)))) else (barrowref07_Line.l0 k x7 x8 x9 (wrap64 (x10 + 1)) x446000 x446001 x447000 x447001)
end
def barrowref07_Line.f (k : Nat) (a0_0 : Int) (a0_1 : Int) (l0_2 : List Bool) (a1_0 : Int) (a1_1 : Int) (a2_0 : Int) (a2_1 : Int) : Option ((List (S26))) := (barrowref06_In.f a0_0 a0_1 l0_2 a1_0 a1_1).bind fun t447 => ((barrowref06_In.f a0_0 a0_1 l0_2 a2_0 a2_1).bind fun t448 => (barrowref07_Line.l0 k t447 t448 ([] : List (S26)) (mn a1_1 a2_1) a1_0 a1_1 a2_0 a2_1))
theorem barrowref07_Line.mono_l : ∀ k, (∀ y0 y1 y2 y3 y4 y5 y6 y7, LeO (barrowref07_Line.l0 k y0 y1 y2 y3 y4 y5 y6 y7) (barrowref07_Line.l0 (k + 1) y0 y1 y2 y3 y4 y5 y6 y7)) ∧ (∀ y0 y1 y2 y3 y4 y5 y6 y7 y8, LeO (barrowref07_Line.j1 k y0 y1 y2 y3 y4 y5 y6 y7 y8) (barrowref07_Line.j1 (k + 1) y0 y1 y2 y3 y4 y5 y6 y7 y8)) ∧ (∀ y0 y1 y2 y3 y4 y5 y6 y7 y8, LeO (barrowref07_Line.l1 k y0 y1 y2 y3 y4 y5 y6 y7 y8) (barrowref07_Line.l1 (k + 1) y0 y1 y2 y3 y4 y5 y6 y7 y8))
  | 0 => ⟨fun _ _ _ _ _ _ _ _ r h => by simp [barrowref07_Line.l0] at h, fun _ _ _ _ _ _ _ _ _ r h => by simp [barrowref07_Line.j1] at h, fun _ _ _ _ _ _ _ _ _ r h => by simp [barrowref07_Line.l1] at h⟩
  | k + 1 => by
    obtain ⟨ih0, ih1, ih2⟩ := barrowref07_Line.mono_l k
    refine ⟨?_, ?_, ?_⟩
    · intro y0 y1 y2 y3 y4 y5 y6 y7
      unfold barrowref07_Line.l0
      repeat' first
      | (with_reducible exact ih0 _ _ _ _ _ _ _ _)
      | (with_reducible exact ih1 _ _ _ _ _ _ _ _ _)
      | (with_reducible exact ih2 _ _ _ _ _ _ _ _ _)
      | (with_reducible exact barrowref07_touches.mono _ _ _ _ _ _ _)
      | (with_reducible exact LeO.refl _)
      | (with_reducible exact LeO.none _)
      | (with_reducible refine LeO.ite ?_ ?_)
      | (with_reducible refine LeO.bind ?_ (fun _ => ?_))
      | exact ih0 _ _ _ _ _ _ _ _
      | exact ih1 _ _ _ _ _ _ _ _ _
      | exact ih2 _ _ _ _ _ _ _ _ _
      | exact barrowref07_touches.mono _ _ _ _ _ _ _
      | exact LeO.none _
      | refine LeO.ite ?_ ?_
      | refine LeO.bind ?_ (fun _ => ?_)
    · intro y0 y1 y2 y3 y4 y5 y6 y7 y8
      unfold barrowref07_Line.j1
      repeat' first
      | (with_reducible exact ih0 _ _ _ _ _ _ _ _)
      | (with_reducible exact ih1 _ _ _ _ _ _ _ _ _)
      | (with_reducible exact ih2 _ _ _ _ _ _ _ _ _)
      | (with_reducible exact barrowref07_touches.mono _ _ _ _ _ _ _)
      | (with_reducible exact LeO.refl _)
      | (with_reducible exact LeO.none _)
      | (with_reducible refine LeO.ite ?_ ?_)
      | (with_reducible refine LeO.bind ?_ (fun _ => ?_))
      | exact ih0 _ _ _ _ _ _ _ _
      | exact ih1 _ _ _ _ _ _ _ _ _
      | exact ih2 _ _ _ _ _ _ _ _ _
      | exact barrowref07_touches.mono _ _ _ _ _ _ _
      | exact LeO.none _
      | refine LeO.ite ?_ ?_
      | refine LeO.bind ?_ (fun _ => ?_)
    · intro y0 y1 y2 y3 y4 y5 y6 y7 y8
      unfold barrowref07_Line.l1
      repeat' first
      | (with_reducible exact ih0 _ _ _ _ _ _ _ _)
      | (with_reducible exact ih1 _ _ _ _ _ _ _ _ _)
      | (with_reducible exact ih2 _ _ _ _ _ _ _ _ _)
      | (with_reducible exact barrowref07_touches.mono _ _ _ _ _ _ _)
      | (with_reducible exact LeO.refl _)
      | (with_reducible exact LeO.none _)
      | (with_reducible refine LeO.ite ?_ ?_)
      | (with_reducible refine LeO.bind ?_ (fun _ => ?_))
      | exact ih0 _ _ _ _ _ _ _ _
      | exact ih1 _ _ _ _ _ _ _ _ _
      | exact ih2 _ _ _ _ _ _ _ _ _
      | exact barrowref07_touches.mono _ _ _ _ _ _ _
      | exact LeO.none _
      | refine LeO.ite ?_ ?_
      | refine LeO.bind ?_ (fun _ => ?_)
theorem barrowref07_Line.mono : ∀ a0 a1 a2 a3 a4 a5 a6 k, LeO (barrowref07_Line.f k a0 a1 a2 a3 a4 a5 a6) (barrowref07_Line.f (k + 1) a0 a1 a2 a3 a4 a5 a6) := by
  intro a0 a1 a2 a3 a4 a5 a6 k
  obtain ⟨ih0, ih1, ih2⟩ := barrowref07_Line.mono_l k
  unfold barrowref07_Line.f
  repeat' first
      | (with_reducible exact ih0 _ _ _ _ _ _ _ _)
      | (with_reducible exact ih1 _ _ _ _ _ _ _ _ _)
      | (with_reducible exact ih2 _ _ _ _ _ _ _ _ _)
      | (with_reducible exact barrowref07_touches.mono _ _ _ _ _ _ _)
      | (with_reducible exact LeO.refl _)
      | (with_reducible exact LeO.none _)
      | (with_reducible refine LeO.ite ?_ ?_)
      | (with_reducible refine LeO.bind ?_ (fun _ => ?_))
      | exact ih0 _ _ _ _ _ _ _ _
      | exact ih1 _ _ _ _ _ _ _ _ _
      | exact ih2 _ _ _ _ _ _ _ _ _
      | exact barrowref07_touches.mono _ _ _ _ _ _ _
      | exact LeO.none _
      | refine LeO.ite ?_ ?_
      | refine LeO.bind ?_ (fun _ => ?_)
set_option maxHeartbeats 8000000 in
set_option maxRecDepth 100000 in
theorem barrowref07_Line.calls (k : Nat) (a0_0 : Int) (a0_1 : Int) (A0_2 : Option Addr) (c0_2 : Nat) (l0_2 : List Bool) (a1_0 : Int) (a1_1 : Int) (a2_0 : Int) (a2_1 : Int) (r : List (S26)) (w : World) (hr0_2 : Kd.C Kd.bool w A0_2 l0_2.length l0_2) (hc0_2 : l0_2.length ≤ c0_2) (h : barrowref07_Line.f k a0_0 a0_1 l0_2 a1_0 a1_1 a2_0 a2_1 = some r) :
    Calls Try.prog 13 #[.agg #[.int .i64 a0_0, .int .i64 a0_1, .slice A0_2 l0_2.length c0_2], .agg #[.int .i64 a1_0, .int .i64 a1_1], .agg #[.int .i64 a2_0, .int .i64 a2_1]] w fun e w' => ∃ v0_ : Value, e = .returned (v0_) ∧ Kd.R k26 26 w' w.heap.size (fun _ => True) v0_ r ∧ Below w.heap.size w w' := by
  have hu24 := Try.underlying24
  have hu26 := Try.underlying26
  have HR0_2 := Aside0.mk hr0_2
  have HC0_2 := Aside0.mk hc0_2
  clear hr0_2 hc0_2
  have HB := Aside0.mk (Below.refl w.heap.size w)
  have H : ((barrowref06_In.f a0_0 a0_1 l0_2 a1_0 a1_1).bind fun t447 => ((barrowref06_In.f a0_0 a0_1 l0_2 a2_0 a2_1).bind fun t448 => (barrowref07_Line.l0 k t447 t448 ([] : List (S26)) (mn a1_1 a2_1) a1_0 a1_1 a2_0 a2_1))) = some r := h
  clear h
  replace H := Option.bind_eq_some_iff.mp H
  obtain ⟨t447, A40, H⟩ := H
  replace H : ((barrowref06_In.f a0_0 a0_1 l0_2 a2_0 a2_1).bind fun t448 => (barrowref07_Line.l0 k t447 t448 ([] : List (S26)) (mn a1_1 a2_1) a1_0 a1_1 a2_0 a2_1)) = some r := H
  have A4 := Aside0.mk A40
  clear A40
  replace H := Option.bind_eq_some_iff.mp H
  obtain ⟨t448, A50, H⟩ := H
  replace H : (barrowref07_Line.l0 k t447 t448 ([] : List (S26)) (mn a1_1 a2_1) a1_0 a1_1 a2_0 a2_1) = some r := H
  have A5 := Aside0.mk A50
  clear A50
  obtain ⟨ji6, hji6⟩ : ∃ j_ : Int, (mn a1_1 a2_1) = j_ := ⟨_, rfl⟩
  replace H : (barrowref07_Line.l0 k t447 t448 ([] : List (S26)) ji6 a1_0 a1_1 a2_0 a2_1) = some r := by first | (rw [hji6] at H; exact H) | (simp only [hji6] at H ⊢; exact H)
  (try rw [hji6] at A4)
  (try rw [hji6] at A5)
  have hji6_ : (if a2_1 < a1_1 then a2_1 else a1_1) = ji6 := hji6
  have H' := Aside0.mk H
  clear H
  go_enter Try.func13, Try.ntmps13
  go_wp2_with (first | ((with_reducible refine gate_dst (N := 3) rfl ?_); refine box_event ?hg (N := 3) ?hd (cs := #[.int .i64 a0_0, .int .i64 a0_1, .slice A0_2 l0_2.length c0_2]) (t := 24) ?hr ?_; (case hd => rfl); (case hg => rfl); (case hr => first | (go_simp; done) | (go_simp; rfl)); intro gb444 hg w7 hbox hb; have n0_ := Aside0.mk (below_step (by repeat (first | (with_reducible first | exact HB.out | apply below_alloc | apply pw_below_drewN | apply below_drew1) | exact HB.out)) hb); have n1_ := Aside0.mk (hbox); have n2_ := Aside0.mk ((by rw [hg]; exact (below_size (by repeat (first | (with_reducible first | exact HB.out | apply below_alloc | apply pw_below_drewN | apply below_drew1) | exact HB.out))) : w.heap.size ≤ gb444)); have n3_ := Aside0.mk ((by rw [hg]; exact (below_size (by repeat (first | (with_reducible first | exact HB.out | apply below_alloc | apply pw_below_drewN | apply below_drew1) | exact HB.out))) : w.heap.size ≤ gb444)); clear HB; have HB := n0_; have BK444 := n1_; have GW444 := n2_; have GE444 := n3_; clear n0_ n1_ n2_ n3_; clear hb hbox hg) | ((with_reducible refine gate_dst (N := 4) rfl ?_); refine box_event ?hg (N := 4) ?hd (cs := #[.int .i64 a1_0, .int .i64 a1_1]) (t := 26) ?hr ?_; (case hd => rfl); (case hg => rfl); (case hr => first | (go_simp; done) | (go_simp; rfl)); intro gb445 hg w8 hbox hb; have n0_ := Aside0.mk (blk_below (g := gb444) (o := .cells #[.int .i64 a0_0, .int .i64 a0_1, .slice A0_2 l0_2.length c0_2] 24 (0, 0)) (by (with_reducible repeat (first | refine blk_drewN ?_ _ | refine blk_drew ?_ | refine blk_alloc ?_ _)); exact BK444.out) hb); have n1_ := Aside0.mk (below_step (by repeat (first | (with_reducible first | exact HB.out | apply below_alloc | apply pw_below_drewN | apply below_drew1 | refine below_set ?_ GE444.out) | exact HB.out)) hb); have n2_ := Aside0.mk (hbox); have n3_ := Aside0.mk ((by rw [hg]; exact (below_size (by repeat (first | (with_reducible first | exact HB.out | apply below_alloc | apply pw_below_drewN | apply below_drew1 | refine below_set ?_ GE444.out) | exact HB.out))) : w.heap.size ≤ gb445)); have n4_ := Aside0.mk ((by rw [hg]; exact (below_size (by repeat (first | (with_reducible first | exact HB.out | apply below_alloc | apply pw_below_drewN | apply below_drew1 | refine below_set ?_ GE444.out) | exact HB.out))) : w.heap.size ≤ gb445)); have n5_ := Aside0.mk ((by rw [hg]; exact Nat.ne_of_lt (blk_lt (g := gb444) (o := .cells #[.int .i64 a0_0, .int .i64 a0_1, .slice A0_2 l0_2.length c0_2] 24 (0, 0)) (by (with_reducible repeat (first | refine blk_drewN ?_ _ | refine blk_drew ?_ | refine blk_alloc ?_ _)); exact BK444.out)) : gb444 ≠ gb445)); have n6_ := Aside0.mk ((by rw [hg]; exact Nat.ne_of_gt (blk_lt (g := gb444) (o := .cells #[.int .i64 a0_0, .int .i64 a0_1, .slice A0_2 l0_2.length c0_2] 24 (0, 0)) (by (with_reducible repeat (first | refine blk_drewN ?_ _ | refine blk_drew ?_ | refine blk_alloc ?_ _)); exact BK444.out)) : gb445 ≠ gb444)); clear BK444; clear HB; have BK444 := n0_; have HB := n1_; have BK445 := n2_; have GW445 := n3_; have GE445 := n4_; have NB444_445 := n5_; have NB445_444 := n6_; clear n0_ n1_ n2_ n3_ n4_ n5_ n6_; clear hb hbox hg) | ((with_reducible refine gate_dst (N := 5) rfl ?_); refine box_event ?hg (N := 5) ?hd (cs := #[.int .i64 a2_0, .int .i64 a2_1]) (t := 26) ?hr ?_; (case hd => rfl); (case hg => rfl); (case hr => first | (go_simp; done) | (go_simp; rfl)); intro gb446 hg w9 hbox hb; have n0_ := Aside0.mk (blk_below (g := gb444) (o := .cells #[.int .i64 a0_0, .int .i64 a0_1, .slice A0_2 l0_2.length c0_2] 24 (0, 0)) (by (with_reducible repeat (first | refine blk_drewN ?_ _ | refine blk_drew ?_ | refine blk_alloc ?_ _)); exact BK444.out) hb); have n1_ := Aside0.mk (blk_below (g := gb445) (o := .cells #[.int .i64 a1_0, .int .i64 a1_1] 26 (0, 0)) (by (with_reducible repeat (first | refine blk_drewN ?_ _ | refine blk_drew ?_ | refine blk_alloc ?_ _)); exact BK445.out) hb); have n2_ := Aside0.mk (below_step (by repeat (first | (with_reducible first | exact HB.out | apply below_alloc | apply pw_below_drewN | apply below_drew1 | refine below_set ?_ GE444.out | refine below_set ?_ GE445.out) | exact HB.out)) hb); have n3_ := Aside0.mk (hbox); have n4_ := Aside0.mk ((by rw [hg]; exact (below_size (by repeat (first | (with_reducible first | exact HB.out | apply below_alloc | apply pw_below_drewN | apply below_drew1 | refine below_set ?_ GE444.out | refine below_set ?_ GE445.out) | exact HB.out))) : w.heap.size ≤ gb446)); have n5_ := Aside0.mk ((by rw [hg]; exact (below_size (by repeat (first | (with_reducible first | exact HB.out | apply below_alloc | apply pw_below_drewN | apply below_drew1 | refine below_set ?_ GE444.out | refine below_set ?_ GE445.out) | exact HB.out))) : w.heap.size ≤ gb446)); have n6_ := Aside0.mk ((by rw [hg]; exact Nat.ne_of_lt (blk_lt (g := gb444) (o := .cells #[.int .i64 a0_0, .int .i64 a0_1, .slice A0_2 l0_2.length c0_2] 24 (0, 0)) (by (with_reducible repeat (first | refine blk_drewN ?_ _ | refine blk_drew ?_ | refine blk_alloc ?_ _)); exact BK444.out)) : gb444 ≠ gb446)); have n7_ := Aside0.mk ((by rw [hg]; exact Nat.ne_of_gt (blk_lt (g := gb444) (o := .cells #[.int .i64 a0_0, .int .i64 a0_1, .slice A0_2 l0_2.length c0_2] 24 (0, 0)) (by (with_reducible repeat (first | refine blk_drewN ?_ _ | refine blk_drew ?_ | refine blk_alloc ?_ _)); exact BK444.out)) : gb446 ≠ gb444)); have n8_ := Aside0.mk ((by rw [hg]; exact Nat.ne_of_lt (blk_lt (g := gb445) (o := .cells #[.int .i64 a1_0, .int .i64 a1_1] 26 (0, 0)) (by (with_reducible repeat (first | refine blk_drewN ?_ _ | refine blk_drew ?_ | refine blk_alloc ?_ _)); exact BK445.out)) : gb445 ≠ gb446)); have n9_ := Aside0.mk ((by rw [hg]; exact Nat.ne_of_gt (blk_lt (g := gb445) (o := .cells #[.int .i64 a1_0, .int .i64 a1_1] 26 (0, 0)) (by (with_reducible repeat (first | refine blk_drewN ?_ _ | refine blk_drew ?_ | refine blk_alloc ?_ _)); exact BK445.out)) : gb446 ≠ gb445)); clear BK444; clear BK445; clear HB; have BK444 := n0_; have BK445 := n1_; have HB := n2_; have BK446 := n3_; have GW446 := n4_; have GE446 := n5_; have NB444_446 := n6_; have NB446_444 := n7_; have NB445_446 := n8_; have NB446_445 := n9_; clear n0_ n1_ n2_ n3_ n4_ n5_ n6_ n7_ n8_ n9_; clear hb hbox hg; have hnb10 := NB444_445.out; have hnc10 := NB445_444.out; have hnb11 := NB444_446.out; have hnc11 := NB446_444.out; have hcz12_0 : w9.cell? ⟨gb444, 0, none⟩ = some (.int .i64 a0_0) := (blk_cell BK444.out 0).trans rfl; have hcz12_1 : w9.cell? ⟨gb444, 1, none⟩ = some (.int .i64 a0_1) := (blk_cell BK444.out 1).trans rfl; have hcz12_2 : w9.cell? ⟨gb444, 2, none⟩ = some (.slice A0_2 l0_2.length c0_2) := (blk_cell BK444.out 2).trans rfl; have hfz12_0 := blk_frozen BK444.out 0; have hfz12_1 := blk_frozen BK444.out 1; have hfz12_2 := blk_frozen BK444.out 2; have hnb13 := NB445_446.out; have hnc13 := NB446_445.out; have hcz14_0 : w9.cell? ⟨gb445, 0, none⟩ = some (.int .i64 a1_0) := (blk_cell BK445.out 0).trans rfl; have hcz14_1 : w9.cell? ⟨gb445, 1, none⟩ = some (.int .i64 a1_1) := (blk_cell BK445.out 1).trans rfl; have hfz14_0 := blk_frozen BK445.out 0; have hfz14_1 := blk_frozen BK445.out 1) | ((with_reducible refine gate_callee (f := 31) rfl ?_); refine goesL_ (some 16) rfl rfl Try.func31 (by kernel_rfl) rfl #[.agg #[.int .i64 a0_0, .int .i64 a0_1, .slice A0_2 l0_2.length c0_2], .agg #[.int .i64 a1_0, .int .i64 a1_1]] rfl (by (try simp only [List.map_toArray, List.map_cons, List.map_nil]); first | done | rfl | (simp only [List.length_drop, List.length_take]; rfl)) ?_; (with_reducible refine (barrowref06_In.calls a0_0 a0_1 _ _ l0_2 a1_0 a1_1 t447 _ ?side1 ?side2 A4.out).mono ?_); (case side1 => repeat (first | exact (Kd.C_below HR0_2.out HB.out) | (with_reducible refine Kd.C_alloc ?_ _) | (with_reducible refine Kd.C_drewN ?_ _) | (with_reducible refine Kd.C_drew ?_))); (case side2 => exact HC0_2.out); rintro e w15 ⟨rfl, hb⟩; refine ⟨_, rfl, ?_⟩; have n0_ := Aside0.mk (blk_below (g := gb444) (o := .cells #[.int .i64 a0_0, .int .i64 a0_1, .slice A0_2 l0_2.length c0_2] 24 (0, 0)) (by (with_reducible repeat (first | refine blk_drewN ?_ _ | refine blk_drew ?_ | refine blk_alloc ?_ _)); exact BK444.out) hb); have n1_ := Aside0.mk (blk_below (g := gb445) (o := .cells #[.int .i64 a1_0, .int .i64 a1_1] 26 (0, 0)) (by (with_reducible repeat (first | refine blk_drewN ?_ _ | refine blk_drew ?_ | refine blk_alloc ?_ _)); exact BK445.out) hb); have n2_ := Aside0.mk (blk_below (g := gb446) (o := .cells #[.int .i64 a2_0, .int .i64 a2_1] 26 (0, 0)) (by (with_reducible repeat (first | refine blk_drewN ?_ _ | refine blk_drew ?_ | refine blk_alloc ?_ _)); exact BK446.out) hb); have n3_ := Aside0.mk (below_step (by repeat (first | (with_reducible first | exact HB.out | apply below_alloc | apply pw_below_drewN | apply below_drew1 | refine below_set ?_ GE444.out | refine below_set ?_ GE445.out | refine below_set ?_ GE446.out) | exact HB.out)) hb); clear BK444; clear BK445; clear BK446; clear HB; have BK444 := n0_; have BK445 := n1_; have BK446 := n2_; have HB := n3_; clear n0_ n1_ n2_ n3_; (try clear hb); (try clear hb2); (try clear hk); (try clear hi); have hcz16_0 : w15.cell? ⟨gb444, 0, none⟩ = some (.int .i64 a0_0) := (blk_cell BK444.out 0).trans rfl; have hcz16_1 : w15.cell? ⟨gb444, 1, none⟩ = some (.int .i64 a0_1) := (blk_cell BK444.out 1).trans rfl; have hcz16_2 : w15.cell? ⟨gb444, 2, none⟩ = some (.slice A0_2 l0_2.length c0_2) := (blk_cell BK444.out 2).trans rfl; have hfz16_0 := blk_frozen BK444.out 0; have hfz16_1 := blk_frozen BK444.out 1; have hfz16_2 := blk_frozen BK444.out 2; have hcz17_0 : w15.cell? ⟨gb446, 0, none⟩ = some (.int .i64 a2_0) := (blk_cell BK446.out 0).trans rfl; have hcz17_1 : w15.cell? ⟨gb446, 1, none⟩ = some (.int .i64 a2_1) := (blk_cell BK446.out 1).trans rfl; have hfz17_0 := blk_frozen BK446.out 0; have hfz17_1 := blk_frozen BK446.out 1) | ((with_reducible refine gate_callee (f := 31) rfl ?_); refine goesL_ (some 19) rfl rfl Try.func31 (by kernel_rfl) rfl #[.agg #[.int .i64 a0_0, .int .i64 a0_1, .slice A0_2 l0_2.length c0_2], .agg #[.int .i64 a2_0, .int .i64 a2_1]] rfl (by (try simp only [List.map_toArray, List.map_cons, List.map_nil]); first | done | rfl | (simp only [List.length_drop, List.length_take]; rfl)) ?_; (with_reducible refine (barrowref06_In.calls a0_0 a0_1 _ _ l0_2 a2_0 a2_1 t448 _ ?side1 ?side2 A5.out).mono ?_); (case side1 => repeat (first | exact (Kd.C_below HR0_2.out HB.out) | (with_reducible refine Kd.C_alloc ?_ _) | (with_reducible refine Kd.C_drewN ?_ _) | (with_reducible refine Kd.C_drew ?_))); (case side2 => exact HC0_2.out); rintro e w18 ⟨rfl, hb⟩; refine ⟨_, rfl, ?_⟩; have n0_ := Aside0.mk (blk_below (g := gb444) (o := .cells #[.int .i64 a0_0, .int .i64 a0_1, .slice A0_2 l0_2.length c0_2] 24 (0, 0)) (by (with_reducible repeat (first | refine blk_drewN ?_ _ | refine blk_drew ?_ | refine blk_alloc ?_ _)); exact BK444.out) hb); have n1_ := Aside0.mk (blk_below (g := gb445) (o := .cells #[.int .i64 a1_0, .int .i64 a1_1] 26 (0, 0)) (by (with_reducible repeat (first | refine blk_drewN ?_ _ | refine blk_drew ?_ | refine blk_alloc ?_ _)); exact BK445.out) hb); have n2_ := Aside0.mk (blk_below (g := gb446) (o := .cells #[.int .i64 a2_0, .int .i64 a2_1] 26 (0, 0)) (by (with_reducible repeat (first | refine blk_drewN ?_ _ | refine blk_drew ?_ | refine blk_alloc ?_ _)); exact BK446.out) hb); have n3_ := Aside0.mk (below_step (by repeat (first | (with_reducible first | exact HB.out | apply below_alloc | apply pw_below_drewN | apply below_drew1 | refine below_set ?_ GE444.out | refine below_set ?_ GE445.out | refine below_set ?_ GE446.out) | exact HB.out)) hb); clear BK444; clear BK445; clear BK446; clear HB; have BK444 := n0_; have BK445 := n1_; have BK446 := n2_; have HB := n3_; clear n0_ n1_ n2_ n3_; (try clear hb); (try clear hb2); (try clear hk); (try clear hi); have hcz19_0 : w18.cell? ⟨gb445, 0, none⟩ = some (.int .i64 a1_0) := (blk_cell BK445.out 0).trans rfl; have hcz19_1 : w18.cell? ⟨gb445, 1, none⟩ = some (.int .i64 a1_1) := (blk_cell BK445.out 1).trans rfl; have hfz19_0 := blk_frozen BK445.out 0; have hfz19_1 := blk_frozen BK445.out 1; have hcz20_0 : w18.cell? ⟨gb446, 0, none⟩ = some (.int .i64 a2_0) := (blk_cell BK446.out 0).trans rfl; have hcz20_1 : w18.cell? ⟨gb446, 1, none⟩ = some (.int .i64 a2_1) := (blk_cell BK446.out 1).trans rfl; have hfz20_0 := blk_frozen BK446.out 0; have hfz20_1 := blk_frozen BK446.out 1))
  go_loopg [9, 10] k (fun kq v9 v10 w' => ∃ (x9_1 : List (S26)) (x10_1 : Int), v10 = .int .i64 x10_1 ∧ Aside0 (barrowref07_Line.l0 kq t447 t448 x9_1 x10_1 a1_0 a1_1 a2_0 a2_1 = some r) ∧ Aside0 (kq ≤ k) ∧ Aside0 (Kd.R k26 26 w' w.heap.size (fun k_ => k_ ≠ gb445 ∧ k_ ≠ gb446) v9 x9_1) ∧ Aside0 (w'.heap[gb444]? = some (.cells #[.int .i64 a0_0, .int .i64 a0_1, (.slice A0_2 l0_2.length c0_2)] 24 (0, 0))) ∧ Aside0 (w'.heap[gb445]? = some (.cells #[.int .i64 a1_0, .int .i64 a1_1] 26 (0, 0))) ∧ Aside0 (w'.heap[gb446]? = some (.cells #[.int .i64 a2_0, .int .i64 a2_1] 26 (0, 0))) ∧ Aside0 (Below w.heap.size w w'))
  case atStart => exact ⟨(([] : List (S26))), (ji6), (by first | rfl | (simp; done) | (simp only [← hji6] <;> (first | rfl | simp)) | (simp [*]; done)), H', ⟨Nat.le_refl _⟩, ⟨by first | exact Kd.R_nil _ _ _ _ _ | exact Kd.N_nil _ _ _ _ _ | exact Kd.V_nil _ _ _ _ _ | exact Kd.Q_nil _ _ _ _ _ | exact Kd.S_nil _ _ _ _ _⟩, ⟨by (with_reducible repeat (first | refine blk_drewN ?_ _ | refine blk_drew ?_ | refine blk_alloc ?_ _)); exact BK444.out⟩, ⟨by (with_reducible repeat (first | refine blk_drewN ?_ _ | refine blk_drew ?_ | refine blk_alloc ?_ _)); exact BK445.out⟩, ⟨by (with_reducible repeat (first | refine blk_drewN ?_ _ | refine blk_drew ?_ | refine blk_alloc ?_ _)); exact BK446.out⟩, ⟨by repeat (first | (with_reducible first | exact HB.out | apply below_alloc | apply pw_below_drewN | apply below_drew1 | refine below_set ?_ GE444.out | refine below_set ?_ GE445.out | refine below_set ?_ GE446.out) | exact HB.out)⟩⟩
  case round =>
    clear H'
    try clear c1
    try clear p2
    try clear c3
    try clear c10
    try clear c11
    try clear c13
    try clear hcz12_0
    try clear hcz12_1
    try clear hcz12_2
    try clear hcz14_0
    try clear hcz14_1
    try clear hcz16_0
    try clear hcz16_1
    try clear hcz16_2
    try clear hcz17_0
    try clear hcz17_1
    try clear hcz19_0
    try clear hcz19_1
    try clear hcz20_0
    try clear hcz20_1
    try clear hfz12_0
    try clear hfz12_1
    try clear hfz12_2
    try clear hfz14_0
    try clear hfz14_1
    try clear hfz16_0
    try clear hfz16_1
    try clear hfz16_2
    try clear hfz17_0
    try clear hfz17_1
    try clear hfz19_0
    try clear hfz19_1
    try clear hfz20_0
    try clear hfz20_1
    obtain ⟨x9_1, x10_1, rfl, HA, HK1, HO_9, BK444, BK445, BK446, HB⟩ := hrel
    cases gk with
    | zero => exact absurd HA.out (by simp [barrowref07_Line.l0])
    | succ k1 =>
      have H := HA.out
      clear HA
      simp only [barrowref07_Line.l0] at H
      have HC21 := Aside0.mk H
      clear H
      go_upto_region 5 with (fail)
      go_cut [37, 7, 8] (fun v37 v7 v8 wc => ∃ (kq : Nat) (x37_20 : Bool), v37 = .bool x37_20 ∧ v7 = .bool t447 ∧ v8 = .bool t448 ∧ Aside0 (barrowref07_Line.j1 kq t447 t448 x9_1 x10_1 x37_20 a1_0 a1_1 a2_0 a2_1 = some r) ∧ Aside0 (kq ≤ k1) ∧ Aside0 (Kd.R k26 26 wc w.heap.size (fun k_ => k_ ≠ gb445 ∧ k_ ≠ gb446) u9 x9_1) ∧ Aside0 (wc.heap[gb444]? = some (.cells #[.int .i64 a0_0, .int .i64 a0_1, (.slice A0_2 l0_2.length c0_2)] 24 (0, 0))) ∧ Aside0 (wc.heap[gb445]? = some (.cells #[.int .i64 a1_0, .int .i64 a1_1] 26 (0, 0))) ∧ Aside0 (wc.heap[gb446]? = some (.cells #[.int .i64 a2_0, .int .i64 a2_1] 26 (0, 0))) ∧ Aside0 (Below w.heap.size w wc))
      case first =>
        have H := HC21.out
        clear HC21
        obtain ⟨ji22, hji22⟩ : ∃ j_ : Int, (mx a1_1 a2_1) = j_ := ⟨_, rfl⟩
        replace H : (if x10_1 ≤ (ji22) then (if t447 = true then (barrowref07_Line.j1 k1 t447 t448 x9_1 x10_1 t448 a1_0 a1_1 a2_0 a2_1) else (barrowref07_Line.j1 k1 t447 t448 x9_1 x10_1 false a1_0 a1_1 a2_0 a2_1)) else (barrowref07_Line.j1 k1 t447 t448 x9_1 x10_1 false a1_0 a1_1 a2_0 a2_1)) = some r := by first | (rw [hji22] at H; exact H) | (simp only [hji22] at H ⊢; exact H)
        have hji22_ : (if a1_1 < a2_1 then a2_1 else a1_1) = ji22 := hji22
        by_cases c23 : x10_1 ≤ (ji22)
        · rw [if_pos c23] at H
          have c23b0 : decide (x10_1 ≤ (ji22)) = true := decide_eq_true c23
          clear c23
          (first | rw [c23b0] | (simp only [i64_w, i32_w]; rw [c23b0]) | skip)
          by_cases c24 : t447 = true
          · subst c24
            have H1 : (barrowref07_Line.j1 k1 true t448 x9_1 x10_1 t448 a1_0 a1_1 a2_0 a2_1) = some r := by rw [if_pos rfl] at H; exact H
            clear H
            have H := H1
            clear H1
            have H' := Aside0.mk H
            clear H
            have hnb25 := NB445_444.out
            have hnc25 := NB444_445.out
            have hnb26 := NB445_446.out
            have hnc26 := NB446_445.out
            have hcz27_0 : wr.cell? ⟨gb445, 0, none⟩ = some (.int .i64 a1_0) := (blk_cell BK445.out 0).trans rfl
            have hcz27_1 : wr.cell? ⟨gb445, 1, none⟩ = some (.int .i64 a1_1) := (blk_cell BK445.out 1).trans rfl
            have hfz27_0 := blk_frozen BK445.out 0
            have hfz27_1 := blk_frozen BK445.out 1
            have hnb28 := NB446_444.out
            have hnc28 := NB444_446.out
            have hcz29_0 : wr.cell? ⟨gb446, 0, none⟩ = some (.int .i64 a2_0) := (blk_cell BK446.out 0).trans rfl
            have hcz29_1 : wr.cell? ⟨gb446, 1, none⟩ = some (.int .i64 a2_1) := (blk_cell BK446.out 1).trans rfl
            have hfz29_0 := blk_frozen BK446.out 0
            have hfz29_1 := blk_frozen BK446.out 1
            go_wp2
            go_meet
            case rel => exact ⟨_, (t448), (by first | rfl | (simp; done) | (simp [*]; done)), (by first | rfl | (simp; done) | (simp [*]; done)), (by first | rfl | (simp; done) | (simp [*]; done)), H', ⟨by have := HK1.out; first | omega | exact Nat.le_refl _⟩, ⟨by (with_reducible repeat (first | apply Kd.R_alloc | apply Kd.R_drewN | apply Kd.R_drew)); exact HO_9.out⟩, ⟨by (with_reducible repeat (first | refine blk_drewN ?_ _ | refine blk_drew ?_ | refine blk_alloc ?_ _)); exact BK444.out⟩, ⟨by (with_reducible repeat (first | refine blk_drewN ?_ _ | refine blk_drew ?_ | refine blk_alloc ?_ _)); exact BK445.out⟩, ⟨by (with_reducible repeat (first | refine blk_drewN ?_ _ | refine blk_drew ?_ | refine blk_alloc ?_ _)); exact BK446.out⟩, ⟨by repeat (first | (with_reducible first | exact HB.out | apply below_alloc | apply pw_below_drewN | apply below_drew1 | refine below_set ?_ GE444.out | refine below_set ?_ GE445.out | refine below_set ?_ GE446.out) | exact HB.out)⟩⟩
          · replace c24 := Bool.eq_false_iff.mpr c24
            subst c24
            have H1 : (barrowref07_Line.j1 k1 false t448 x9_1 x10_1 false a1_0 a1_1 a2_0 a2_1) = some r := by rw [if_neg (show ¬ (false = true) by decide)] at H; exact H
            clear H
            have H := H1
            clear H1
            have H' := Aside0.mk H
            clear H
            have hnb30 := NB445_444.out
            have hnc30 := NB444_445.out
            have hnb31 := NB445_446.out
            have hnc31 := NB446_445.out
            have hcz32_0 : wr.cell? ⟨gb445, 0, none⟩ = some (.int .i64 a1_0) := (blk_cell BK445.out 0).trans rfl
            have hcz32_1 : wr.cell? ⟨gb445, 1, none⟩ = some (.int .i64 a1_1) := (blk_cell BK445.out 1).trans rfl
            have hfz32_0 := blk_frozen BK445.out 0
            have hfz32_1 := blk_frozen BK445.out 1
            have hnb33 := NB446_444.out
            have hnc33 := NB444_446.out
            have hcz34_0 : wr.cell? ⟨gb446, 0, none⟩ = some (.int .i64 a2_0) := (blk_cell BK446.out 0).trans rfl
            have hcz34_1 : wr.cell? ⟨gb446, 1, none⟩ = some (.int .i64 a2_1) := (blk_cell BK446.out 1).trans rfl
            have hfz34_0 := blk_frozen BK446.out 0
            have hfz34_1 := blk_frozen BK446.out 1
            go_wp2
            go_meet
            case rel => exact ⟨_, (false), (by first | rfl | (simp; done) | (simp [*]; done)), (by first | rfl | (simp; done) | (simp [*]; done)), (by first | rfl | (simp; done) | (simp [*]; done)), H', ⟨by have := HK1.out; first | omega | exact Nat.le_refl _⟩, ⟨by (with_reducible repeat (first | apply Kd.R_alloc | apply Kd.R_drewN | apply Kd.R_drew)); exact HO_9.out⟩, ⟨by (with_reducible repeat (first | refine blk_drewN ?_ _ | refine blk_drew ?_ | refine blk_alloc ?_ _)); exact BK444.out⟩, ⟨by (with_reducible repeat (first | refine blk_drewN ?_ _ | refine blk_drew ?_ | refine blk_alloc ?_ _)); exact BK445.out⟩, ⟨by (with_reducible repeat (first | refine blk_drewN ?_ _ | refine blk_drew ?_ | refine blk_alloc ?_ _)); exact BK446.out⟩, ⟨by repeat (first | (with_reducible first | exact HB.out | apply below_alloc | apply pw_below_drewN | apply below_drew1 | refine below_set ?_ GE444.out | refine below_set ?_ GE445.out | refine below_set ?_ GE446.out) | exact HB.out)⟩⟩
        · rw [if_neg c23] at H
          have c23b0 : decide (x10_1 ≤ (ji22)) = false := decide_eq_false c23
          clear c23
          (first | rw [c23b0] | (simp only [i64_w, i32_w]; rw [c23b0]) | skip)
          have H' := Aside0.mk H
          clear H
          have hnb35 := NB445_444.out
          have hnc35 := NB444_445.out
          have hnb36 := NB445_446.out
          have hnc36 := NB446_445.out
          have hcz37_0 : wr.cell? ⟨gb445, 0, none⟩ = some (.int .i64 a1_0) := (blk_cell BK445.out 0).trans rfl
          have hcz37_1 : wr.cell? ⟨gb445, 1, none⟩ = some (.int .i64 a1_1) := (blk_cell BK445.out 1).trans rfl
          have hfz37_0 := blk_frozen BK445.out 0
          have hfz37_1 := blk_frozen BK445.out 1
          have hnb38 := NB446_444.out
          have hnc38 := NB444_446.out
          have hcz39_0 : wr.cell? ⟨gb446, 0, none⟩ = some (.int .i64 a2_0) := (blk_cell BK446.out 0).trans rfl
          have hcz39_1 : wr.cell? ⟨gb446, 1, none⟩ = some (.int .i64 a2_1) := (blk_cell BK446.out 1).trans rfl
          have hfz39_0 := blk_frozen BK446.out 0
          have hfz39_1 := blk_frozen BK446.out 1
          go_wp2
          go_meet
          case rel => exact ⟨_, (false), (by first | rfl | (simp; done) | (simp [*]; done)), (by first | rfl | (simp; done) | (simp [*]; done)), (by first | rfl | (simp; done) | (simp [*]; done)), H', ⟨by have := HK1.out; first | omega | exact Nat.le_refl _⟩, ⟨by (with_reducible repeat (first | apply Kd.R_alloc | apply Kd.R_drewN | apply Kd.R_drew)); exact HO_9.out⟩, ⟨by (with_reducible repeat (first | refine blk_drewN ?_ _ | refine blk_drew ?_ | refine blk_alloc ?_ _)); exact BK444.out⟩, ⟨by (with_reducible repeat (first | refine blk_drewN ?_ _ | refine blk_drew ?_ | refine blk_alloc ?_ _)); exact BK445.out⟩, ⟨by (with_reducible repeat (first | refine blk_drewN ?_ _ | refine blk_drew ?_ | refine blk_alloc ?_ _)); exact BK446.out⟩, ⟨by repeat (first | (with_reducible first | exact HB.out | apply below_alloc | apply pw_below_drewN | apply below_drew1 | refine below_set ?_ GE444.out | refine below_set ?_ GE445.out | refine below_set ?_ GE446.out) | exact HB.out)⟩⟩
      case rest =>
        clear HC21
        try clear c1
        try clear c2
        try clear p2
        try clear c3
        try clear c10
        try clear c11
        try clear c13
        try clear c23
        try clear c23b0
        try clear c24
        try clear c25
        try clear c26
        try clear c28
        try clear c30
        try clear c31
        try clear c33
        try clear c35
        try clear c36
        try clear c38
        try clear hcz12_0
        try clear hcz12_1
        try clear hcz12_2
        try clear hcz14_0
        try clear hcz14_1
        try clear hcz16_0
        try clear hcz16_1
        try clear hcz16_2
        try clear hcz17_0
        try clear hcz17_1
        try clear hcz19_0
        try clear hcz19_1
        try clear hcz20_0
        try clear hcz20_1
        try clear hcz27_0
        try clear hcz27_1
        try clear hcz29_0
        try clear hcz29_1
        try clear hcz32_0
        try clear hcz32_1
        try clear hcz34_0
        try clear hcz34_1
        try clear hcz37_0
        try clear hcz37_1
        try clear hcz39_0
        try clear hcz39_1
        try clear hfz12_0
        try clear hfz12_1
        try clear hfz12_2
        try clear hfz14_0
        try clear hfz14_1
        try clear hfz16_0
        try clear hfz16_1
        try clear hfz16_2
        try clear hfz17_0
        try clear hfz17_1
        try clear hfz19_0
        try clear hfz19_1
        try clear hfz20_0
        try clear hfz20_1
        try clear hfz27_0
        try clear hfz27_1
        try clear hfz29_0
        try clear hfz29_1
        try clear hfz32_0
        try clear hfz32_1
        try clear hfz34_0
        try clear hfz34_1
        try clear hfz37_0
        try clear hfz37_1
        try clear hfz39_0
        try clear hfz39_1
        try clear p2
        obtain ⟨kq, x37_20, rfl, rfl, rfl, HA, HJ20, HO_9, BK444, BK445, BK446, HB⟩ := hcut
        cases kq with
        | zero => exact absurd HA.out (by simp [barrowref07_Line.j1])
        | succ kj20 =>
          have H := HA.out
          clear HA
          simp only [barrowref07_Line.j1] at H
          by_cases c40 : x37_20 = true
          · subst c40
            have H1 : (barrowref07_Line.l1 kj20 t447 t448 x9_1 x10_1 (mn a1_0 a2_0) a1_0 a1_1 a2_0 a2_1) = some r := by rw [if_pos rfl] at H; exact H
            clear H
            have H := H1
            clear H1
            obtain ⟨ji41, hji41⟩ : ∃ j_ : Int, (mn a1_0 a2_0) = j_ := ⟨_, rfl⟩
            replace H : (barrowref07_Line.l1 kj20 t447 t448 x9_1 x10_1 ji41 a1_0 a1_1 a2_0 a2_1) = some r := by first | (rw [hji41] at H; exact H) | (simp only [hji41] at H ⊢; exact H)
            have hji41_ : (if a2_0 < a1_0 then a2_0 else a1_0) = ji41 := hji41
            have H' := Aside0.mk H
            clear H
            have hnb42 := NB445_444.out
            have hnc42 := NB444_445.out
            have hnb43 := NB445_446.out
            have hnc43 := NB446_445.out
            have hcz44_0 : wc.cell? ⟨gb445, 0, none⟩ = some (.int .i64 a1_0) := (blk_cell BK445.out 0).trans rfl
            have hcz44_1 : wc.cell? ⟨gb445, 1, none⟩ = some (.int .i64 a1_1) := (blk_cell BK445.out 1).trans rfl
            have hfz44_0 := blk_frozen BK445.out 0
            have hfz44_1 := blk_frozen BK445.out 1
            have hnb45 := NB446_444.out
            have hnc45 := NB444_446.out
            have hcz46_0 : wc.cell? ⟨gb446, 0, none⟩ = some (.int .i64 a2_0) := (blk_cell BK446.out 0).trans rfl
            have hcz46_1 : wc.cell? ⟨gb446, 1, none⟩ = some (.int .i64 a2_1) := (blk_cell BK446.out 1).trans rfl
            have hfz46_0 := blk_frozen BK446.out 0
            have hfz46_1 := blk_frozen BK446.out 1
            go_wp2
            go_loopg [9, 11] kj20 (fun kq v9 v11 w' => ∃ (x9_3 : List (S26)) (x11_3 : Int), v11 = .int .i64 x11_3 ∧ Aside0 (barrowref07_Line.l1 kq t447 t448 x9_3 x10_1 x11_3 a1_0 a1_1 a2_0 a2_1 = some r) ∧ Aside0 (kq ≤ kj20) ∧ Aside0 (Kd.R k26 26 w' w.heap.size (fun k_ => k_ ≠ gb445 ∧ k_ ≠ gb446) v9 x9_3) ∧ Aside0 (w'.heap[gb444]? = some (.cells #[.int .i64 a0_0, .int .i64 a0_1, (.slice A0_2 l0_2.length c0_2)] 24 (0, 0))) ∧ Aside0 (w'.heap[gb445]? = some (.cells #[.int .i64 a1_0, .int .i64 a1_1] 26 (0, 0))) ∧ Aside0 (w'.heap[gb446]? = some (.cells #[.int .i64 a2_0, .int .i64 a2_1] 26 (0, 0))) ∧ Aside0 (Below w.heap.size w w'))
            case atStart => exact ⟨(x9_1), (ji41), (by first | rfl | (simp; done) | (simp only [← hji41] <;> (first | rfl | simp)) | (simp [*]; done)), H', ⟨Nat.le_refl _⟩, ⟨by (with_reducible repeat (first | apply Kd.R_alloc | apply Kd.R_drewN | apply Kd.R_drew)); exact HO_9.out⟩, ⟨by (with_reducible repeat (first | refine blk_drewN ?_ _ | refine blk_drew ?_ | refine blk_alloc ?_ _)); exact BK444.out⟩, ⟨by (with_reducible repeat (first | refine blk_drewN ?_ _ | refine blk_drew ?_ | refine blk_alloc ?_ _)); exact BK445.out⟩, ⟨by (with_reducible repeat (first | refine blk_drewN ?_ _ | refine blk_drew ?_ | refine blk_alloc ?_ _)); exact BK446.out⟩, ⟨by repeat (first | (with_reducible first | exact HB.out | apply below_alloc | apply pw_below_drewN | apply below_drew1 | refine below_set ?_ GE444.out | refine below_set ?_ GE445.out | refine below_set ?_ GE446.out) | exact HB.out)⟩⟩
            case round =>
              clear H'
              try clear c1
              try clear c2
              try clear p2
              try clear c3
              try clear c4
              try clear c10
              try clear c11
              try clear c13
              try clear c23
              try clear c23b0
              try clear c24
              try clear c25
              try clear c26
              try clear c28
              try clear c30
              try clear c31
              try clear c33
              try clear c35
              try clear c36
              try clear c38
              try clear c40
              try clear c42
              try clear c43
              try clear c45
              try clear hcz12_0
              try clear hcz12_1
              try clear hcz12_2
              try clear hcz14_0
              try clear hcz14_1
              try clear hcz16_0
              try clear hcz16_1
              try clear hcz16_2
              try clear hcz17_0
              try clear hcz17_1
              try clear hcz19_0
              try clear hcz19_1
              try clear hcz20_0
              try clear hcz20_1
              try clear hcz27_0
              try clear hcz27_1
              try clear hcz29_0
              try clear hcz29_1
              try clear hcz32_0
              try clear hcz32_1
              try clear hcz34_0
              try clear hcz34_1
              try clear hcz37_0
              try clear hcz37_1
              try clear hcz39_0
              try clear hcz39_1
              try clear hcz44_0
              try clear hcz44_1
              try clear hcz46_0
              try clear hcz46_1
              try clear hfz12_0
              try clear hfz12_1
              try clear hfz12_2
              try clear hfz14_0
              try clear hfz14_1
              try clear hfz16_0
              try clear hfz16_1
              try clear hfz16_2
              try clear hfz17_0
              try clear hfz17_1
              try clear hfz19_0
              try clear hfz19_1
              try clear hfz20_0
              try clear hfz20_1
              try clear hfz27_0
              try clear hfz27_1
              try clear hfz29_0
              try clear hfz29_1
              try clear hfz32_0
              try clear hfz32_1
              try clear hfz34_0
              try clear hfz34_1
              try clear hfz37_0
              try clear hfz37_1
              try clear hfz39_0
              try clear hfz39_1
              try clear hfz44_0
              try clear hfz44_1
              try clear hfz46_0
              try clear hfz46_1
              try clear p2
              obtain ⟨x9_3, x11_3, rfl, HA, HK3, HO_9, BK444, BK445, BK446, HB⟩ := hrel
              cases gk with
              | zero => exact absurd HA.out (by simp [barrowref07_Line.l1])
              | succ k3 =>
                have H := HA.out
                clear HA
                simp only [barrowref07_Line.l1] at H
                obtain ⟨ji47, hji47⟩ : ∃ j_ : Int, (mx a1_0 a2_0) = j_ := ⟨_, rfl⟩
                replace H : (if x11_3 ≤ (ji47) then (if (a1_0 == a2_0 && (a1_1 == a2_1)) = true then (if x9_3.length < 8796093022208 then (barrowref07_Line.l1 k3 t447 t448 (x9_3 ++ [(⟨x11_3, x10_1⟩ : S26)]) x10_1 (wrap64 (x11_3 + 1)) a1_0 a1_1 a2_0 a2_1) else (none)) else ((barrowref07_touches.f k3 a1_0 a1_1 a2_0 a2_1 x11_3 x10_1).bind fun t453 => (if t453 = true then (if x9_3.length < 8796093022208 then (barrowref07_Line.l1 k3 t447 t448 (x9_3 ++ [(⟨x11_3, x10_1⟩ : S26)]) x10_1 (wrap64 (x11_3 + 1)) a1_0 a1_1 a2_0 a2_1) else (none)) else (barrowref07_Line.l1 k3 t447 t448 x9_3 x10_1 (wrap64 (x11_3 + 1)) a1_0 a1_1 a2_0 a2_1)))) else (barrowref07_Line.l0 k3 t447 t448 x9_3 (wrap64 (x10_1 + 1)) a1_0 a1_1 a2_0 a2_1)) = some r := by first | (rw [hji47] at H; exact H) | (simp only [hji47] at H ⊢; exact H)
                have hji47_ : (if a1_0 < a2_0 then a2_0 else a1_0) = ji47 := hji47
                by_cases c48 : x11_3 ≤ (ji47)
                · rw [if_pos c48] at H
                  have c48b0 : decide (x11_3 ≤ (ji47)) = true := decide_eq_true c48
                  clear c48
                  by_cases c49 : (a1_0 == a2_0 && (a1_1 == a2_1)) = true
                  · rw [if_pos c49] at H
                    have c49b0 : (a1_0 == a2_0 && (a1_1 == a2_1)) = true := c49
                    (try (have c49b1 : decide (a1_0 = a2_0 && (a1_1 == a2_1)) = true := by simpa using c49))
                    (try (have c49b2 : (a1_0 == a2_0 && (a1_1 == a2_1)) = true := by simpa using c49))
                    clear c49
                    by_cases c50 : x9_3.length < 8796093022208
                    · rw [if_pos c50] at H
                      have LMc50 := Aside0.mk c50
                      clear c50
                      obtain ⟨y450, hy450⟩ : ∃ y_ : List (S26), y_ = (x9_3 ++ [(⟨x11_3, x10_1⟩ : S26)]) := ⟨_, rfl⟩
                      replace H : (barrowref07_Line.l1 k3 t447 t448 y450 x10_1 (wrap64 (x11_3 + 1)) a1_0 a1_1 a2_0 a2_1) = some r := by first | (rw [hy450]; with_reducible exact H) | (have H2_ := (Option.bind_some _ _).symm.trans H; rw [hy450]; with_reducible exact H2_) | (have H2_ := (Option.bind_some _ _).symm.trans H; with_reducible exact H2_) | with_reducible exact H | (rw [hy450]; exact H) | exact H
                      have Ny450 := Aside0.mk hy450
                      clear hy450
                      have H' := Aside0.mk H
                      clear H
                      have hnb51 := NB445_444.out
                      have hnc51 := NB444_445.out
                      have hnb52 := NB445_446.out
                      have hnc52 := NB446_445.out
                      have hcz53_0 : wr.cell? ⟨gb445, 0, none⟩ = some (.int .i64 a1_0) := (blk_cell BK445.out 0).trans rfl
                      have hcz53_1 : wr.cell? ⟨gb445, 1, none⟩ = some (.int .i64 a1_1) := (blk_cell BK445.out 1).trans rfl
                      have hfz53_0 := blk_frozen BK445.out 0
                      have hfz53_1 := blk_frozen BK445.out 1
                      have hnb54 := NB446_444.out
                      have hnc54 := NB444_446.out
                      have hcz55_0 : wr.cell? ⟨gb446, 0, none⟩ = some (.int .i64 a2_0) := (blk_cell BK446.out 0).trans rfl
                      have hcz55_1 : wr.cell? ⟨gb446, 1, none⟩ = some (.int .i64 a2_1) := (blk_cell BK446.out 1).trans rfl
                      have hfz55_0 := blk_frozen BK446.out 0
                      have hfz55_1 := blk_frozen BK446.out 1
                      go_wp2_with (first | ((with_reducible refine gate_dst (N := 12) rfl ?_); refine box_event ?hg (N := 12) ?hd (cs := #[.int .i64 0, .int .i64 0]) (t := 26) ?hr ?_; (case hd => rfl); (case hg => rfl); (case hr => first | (go_simp; done) | (go_simp; rfl)); intro gb449 hg w56 hbox hb; have n0_ := Aside0.mk (Kd.R_below (Kd.R_elderB (by (with_reducible repeat (first | apply Kd.R_alloc | apply Kd.R_drewN | apply Kd.R_drew)); exact HO_9.out) gb449 (Nat.le_of_eq hg.symm)) hb); have n1_ := Aside0.mk (blk_below (g := gb444) (o := .cells #[.int .i64 a0_0, .int .i64 a0_1, .slice A0_2 l0_2.length c0_2] 24 (0, 0)) (by (with_reducible repeat (first | refine blk_drewN ?_ _ | refine blk_drew ?_ | refine blk_alloc ?_ _)); exact BK444.out) hb); have n2_ := Aside0.mk (blk_below (g := gb445) (o := .cells #[.int .i64 a1_0, .int .i64 a1_1] 26 (0, 0)) (by (with_reducible repeat (first | refine blk_drewN ?_ _ | refine blk_drew ?_ | refine blk_alloc ?_ _)); exact BK445.out) hb); have n3_ := Aside0.mk (blk_below (g := gb446) (o := .cells #[.int .i64 a2_0, .int .i64 a2_1] 26 (0, 0)) (by (with_reducible repeat (first | refine blk_drewN ?_ _ | refine blk_drew ?_ | refine blk_alloc ?_ _)); exact BK446.out) hb); have n4_ := Aside0.mk (below_step (by repeat (first | (with_reducible first | exact HB.out | apply below_alloc | apply pw_below_drewN | apply below_drew1 | refine below_set ?_ GE444.out | refine below_set ?_ GE445.out | refine below_set ?_ GE446.out) | exact HB.out)) hb); have n5_ := Aside0.mk (hbox); have n6_ := Aside0.mk ((by rw [hg]; exact (below_size (by repeat (first | (with_reducible first | exact HB.out | apply below_alloc | apply pw_below_drewN | apply below_drew1 | refine below_set ?_ GE444.out | refine below_set ?_ GE445.out | refine below_set ?_ GE446.out) | exact HB.out))) : w.heap.size ≤ gb449)); have n7_ := Aside0.mk ((by rw [hg]; exact (below_size (by repeat (first | (with_reducible first | exact HB.out | apply below_alloc | apply pw_below_drewN | apply below_drew1 | refine below_set ?_ GE444.out | refine below_set ?_ GE445.out | refine below_set ?_ GE446.out) | exact HB.out))) : w.heap.size ≤ gb449)); have n8_ := Aside0.mk ((by rw [hg]; exact Nat.ne_of_lt (blk_lt (g := gb444) (o := .cells #[.int .i64 a0_0, .int .i64 a0_1, .slice A0_2 l0_2.length c0_2] 24 (0, 0)) (by (with_reducible repeat (first | refine blk_drewN ?_ _ | refine blk_drew ?_ | refine blk_alloc ?_ _)); exact BK444.out)) : gb444 ≠ gb449)); have n9_ := Aside0.mk ((by rw [hg]; exact Nat.ne_of_gt (blk_lt (g := gb444) (o := .cells #[.int .i64 a0_0, .int .i64 a0_1, .slice A0_2 l0_2.length c0_2] 24 (0, 0)) (by (with_reducible repeat (first | refine blk_drewN ?_ _ | refine blk_drew ?_ | refine blk_alloc ?_ _)); exact BK444.out)) : gb449 ≠ gb444)); have n10_ := Aside0.mk ((by rw [hg]; exact Nat.ne_of_lt (blk_lt (g := gb445) (o := .cells #[.int .i64 a1_0, .int .i64 a1_1] 26 (0, 0)) (by (with_reducible repeat (first | refine blk_drewN ?_ _ | refine blk_drew ?_ | refine blk_alloc ?_ _)); exact BK445.out)) : gb445 ≠ gb449)); have n11_ := Aside0.mk ((by rw [hg]; exact Nat.ne_of_gt (blk_lt (g := gb445) (o := .cells #[.int .i64 a1_0, .int .i64 a1_1] 26 (0, 0)) (by (with_reducible repeat (first | refine blk_drewN ?_ _ | refine blk_drew ?_ | refine blk_alloc ?_ _)); exact BK445.out)) : gb449 ≠ gb445)); have n12_ := Aside0.mk ((by rw [hg]; exact Nat.ne_of_lt (blk_lt (g := gb446) (o := .cells #[.int .i64 a2_0, .int .i64 a2_1] 26 (0, 0)) (by (with_reducible repeat (first | refine blk_drewN ?_ _ | refine blk_drew ?_ | refine blk_alloc ?_ _)); exact BK446.out)) : gb446 ≠ gb449)); have n13_ := Aside0.mk ((by rw [hg]; exact Nat.ne_of_gt (blk_lt (g := gb446) (o := .cells #[.int .i64 a2_0, .int .i64 a2_1] 26 (0, 0)) (by (with_reducible repeat (first | refine blk_drewN ?_ _ | refine blk_drew ?_ | refine blk_alloc ?_ _)); exact BK446.out)) : gb449 ≠ gb446)); clear HO_9; clear BK444; clear BK445; clear BK446; clear HB; have HO_9 := n0_; have BK444 := n1_; have BK445 := n2_; have BK446 := n3_; have HB := n4_; have BK449 := n5_; have GW449 := n6_; have GE449 := n7_; have NB444_449 := n8_; have NB449_444 := n9_; have NB445_449 := n10_; have NB449_445 := n11_; have NB446_449 := n12_; have NB449_446 := n13_; clear n0_ n1_ n2_ n3_ n4_ n5_ n6_ n7_ n8_ n9_ n10_ n11_ n12_ n13_; clear hb hbox hg; have hnb57 := NB449_444.out; have hnc57 := NB444_449.out; have hnb58 := NB449_445.out; have hnc58 := NB445_449.out; have hnb59 := NB449_446.out; have hnc59 := NB446_449.out; have hcz60_0 : w56.cell? ⟨gb449, 0, none⟩ = some (.int .i64 0) := (blk_cell BK449.out 0).trans rfl; have hcz60_1 : w56.cell? ⟨gb449, 1, none⟩ = some (.int .i64 0) := (blk_cell BK449.out 1).trans rfl; have hfz60_0 := blk_frozen BK449.out 0; have hfz60_1 := blk_frozen BK449.out 1; have hcz61_0 : w56.cell? ⟨gb445, 0, none⟩ = some (.int .i64 a1_0) := (blk_cell BK445.out 0).trans rfl; have hcz61_1 : w56.cell? ⟨gb445, 1, none⟩ = some (.int .i64 a1_1) := (blk_cell BK445.out 1).trans rfl; have hfz61_0 := blk_frozen BK445.out 0; have hfz61_1 := blk_frozen BK445.out 1; have hcz62_0 : w56.cell? ⟨gb446, 0, none⟩ = some (.int .i64 a2_0) := (blk_cell BK446.out 0).trans rfl; have hcz62_1 : w56.cell? ⟨gb446, 1, none⟩ = some (.int .i64 a2_1) := (blk_cell BK446.out 1).trans rfl; have hfz62_0 := blk_frozen BK446.out 0; have hfz62_1 := blk_frozen BK446.out 1) | ((with_reducible refine gate_builtin (b := .append) (xs := #[.tmp 67, .tmp 69]) rfl ?_); at_builtin; refine Kd.R_append k26 (w0 := w) w.heap.size rfl (.tmp 67) (.tmp 69) 32 26 (.agg #[(.int .i64 0), (.int .i64 0)]) 16 rfl Try.underlying32 info26 rfl (by decide) (by omega) u9 x9_3 (⟨x11_3, x10_1⟩ : S26) [.int .i64 x11_3, .int .i64 x10_1] (fun k_ => k_ ≠ gb445 ∧ k_ ≠ gb446 ∧ k_ ≠ gb449) (fun _ => False) rfl (by first | (go_simp; done) | (go_simp; rfl)) ?aP (fun _ hk => hk.elim) ?aF ?aO ?aB ?aS ?aL ?_; (case aP => exact k26_mkM _ _ _ (⟨x11_3, x10_1⟩ : S26)); (case aB => exact (by repeat (first | (with_reducible first | exact HB.out | apply below_alloc | apply pw_below_drewN | apply below_drew1 | refine below_set ?_ GE444.out | refine below_set ?_ GE445.out | refine below_set ?_ GE446.out | refine below_set ?_ GE449.out) | exact HB.out))); (case aF => exact (fun k_ hk => ⟨Kd.freshB (g := gb445) (o := .cells #[.int .i64 a1_0, .int .i64 a1_1] 26 (0, 0)) (by (with_reducible repeat (first | refine blk_drewN ?_ _ | refine blk_drew ?_ | refine blk_alloc ?_ _)); refine blk_far ?_ NB445_449.out _; (with_reducible repeat (first | refine blk_drewN ?_ _ | refine blk_drew ?_ | refine blk_alloc ?_ _)); refine blk_far ?_ NB445_449.out _; (with_reducible repeat (first | refine blk_drewN ?_ _ | refine blk_drew ?_ | refine blk_alloc ?_ _)); exact BK445.out) k_ hk, Kd.freshB (g := gb446) (o := .cells #[.int .i64 a2_0, .int .i64 a2_1] 26 (0, 0)) (by (with_reducible repeat (first | refine blk_drewN ?_ _ | refine blk_drew ?_ | refine blk_alloc ?_ _)); refine blk_far ?_ NB446_449.out _; (with_reducible repeat (first | refine blk_drewN ?_ _ | refine blk_drew ?_ | refine blk_alloc ?_ _)); refine blk_far ?_ NB446_449.out _; (with_reducible repeat (first | refine blk_drewN ?_ _ | refine blk_drew ?_ | refine blk_alloc ?_ _)); exact BK446.out) k_ hk, Kd.freshB (g := gb449) (o := .cells #[.int .i64 x11_3, .int .i64 x10_1] 26 (0, 0)) (by (with_reducible repeat (first | refine blk_drewN ?_ _ | refine blk_drew ?_ | refine blk_alloc ?_ _)); refine blk_put (cs := #[.int .i64 x11_3, .int .i64 0]) ?_ 1 _ rfl; (with_reducible repeat (first | refine blk_drewN ?_ _ | refine blk_drew ?_ | refine blk_alloc ?_ _)); refine blk_put (cs := #[.int .i64 0, .int .i64 0]) ?_ 0 _ rfl; (with_reducible repeat (first | refine blk_drewN ?_ _ | refine blk_drew ?_ | refine blk_alloc ?_ _)); exact BK449.out) k_ hk⟩)); (case aO => exact (by (with_reducible repeat (first | apply Kd.R_alloc | apply Kd.R_drewN | apply Kd.R_drew)); exact Kd.R_mono (Kd.R_far (p := ⟨gb449, 1, none⟩) (Kd.R_far (p := ⟨gb449, 0, none⟩) (Kd.R_mono HO_9.out (fun k_ hk => (⟨hk, hk.2⟩ : _ ∧ k_ ≠ gb449))) (fun _ hk => hk.2) (.int .i64 x11_3)) (fun _ hk => hk.2) (.int .i64 x10_1)) (fun _ hk => ⟨hk.1.1.1, ⟨hk.1.1.2, hk.1.2⟩⟩))); (case aS => exact (below_size (by repeat (first | (with_reducible first | exact HB.out | apply below_alloc | apply pw_below_drewN | apply below_drew1 | refine below_set ?_ GE444.out | refine below_set ?_ GE445.out | refine below_set ?_ GE446.out | refine below_set ?_ GE449.out) | exact HB.out)))); (case aL => have := LMc50.out; omega); intro v451 w63 ho hb hg hat; rw [← Ny450.out] at ho; have n0_ := Aside0.mk (blk_grown (g := gb444) (o := .cells #[.int .i64 a0_0, .int .i64 a0_1, .slice A0_2 l0_2.length c0_2] 24 (0, 0)) (by (with_reducible repeat (first | refine blk_drewN ?_ _ | refine blk_drew ?_ | refine blk_alloc ?_ _)); refine blk_far ?_ NB444_449.out _; (with_reducible repeat (first | refine blk_drewN ?_ _ | refine blk_drew ?_ | refine blk_alloc ?_ _)); refine blk_far ?_ NB444_449.out _; (with_reducible repeat (first | refine blk_drewN ?_ _ | refine blk_drew ?_ | refine blk_alloc ?_ _)); exact BK444.out) hg (Kd.R_ne HO_9.out BK444.out (by decide))); have n1_ := Aside0.mk (blk_grown (g := gb445) (o := .cells #[.int .i64 a1_0, .int .i64 a1_1] 26 (0, 0)) (by (with_reducible repeat (first | refine blk_drewN ?_ _ | refine blk_drew ?_ | refine blk_alloc ?_ _)); refine blk_far ?_ NB445_449.out _; (with_reducible repeat (first | refine blk_drewN ?_ _ | refine blk_drew ?_ | refine blk_alloc ?_ _)); refine blk_far ?_ NB445_449.out _; (with_reducible repeat (first | refine blk_drewN ?_ _ | refine blk_drew ?_ | refine blk_alloc ?_ _)); exact BK445.out) hg (Kd.R_away HO_9.out (fun _ hk => hk.1.1))); have n2_ := Aside0.mk (blk_grown (g := gb446) (o := .cells #[.int .i64 a2_0, .int .i64 a2_1] 26 (0, 0)) (by (with_reducible repeat (first | refine blk_drewN ?_ _ | refine blk_drew ?_ | refine blk_alloc ?_ _)); refine blk_far ?_ NB446_449.out _; (with_reducible repeat (first | refine blk_drewN ?_ _ | refine blk_drew ?_ | refine blk_alloc ?_ _)); refine blk_far ?_ NB446_449.out _; (with_reducible repeat (first | refine blk_drewN ?_ _ | refine blk_drew ?_ | refine blk_alloc ?_ _)); exact BK446.out) hg (Kd.R_away HO_9.out (fun _ hk => hk.1.2))); have n3_ := Aside0.mk (blk_grown (g := gb449) (o := .cells #[.int .i64 x11_3, .int .i64 x10_1] 26 (0, 0)) (by (with_reducible repeat (first | refine blk_drewN ?_ _ | refine blk_drew ?_ | refine blk_alloc ?_ _)); refine blk_put (cs := #[.int .i64 x11_3, .int .i64 0]) ?_ 1 _ rfl; (with_reducible repeat (first | refine blk_drewN ?_ _ | refine blk_drew ?_ | refine blk_alloc ?_ _)); refine blk_put (cs := #[.int .i64 0, .int .i64 0]) ?_ 0 _ rfl; (with_reducible repeat (first | refine blk_drewN ?_ _ | refine blk_drew ?_ | refine blk_alloc ?_ _)); exact BK449.out) hg (Kd.R_away HO_9.out (fun _ hk => hk.2))); have n4_ := Aside0.mk (hb); have n5_ := Aside0.mk (ho); clear BK444; clear BK445; clear BK446; clear BK449; clear HB; clear HO_9; have BK444 := n0_; have BK445 := n1_; have BK446 := n2_; have BK449 := n3_; have HB := n4_; have HO452 := n5_; clear n0_ n1_ n2_ n3_ n4_ n5_; clear ho hb hg hat))
                      go_roundg k3
                      case measure => have := HK1.out; have := HJ20.out; have := HK3.out; omega
                      case rel => exact ⟨(y450), (wrap64 (x11_3 + 1)), (by first | rfl | (simp; done) | (simp [*]; done)), H', ⟨by have := HK1.out; have := HJ20.out; have := HK3.out; omega⟩, ⟨by (with_reducible repeat (first | apply Kd.R_alloc | apply Kd.R_drewN | apply Kd.R_drew)); exact Kd.R_mono HO452.out (fun _ hk => ⟨hk.1, hk.2.1⟩)⟩, ⟨by (with_reducible repeat (first | refine blk_drewN ?_ _ | refine blk_drew ?_ | refine blk_alloc ?_ _)); exact BK444.out⟩, ⟨by (with_reducible repeat (first | refine blk_drewN ?_ _ | refine blk_drew ?_ | refine blk_alloc ?_ _)); exact BK445.out⟩, ⟨by (with_reducible repeat (first | refine blk_drewN ?_ _ | refine blk_drew ?_ | refine blk_alloc ?_ _)); exact BK446.out⟩, ⟨by repeat (first | (with_reducible first | exact HB.out | apply below_alloc | apply pw_below_drewN | apply below_drew1 | refine below_set ?_ GE444.out | refine below_set ?_ GE445.out | refine below_set ?_ GE446.out | refine below_set ?_ GE449.out) | exact HB.out)⟩⟩
                    · rw [if_neg c50] at H
                      exact absurd H (by simp)
                  · rw [if_neg c49] at H
                    have c49b0 : (a1_0 == a2_0 && (a1_1 == a2_1)) = false := by simpa using c49
                    (try (have c49b1 : decide (a1_0 = a2_0 && (a1_1 == a2_1)) = false := by simpa using c49))
                    (try (have c49b2 : (a1_0 == a2_0 && (a1_1 == a2_1)) = false := by simpa using c49))
                    (try (have c49b3 : ¬ (a1_0 = a2_0 && (a1_1 == a2_1)) := by simpa using c49))
                    clear c49
                    replace H := Option.bind_eq_some_iff.mp H
                    obtain ⟨t453, A640, H⟩ := H
                    replace H : (if t453 = true then (if x9_3.length < 8796093022208 then (barrowref07_Line.l1 k3 t447 t448 (x9_3 ++ [(⟨x11_3, x10_1⟩ : S26)]) x10_1 (wrap64 (x11_3 + 1)) a1_0 a1_1 a2_0 a2_1) else (none)) else (barrowref07_Line.l1 k3 t447 t448 x9_3 x10_1 (wrap64 (x11_3 + 1)) a1_0 a1_1 a2_0 a2_1)) = some r := H
                    have A64 := Aside0.mk A640
                    clear A640
                    by_cases c65 : t453 = true
                    · subst c65
                      have H1 : (if x9_3.length < 8796093022208 then (barrowref07_Line.l1 k3 t447 t448 (x9_3 ++ [(⟨x11_3, x10_1⟩ : S26)]) x10_1 (wrap64 (x11_3 + 1)) a1_0 a1_1 a2_0 a2_1) else (none)) = some r := by rw [if_pos rfl] at H; exact H
                      clear H
                      have H := H1
                      clear H1
                      by_cases c66 : x9_3.length < 8796093022208
                      · rw [if_pos c66] at H
                        have LMc66 := Aside0.mk c66
                        clear c66
                        obtain ⟨y454, hy454⟩ : ∃ y_ : List (S26), y_ = (x9_3 ++ [(⟨x11_3, x10_1⟩ : S26)]) := ⟨_, rfl⟩
                        replace H : (barrowref07_Line.l1 k3 t447 t448 y454 x10_1 (wrap64 (x11_3 + 1)) a1_0 a1_1 a2_0 a2_1) = some r := by first | (rw [hy454]; with_reducible exact H) | (have H2_ := (Option.bind_some _ _).symm.trans H; rw [hy454]; with_reducible exact H2_) | (have H2_ := (Option.bind_some _ _).symm.trans H; with_reducible exact H2_) | with_reducible exact H | (rw [hy454]; exact H) | exact H
                        have Ny454 := Aside0.mk hy454
                        clear hy454
                        have H' := Aside0.mk H
                        clear H
                        have hnb67 := NB445_444.out
                        have hnc67 := NB444_445.out
                        have hnb68 := NB445_446.out
                        have hnc68 := NB446_445.out
                        have hcz69_0 : wr.cell? ⟨gb445, 0, none⟩ = some (.int .i64 a1_0) := (blk_cell BK445.out 0).trans rfl
                        have hcz69_1 : wr.cell? ⟨gb445, 1, none⟩ = some (.int .i64 a1_1) := (blk_cell BK445.out 1).trans rfl
                        have hfz69_0 := blk_frozen BK445.out 0
                        have hfz69_1 := blk_frozen BK445.out 1
                        have hnb70 := NB446_444.out
                        have hnc70 := NB444_446.out
                        have hcz71_0 : wr.cell? ⟨gb446, 0, none⟩ = some (.int .i64 a2_0) := (blk_cell BK446.out 0).trans rfl
                        have hcz71_1 : wr.cell? ⟨gb446, 1, none⟩ = some (.int .i64 a2_1) := (blk_cell BK446.out 1).trans rfl
                        have hfz71_0 := blk_frozen BK446.out 0
                        have hfz71_1 := blk_frozen BK446.out 1
                        go_wp2_with (first | ((with_reducible refine gate_dst (N := 12) rfl ?_); refine box_event ?hg (N := 12) ?hd (cs := #[.int .i64 0, .int .i64 0]) (t := 26) ?hr ?_; (case hd => rfl); (case hg => rfl); (case hr => first | (go_simp; done) | (go_simp; rfl)); intro gb449 hg w72 hbox hb; have n0_ := Aside0.mk (Kd.R_below (Kd.R_elderB (by (with_reducible repeat (first | apply Kd.R_alloc | apply Kd.R_drewN | apply Kd.R_drew)); exact HO_9.out) gb449 (Nat.le_of_eq hg.symm)) hb); have n1_ := Aside0.mk (blk_below (g := gb444) (o := .cells #[.int .i64 a0_0, .int .i64 a0_1, .slice A0_2 l0_2.length c0_2] 24 (0, 0)) (by (with_reducible repeat (first | refine blk_drewN ?_ _ | refine blk_drew ?_ | refine blk_alloc ?_ _)); exact BK444.out) hb); have n2_ := Aside0.mk (blk_below (g := gb445) (o := .cells #[.int .i64 a1_0, .int .i64 a1_1] 26 (0, 0)) (by (with_reducible repeat (first | refine blk_drewN ?_ _ | refine blk_drew ?_ | refine blk_alloc ?_ _)); exact BK445.out) hb); have n3_ := Aside0.mk (blk_below (g := gb446) (o := .cells #[.int .i64 a2_0, .int .i64 a2_1] 26 (0, 0)) (by (with_reducible repeat (first | refine blk_drewN ?_ _ | refine blk_drew ?_ | refine blk_alloc ?_ _)); exact BK446.out) hb); have n4_ := Aside0.mk (below_step (by repeat (first | (with_reducible first | exact HB.out | apply below_alloc | apply pw_below_drewN | apply below_drew1 | refine below_set ?_ GE444.out | refine below_set ?_ GE445.out | refine below_set ?_ GE446.out) | exact HB.out)) hb); have n5_ := Aside0.mk (hbox); have n6_ := Aside0.mk ((by rw [hg]; exact (below_size (by repeat (first | (with_reducible first | exact HB.out | apply below_alloc | apply pw_below_drewN | apply below_drew1 | refine below_set ?_ GE444.out | refine below_set ?_ GE445.out | refine below_set ?_ GE446.out) | exact HB.out))) : w.heap.size ≤ gb449)); have n7_ := Aside0.mk ((by rw [hg]; exact (below_size (by repeat (first | (with_reducible first | exact HB.out | apply below_alloc | apply pw_below_drewN | apply below_drew1 | refine below_set ?_ GE444.out | refine below_set ?_ GE445.out | refine below_set ?_ GE446.out) | exact HB.out))) : w.heap.size ≤ gb449)); have n8_ := Aside0.mk ((by rw [hg]; exact Nat.ne_of_lt (blk_lt (g := gb444) (o := .cells #[.int .i64 a0_0, .int .i64 a0_1, .slice A0_2 l0_2.length c0_2] 24 (0, 0)) (by (with_reducible repeat (first | refine blk_drewN ?_ _ | refine blk_drew ?_ | refine blk_alloc ?_ _)); exact BK444.out)) : gb444 ≠ gb449)); have n9_ := Aside0.mk ((by rw [hg]; exact Nat.ne_of_gt (blk_lt (g := gb444) (o := .cells #[.int .i64 a0_0, .int .i64 a0_1, .slice A0_2 l0_2.length c0_2] 24 (0, 0)) (by (with_reducible repeat (first | refine blk_drewN ?_ _ | refine blk_drew ?_ | refine blk_alloc ?_ _)); exact BK444.out)) : gb449 ≠ gb444)); have n10_ := Aside0.mk ((by rw [hg]; exact Nat.ne_of_lt (blk_lt (g := gb445) (o := .cells #[.int .i64 a1_0, .int .i64 a1_1] 26 (0, 0)) (by (with_reducible repeat (first | refine blk_drewN ?_ _ | refine blk_drew ?_ | refine blk_alloc ?_ _)); exact BK445.out)) : gb445 ≠ gb449)); have n11_ := Aside0.mk ((by rw [hg]; exact Nat.ne_of_gt (blk_lt (g := gb445) (o := .cells #[.int .i64 a1_0, .int .i64 a1_1] 26 (0, 0)) (by (with_reducible repeat (first | refine blk_drewN ?_ _ | refine blk_drew ?_ | refine blk_alloc ?_ _)); exact BK445.out)) : gb449 ≠ gb445)); have n12_ := Aside0.mk ((by rw [hg]; exact Nat.ne_of_lt (blk_lt (g := gb446) (o := .cells #[.int .i64 a2_0, .int .i64 a2_1] 26 (0, 0)) (by (with_reducible repeat (first | refine blk_drewN ?_ _ | refine blk_drew ?_ | refine blk_alloc ?_ _)); exact BK446.out)) : gb446 ≠ gb449)); have n13_ := Aside0.mk ((by rw [hg]; exact Nat.ne_of_gt (blk_lt (g := gb446) (o := .cells #[.int .i64 a2_0, .int .i64 a2_1] 26 (0, 0)) (by (with_reducible repeat (first | refine blk_drewN ?_ _ | refine blk_drew ?_ | refine blk_alloc ?_ _)); exact BK446.out)) : gb449 ≠ gb446)); clear HO_9; clear BK444; clear BK445; clear BK446; clear HB; have HO_9 := n0_; have BK444 := n1_; have BK445 := n2_; have BK446 := n3_; have HB := n4_; have BK449 := n5_; have GW449 := n6_; have GE449 := n7_; have NB444_449 := n8_; have NB449_444 := n9_; have NB445_449 := n10_; have NB449_445 := n11_; have NB446_449 := n12_; have NB449_446 := n13_; clear n0_ n1_ n2_ n3_ n4_ n5_ n6_ n7_ n8_ n9_ n10_ n11_ n12_ n13_; clear hb hbox hg; have hnb73 := NB449_444.out; have hnc73 := NB444_449.out; have hnb74 := NB449_445.out; have hnc74 := NB445_449.out; have hnb75 := NB449_446.out; have hnc75 := NB446_449.out; have hcz76_0 : w72.cell? ⟨gb449, 0, none⟩ = some (.int .i64 0) := (blk_cell BK449.out 0).trans rfl; have hcz76_1 : w72.cell? ⟨gb449, 1, none⟩ = some (.int .i64 0) := (blk_cell BK449.out 1).trans rfl; have hfz76_0 := blk_frozen BK449.out 0; have hfz76_1 := blk_frozen BK449.out 1; have hcz77_0 : w72.cell? ⟨gb445, 0, none⟩ = some (.int .i64 a1_0) := (blk_cell BK445.out 0).trans rfl; have hcz77_1 : w72.cell? ⟨gb445, 1, none⟩ = some (.int .i64 a1_1) := (blk_cell BK445.out 1).trans rfl; have hfz77_0 := blk_frozen BK445.out 0; have hfz77_1 := blk_frozen BK445.out 1; have hcz78_0 : w72.cell? ⟨gb446, 0, none⟩ = some (.int .i64 a2_0) := (blk_cell BK446.out 0).trans rfl; have hcz78_1 : w72.cell? ⟨gb446, 1, none⟩ = some (.int .i64 a2_1) := (blk_cell BK446.out 1).trans rfl; have hfz78_0 := blk_frozen BK446.out 0; have hfz78_1 := blk_frozen BK446.out 1) | (go_at_call 32; (with_reducible refine (barrowref07_touches.calls k3 a1_0 a1_1 a2_0 a2_1 x11_3 x10_1 true _ A64.out).mono ?_); rintro e w79 ⟨rfl, hb⟩; have n0_ := Aside0.mk (Kd.R_below (by (with_reducible repeat (first | apply Kd.R_alloc | apply Kd.R_drewN | apply Kd.R_drew)); exact (Kd.R_mono (Kd.R_far (p := ⟨gb449, 1, none⟩) (Kd.R_far (p := ⟨gb449, 0, none⟩) (Kd.R_mono HO_9.out (fun k_ hk => (⟨hk, hk.2⟩ : _ ∧ k_ ≠ gb449))) (fun _ hk => hk.2) (.int .i64 x11_3)) (fun _ hk => hk.2) (.int .i64 x10_1)) (fun _ h_ => h_.1))) hb); have n1_ := Aside0.mk (blk_below (g := gb444) (o := .cells #[.int .i64 a0_0, .int .i64 a0_1, .slice A0_2 l0_2.length c0_2] 24 (0, 0)) (by (with_reducible repeat (first | refine blk_drewN ?_ _ | refine blk_drew ?_ | refine blk_alloc ?_ _)); refine blk_far ?_ NB444_449.out _; (with_reducible repeat (first | refine blk_drewN ?_ _ | refine blk_drew ?_ | refine blk_alloc ?_ _)); refine blk_far ?_ NB444_449.out _; (with_reducible repeat (first | refine blk_drewN ?_ _ | refine blk_drew ?_ | refine blk_alloc ?_ _)); exact BK444.out) hb); have n2_ := Aside0.mk (blk_below (g := gb445) (o := .cells #[.int .i64 a1_0, .int .i64 a1_1] 26 (0, 0)) (by (with_reducible repeat (first | refine blk_drewN ?_ _ | refine blk_drew ?_ | refine blk_alloc ?_ _)); refine blk_far ?_ NB445_449.out _; (with_reducible repeat (first | refine blk_drewN ?_ _ | refine blk_drew ?_ | refine blk_alloc ?_ _)); refine blk_far ?_ NB445_449.out _; (with_reducible repeat (first | refine blk_drewN ?_ _ | refine blk_drew ?_ | refine blk_alloc ?_ _)); exact BK445.out) hb); have n3_ := Aside0.mk (blk_below (g := gb446) (o := .cells #[.int .i64 a2_0, .int .i64 a2_1] 26 (0, 0)) (by (with_reducible repeat (first | refine blk_drewN ?_ _ | refine blk_drew ?_ | refine blk_alloc ?_ _)); refine blk_far ?_ NB446_449.out _; (with_reducible repeat (first | refine blk_drewN ?_ _ | refine blk_drew ?_ | refine blk_alloc ?_ _)); refine blk_far ?_ NB446_449.out _; (with_reducible repeat (first | refine blk_drewN ?_ _ | refine blk_drew ?_ | refine blk_alloc ?_ _)); exact BK446.out) hb); have n4_ := Aside0.mk (blk_below (g := gb449) (o := .cells #[.int .i64 x11_3, .int .i64 x10_1] 26 (0, 0)) (by (with_reducible repeat (first | refine blk_drewN ?_ _ | refine blk_drew ?_ | refine blk_alloc ?_ _)); refine blk_put (cs := #[.int .i64 x11_3, .int .i64 0]) ?_ 1 _ rfl; (with_reducible repeat (first | refine blk_drewN ?_ _ | refine blk_drew ?_ | refine blk_alloc ?_ _)); refine blk_put (cs := #[.int .i64 0, .int .i64 0]) ?_ 0 _ rfl; (with_reducible repeat (first | refine blk_drewN ?_ _ | refine blk_drew ?_ | refine blk_alloc ?_ _)); exact BK449.out) hb); have n5_ := Aside0.mk (below_step (by repeat (first | (with_reducible first | exact HB.out | apply below_alloc | apply pw_below_drewN | apply below_drew1 | refine below_set ?_ GE444.out | refine below_set ?_ GE445.out | refine below_set ?_ GE446.out | refine below_set ?_ GE449.out) | exact HB.out)) hb); clear HO_9; clear BK444; clear BK445; clear BK446; clear BK449; clear HB; have HO_9 := n0_; have BK444 := n1_; have BK445 := n2_; have BK446 := n3_; have BK449 := n4_; have HB := n5_; clear n0_ n1_ n2_ n3_ n4_ n5_; (try clear hb); (try clear hb2); (try clear hk); (try clear hi); have hcz80_0 : w79.cell? ⟨gb449, 0, none⟩ = some (.int .i64 x11_3) := (blk_cell BK449.out 0).trans rfl; have hcz80_1 : w79.cell? ⟨gb449, 1, none⟩ = some (.int .i64 x10_1) := (blk_cell BK449.out 1).trans rfl; have hfz80_0 := blk_frozen BK449.out 0; have hfz80_1 := blk_frozen BK449.out 1) | ((with_reducible refine gate_builtin (b := .append) (xs := #[.tmp 67, .tmp 69]) rfl ?_); at_builtin; refine Kd.R_append k26 (w0 := w) w.heap.size rfl (.tmp 67) (.tmp 69) 32 26 (.agg #[(.int .i64 0), (.int .i64 0)]) 16 rfl Try.underlying32 info26 rfl (by decide) (by omega) u9 x9_3 (⟨x11_3, x10_1⟩ : S26) [.int .i64 x11_3, .int .i64 x10_1] (fun k_ => k_ ≠ gb445 ∧ k_ ≠ gb446 ∧ k_ ≠ gb449) (fun _ => False) rfl rfl ?aP (fun _ hk => hk.elim) ?aF ?aO ?aB ?aS ?aL ?_; (case aP => exact k26_mkM _ _ _ (⟨x11_3, x10_1⟩ : S26)); (case aB => exact (by repeat (first | (with_reducible first | exact HB.out | apply below_alloc | apply pw_below_drewN | apply below_drew1 | refine below_set ?_ GE444.out | refine below_set ?_ GE445.out | refine below_set ?_ GE446.out | refine below_set ?_ GE449.out) | exact HB.out))); (case aF => exact (fun k_ hk => ⟨Kd.freshB (g := gb445) (o := .cells #[.int .i64 a1_0, .int .i64 a1_1] 26 (0, 0)) (by (with_reducible repeat (first | refine blk_drewN ?_ _ | refine blk_drew ?_ | refine blk_alloc ?_ _)); exact BK445.out) k_ hk, Kd.freshB (g := gb446) (o := .cells #[.int .i64 a2_0, .int .i64 a2_1] 26 (0, 0)) (by (with_reducible repeat (first | refine blk_drewN ?_ _ | refine blk_drew ?_ | refine blk_alloc ?_ _)); exact BK446.out) k_ hk, Kd.freshB (g := gb449) (o := .cells #[.int .i64 x11_3, .int .i64 x10_1] 26 (0, 0)) (by (with_reducible repeat (first | refine blk_drewN ?_ _ | refine blk_drew ?_ | refine blk_alloc ?_ _)); exact BK449.out) k_ hk⟩)); (case aO => exact (by (with_reducible repeat (first | apply Kd.R_alloc | apply Kd.R_drewN | apply Kd.R_drew)); exact Kd.R_mono HO_9.out (fun _ hk => ⟨hk.1.1, ⟨hk.1.2, hk.2⟩⟩))); (case aS => exact (below_size (by repeat (first | (with_reducible first | exact HB.out | apply below_alloc | apply pw_below_drewN | apply below_drew1 | refine below_set ?_ GE444.out | refine below_set ?_ GE445.out | refine below_set ?_ GE446.out | refine below_set ?_ GE449.out) | exact HB.out)))); (case aL => have := LMc66.out; omega); intro v455 w81 ho hb hg hat; rw [← Ny454.out] at ho; have n0_ := Aside0.mk (blk_grown (g := gb444) (o := .cells #[.int .i64 a0_0, .int .i64 a0_1, .slice A0_2 l0_2.length c0_2] 24 (0, 0)) (by (with_reducible repeat (first | refine blk_drewN ?_ _ | refine blk_drew ?_ | refine blk_alloc ?_ _)); exact BK444.out) hg (Kd.R_ne HO_9.out BK444.out (by decide))); have n1_ := Aside0.mk (blk_grown (g := gb445) (o := .cells #[.int .i64 a1_0, .int .i64 a1_1] 26 (0, 0)) (by (with_reducible repeat (first | refine blk_drewN ?_ _ | refine blk_drew ?_ | refine blk_alloc ?_ _)); exact BK445.out) hg (Kd.R_away HO_9.out (fun _ hk => hk.1.1))); have n2_ := Aside0.mk (blk_grown (g := gb446) (o := .cells #[.int .i64 a2_0, .int .i64 a2_1] 26 (0, 0)) (by (with_reducible repeat (first | refine blk_drewN ?_ _ | refine blk_drew ?_ | refine blk_alloc ?_ _)); exact BK446.out) hg (Kd.R_away HO_9.out (fun _ hk => hk.1.2))); have n3_ := Aside0.mk (blk_grown (g := gb449) (o := .cells #[.int .i64 x11_3, .int .i64 x10_1] 26 (0, 0)) (by (with_reducible repeat (first | refine blk_drewN ?_ _ | refine blk_drew ?_ | refine blk_alloc ?_ _)); exact BK449.out) hg (Kd.R_away HO_9.out (fun _ hk => hk.2))); have n4_ := Aside0.mk (hb); have n5_ := Aside0.mk (ho); clear BK444; clear BK445; clear BK446; clear BK449; clear HB; clear HO_9; have BK444 := n0_; have BK445 := n1_; have BK446 := n2_; have BK449 := n3_; have HB := n4_; have HO456 := n5_; clear n0_ n1_ n2_ n3_ n4_ n5_; clear ho hb hg hat))
                        go_roundg k3
                        case measure => have := HK1.out; have := HJ20.out; have := HK3.out; omega
                        case rel => exact ⟨(y454), (wrap64 (x11_3 + 1)), (by first | rfl | (simp; done) | (simp [*]; done)), H', ⟨by have := HK1.out; have := HJ20.out; have := HK3.out; omega⟩, ⟨by (with_reducible repeat (first | apply Kd.R_alloc | apply Kd.R_drewN | apply Kd.R_drew)); exact Kd.R_mono HO456.out (fun _ hk => ⟨hk.1, hk.2.1⟩)⟩, ⟨by (with_reducible repeat (first | refine blk_drewN ?_ _ | refine blk_drew ?_ | refine blk_alloc ?_ _)); exact BK444.out⟩, ⟨by (with_reducible repeat (first | refine blk_drewN ?_ _ | refine blk_drew ?_ | refine blk_alloc ?_ _)); exact BK445.out⟩, ⟨by (with_reducible repeat (first | refine blk_drewN ?_ _ | refine blk_drew ?_ | refine blk_alloc ?_ _)); exact BK446.out⟩, ⟨by repeat (first | (with_reducible first | exact HB.out | apply below_alloc | apply pw_below_drewN | apply below_drew1 | refine below_set ?_ GE444.out | refine below_set ?_ GE445.out | refine below_set ?_ GE446.out | refine below_set ?_ GE449.out) | exact HB.out)⟩⟩
                      · rw [if_neg c66] at H
                        exact absurd H (by simp)
                    · replace c65 := Bool.eq_false_iff.mpr c65
                      subst c65
                      have H1 : (barrowref07_Line.l1 k3 t447 t448 x9_3 x10_1 (wrap64 (x11_3 + 1)) a1_0 a1_1 a2_0 a2_1) = some r := by rw [if_neg (show ¬ (false = true) by decide)] at H; exact H
                      clear H
                      have H := H1
                      clear H1
                      have H' := Aside0.mk H
                      clear H
                      have hnb82 := NB445_444.out
                      have hnc82 := NB444_445.out
                      have hnb83 := NB445_446.out
                      have hnc83 := NB446_445.out
                      have hcz84_0 : wr.cell? ⟨gb445, 0, none⟩ = some (.int .i64 a1_0) := (blk_cell BK445.out 0).trans rfl
                      have hcz84_1 : wr.cell? ⟨gb445, 1, none⟩ = some (.int .i64 a1_1) := (blk_cell BK445.out 1).trans rfl
                      have hfz84_0 := blk_frozen BK445.out 0
                      have hfz84_1 := blk_frozen BK445.out 1
                      have hnb85 := NB446_444.out
                      have hnc85 := NB444_446.out
                      have hcz86_0 : wr.cell? ⟨gb446, 0, none⟩ = some (.int .i64 a2_0) := (blk_cell BK446.out 0).trans rfl
                      have hcz86_1 : wr.cell? ⟨gb446, 1, none⟩ = some (.int .i64 a2_1) := (blk_cell BK446.out 1).trans rfl
                      have hfz86_0 := blk_frozen BK446.out 0
                      have hfz86_1 := blk_frozen BK446.out 1
                      go_wp2_with (first | ((with_reducible refine gate_dst (N := 12) rfl ?_); refine box_event ?hg (N := 12) ?hd (cs := #[.int .i64 0, .int .i64 0]) (t := 26) ?hr ?_; (case hd => rfl); (case hg => rfl); (case hr => first | (go_simp; done) | (go_simp; rfl)); intro gb449 hg w87 hbox hb; have n0_ := Aside0.mk (Kd.R_below (Kd.R_elderB (by (with_reducible repeat (first | apply Kd.R_alloc | apply Kd.R_drewN | apply Kd.R_drew)); exact HO_9.out) gb449 (Nat.le_of_eq hg.symm)) hb); have n1_ := Aside0.mk (blk_below (g := gb444) (o := .cells #[.int .i64 a0_0, .int .i64 a0_1, .slice A0_2 l0_2.length c0_2] 24 (0, 0)) (by (with_reducible repeat (first | refine blk_drewN ?_ _ | refine blk_drew ?_ | refine blk_alloc ?_ _)); exact BK444.out) hb); have n2_ := Aside0.mk (blk_below (g := gb445) (o := .cells #[.int .i64 a1_0, .int .i64 a1_1] 26 (0, 0)) (by (with_reducible repeat (first | refine blk_drewN ?_ _ | refine blk_drew ?_ | refine blk_alloc ?_ _)); exact BK445.out) hb); have n3_ := Aside0.mk (blk_below (g := gb446) (o := .cells #[.int .i64 a2_0, .int .i64 a2_1] 26 (0, 0)) (by (with_reducible repeat (first | refine blk_drewN ?_ _ | refine blk_drew ?_ | refine blk_alloc ?_ _)); exact BK446.out) hb); have n4_ := Aside0.mk (below_step (by repeat (first | (with_reducible first | exact HB.out | apply below_alloc | apply pw_below_drewN | apply below_drew1 | refine below_set ?_ GE444.out | refine below_set ?_ GE445.out | refine below_set ?_ GE446.out) | exact HB.out)) hb); have n5_ := Aside0.mk (hbox); have n6_ := Aside0.mk ((by rw [hg]; exact (below_size (by repeat (first | (with_reducible first | exact HB.out | apply below_alloc | apply pw_below_drewN | apply below_drew1 | refine below_set ?_ GE444.out | refine below_set ?_ GE445.out | refine below_set ?_ GE446.out) | exact HB.out))) : w.heap.size ≤ gb449)); have n7_ := Aside0.mk ((by rw [hg]; exact (below_size (by repeat (first | (with_reducible first | exact HB.out | apply below_alloc | apply pw_below_drewN | apply below_drew1 | refine below_set ?_ GE444.out | refine below_set ?_ GE445.out | refine below_set ?_ GE446.out) | exact HB.out))) : w.heap.size ≤ gb449)); have n8_ := Aside0.mk ((by rw [hg]; exact Nat.ne_of_lt (blk_lt (g := gb444) (o := .cells #[.int .i64 a0_0, .int .i64 a0_1, .slice A0_2 l0_2.length c0_2] 24 (0, 0)) (by (with_reducible repeat (first | refine blk_drewN ?_ _ | refine blk_drew ?_ | refine blk_alloc ?_ _)); exact BK444.out)) : gb444 ≠ gb449)); have n9_ := Aside0.mk ((by rw [hg]; exact Nat.ne_of_gt (blk_lt (g := gb444) (o := .cells #[.int .i64 a0_0, .int .i64 a0_1, .slice A0_2 l0_2.length c0_2] 24 (0, 0)) (by (with_reducible repeat (first | refine blk_drewN ?_ _ | refine blk_drew ?_ | refine blk_alloc ?_ _)); exact BK444.out)) : gb449 ≠ gb444)); have n10_ := Aside0.mk ((by rw [hg]; exact Nat.ne_of_lt (blk_lt (g := gb445) (o := .cells #[.int .i64 a1_0, .int .i64 a1_1] 26 (0, 0)) (by (with_reducible repeat (first | refine blk_drewN ?_ _ | refine blk_drew ?_ | refine blk_alloc ?_ _)); exact BK445.out)) : gb445 ≠ gb449)); have n11_ := Aside0.mk ((by rw [hg]; exact Nat.ne_of_gt (blk_lt (g := gb445) (o := .cells #[.int .i64 a1_0, .int .i64 a1_1] 26 (0, 0)) (by (with_reducible repeat (first | refine blk_drewN ?_ _ | refine blk_drew ?_ | refine blk_alloc ?_ _)); exact BK445.out)) : gb449 ≠ gb445)); have n12_ := Aside0.mk ((by rw [hg]; exact Nat.ne_of_lt (blk_lt (g := gb446) (o := .cells #[.int .i64 a2_0, .int .i64 a2_1] 26 (0, 0)) (by (with_reducible repeat (first | refine blk_drewN ?_ _ | refine blk_drew ?_ | refine blk_alloc ?_ _)); exact BK446.out)) : gb446 ≠ gb449)); have n13_ := Aside0.mk ((by rw [hg]; exact Nat.ne_of_gt (blk_lt (g := gb446) (o := .cells #[.int .i64 a2_0, .int .i64 a2_1] 26 (0, 0)) (by (with_reducible repeat (first | refine blk_drewN ?_ _ | refine blk_drew ?_ | refine blk_alloc ?_ _)); exact BK446.out)) : gb449 ≠ gb446)); clear HO_9; clear BK444; clear BK445; clear BK446; clear HB; have HO_9 := n0_; have BK444 := n1_; have BK445 := n2_; have BK446 := n3_; have HB := n4_; have BK449 := n5_; have GW449 := n6_; have GE449 := n7_; have NB444_449 := n8_; have NB449_444 := n9_; have NB445_449 := n10_; have NB449_445 := n11_; have NB446_449 := n12_; have NB449_446 := n13_; clear n0_ n1_ n2_ n3_ n4_ n5_ n6_ n7_ n8_ n9_ n10_ n11_ n12_ n13_; clear hb hbox hg; have hnb88 := NB449_444.out; have hnc88 := NB444_449.out; have hnb89 := NB449_445.out; have hnc89 := NB445_449.out; have hnb90 := NB449_446.out; have hnc90 := NB446_449.out; have hcz91_0 : w87.cell? ⟨gb449, 0, none⟩ = some (.int .i64 0) := (blk_cell BK449.out 0).trans rfl; have hcz91_1 : w87.cell? ⟨gb449, 1, none⟩ = some (.int .i64 0) := (blk_cell BK449.out 1).trans rfl; have hfz91_0 := blk_frozen BK449.out 0; have hfz91_1 := blk_frozen BK449.out 1; have hcz92_0 : w87.cell? ⟨gb445, 0, none⟩ = some (.int .i64 a1_0) := (blk_cell BK445.out 0).trans rfl; have hcz92_1 : w87.cell? ⟨gb445, 1, none⟩ = some (.int .i64 a1_1) := (blk_cell BK445.out 1).trans rfl; have hfz92_0 := blk_frozen BK445.out 0; have hfz92_1 := blk_frozen BK445.out 1; have hcz93_0 : w87.cell? ⟨gb446, 0, none⟩ = some (.int .i64 a2_0) := (blk_cell BK446.out 0).trans rfl; have hcz93_1 : w87.cell? ⟨gb446, 1, none⟩ = some (.int .i64 a2_1) := (blk_cell BK446.out 1).trans rfl; have hfz93_0 := blk_frozen BK446.out 0; have hfz93_1 := blk_frozen BK446.out 1) | (go_at_call 32; (with_reducible refine (barrowref07_touches.calls k3 a1_0 a1_1 a2_0 a2_1 x11_3 x10_1 false _ A64.out).mono ?_); rintro e w94 ⟨rfl, hb⟩; have n0_ := Aside0.mk (Kd.R_below (by (with_reducible repeat (first | apply Kd.R_alloc | apply Kd.R_drewN | apply Kd.R_drew)); exact (Kd.R_mono (Kd.R_far (p := ⟨gb449, 1, none⟩) (Kd.R_far (p := ⟨gb449, 0, none⟩) (Kd.R_mono HO_9.out (fun k_ hk => (⟨hk, hk.2⟩ : _ ∧ k_ ≠ gb449))) (fun _ hk => hk.2) (.int .i64 x11_3)) (fun _ hk => hk.2) (.int .i64 x10_1)) (fun _ h_ => h_.1))) hb); have n1_ := Aside0.mk (blk_below (g := gb444) (o := .cells #[.int .i64 a0_0, .int .i64 a0_1, .slice A0_2 l0_2.length c0_2] 24 (0, 0)) (by (with_reducible repeat (first | refine blk_drewN ?_ _ | refine blk_drew ?_ | refine blk_alloc ?_ _)); refine blk_far ?_ NB444_449.out _; (with_reducible repeat (first | refine blk_drewN ?_ _ | refine blk_drew ?_ | refine blk_alloc ?_ _)); refine blk_far ?_ NB444_449.out _; (with_reducible repeat (first | refine blk_drewN ?_ _ | refine blk_drew ?_ | refine blk_alloc ?_ _)); exact BK444.out) hb); have n2_ := Aside0.mk (blk_below (g := gb445) (o := .cells #[.int .i64 a1_0, .int .i64 a1_1] 26 (0, 0)) (by (with_reducible repeat (first | refine blk_drewN ?_ _ | refine blk_drew ?_ | refine blk_alloc ?_ _)); refine blk_far ?_ NB445_449.out _; (with_reducible repeat (first | refine blk_drewN ?_ _ | refine blk_drew ?_ | refine blk_alloc ?_ _)); refine blk_far ?_ NB445_449.out _; (with_reducible repeat (first | refine blk_drewN ?_ _ | refine blk_drew ?_ | refine blk_alloc ?_ _)); exact BK445.out) hb); have n3_ := Aside0.mk (blk_below (g := gb446) (o := .cells #[.int .i64 a2_0, .int .i64 a2_1] 26 (0, 0)) (by (with_reducible repeat (first | refine blk_drewN ?_ _ | refine blk_drew ?_ | refine blk_alloc ?_ _)); refine blk_far ?_ NB446_449.out _; (with_reducible repeat (first | refine blk_drewN ?_ _ | refine blk_drew ?_ | refine blk_alloc ?_ _)); refine blk_far ?_ NB446_449.out _; (with_reducible repeat (first | refine blk_drewN ?_ _ | refine blk_drew ?_ | refine blk_alloc ?_ _)); exact BK446.out) hb); have n4_ := Aside0.mk (blk_below (g := gb449) (o := .cells #[.int .i64 x11_3, .int .i64 x10_1] 26 (0, 0)) (by (with_reducible repeat (first | refine blk_drewN ?_ _ | refine blk_drew ?_ | refine blk_alloc ?_ _)); refine blk_put (cs := #[.int .i64 x11_3, .int .i64 0]) ?_ 1 _ rfl; (with_reducible repeat (first | refine blk_drewN ?_ _ | refine blk_drew ?_ | refine blk_alloc ?_ _)); refine blk_put (cs := #[.int .i64 0, .int .i64 0]) ?_ 0 _ rfl; (with_reducible repeat (first | refine blk_drewN ?_ _ | refine blk_drew ?_ | refine blk_alloc ?_ _)); exact BK449.out) hb); have n5_ := Aside0.mk (below_step (by repeat (first | (with_reducible first | exact HB.out | apply below_alloc | apply pw_below_drewN | apply below_drew1 | refine below_set ?_ GE444.out | refine below_set ?_ GE445.out | refine below_set ?_ GE446.out | refine below_set ?_ GE449.out) | exact HB.out)) hb); clear HO_9; clear BK444; clear BK445; clear BK446; clear BK449; clear HB; have HO_9 := n0_; have BK444 := n1_; have BK445 := n2_; have BK446 := n3_; have BK449 := n4_; have HB := n5_; clear n0_ n1_ n2_ n3_ n4_ n5_; (try clear hb); (try clear hb2); (try clear hk); (try clear hi)))
                      go_roundg k3
                      case measure => have := HK1.out; have := HJ20.out; have := HK3.out; omega
                      case rel => exact ⟨(x9_3), (wrap64 (x11_3 + 1)), (by first | rfl | (simp; done) | (simp [*]; done)), H', ⟨by have := HK1.out; have := HJ20.out; have := HK3.out; omega⟩, ⟨by (with_reducible repeat (first | apply Kd.R_alloc | apply Kd.R_drewN | apply Kd.R_drew)); exact Kd.R_mono HO_9.out (fun _ hk => ⟨hk.1.1, hk.1.2⟩)⟩, ⟨by (with_reducible repeat (first | refine blk_drewN ?_ _ | refine blk_drew ?_ | refine blk_alloc ?_ _)); exact BK444.out⟩, ⟨by (with_reducible repeat (first | refine blk_drewN ?_ _ | refine blk_drew ?_ | refine blk_alloc ?_ _)); exact BK445.out⟩, ⟨by (with_reducible repeat (first | refine blk_drewN ?_ _ | refine blk_drew ?_ | refine blk_alloc ?_ _)); exact BK446.out⟩, ⟨by repeat (first | (with_reducible first | exact HB.out | apply below_alloc | apply pw_below_drewN | apply below_drew1 | refine below_set ?_ GE444.out | refine below_set ?_ GE445.out | refine below_set ?_ GE446.out | refine below_set ?_ GE449.out) | exact HB.out)⟩⟩
                · rw [if_neg c48] at H
                  have c48b0 : decide (x11_3 ≤ (ji47)) = false := decide_eq_false c48
                  clear c48
                  have H' := Aside0.mk H
                  clear H
                  have hnb95 := NB445_444.out
                  have hnc95 := NB444_445.out
                  have hnb96 := NB445_446.out
                  have hnc96 := NB446_445.out
                  have hcz97_0 : wr.cell? ⟨gb445, 0, none⟩ = some (.int .i64 a1_0) := (blk_cell BK445.out 0).trans rfl
                  have hcz97_1 : wr.cell? ⟨gb445, 1, none⟩ = some (.int .i64 a1_1) := (blk_cell BK445.out 1).trans rfl
                  have hfz97_0 := blk_frozen BK445.out 0
                  have hfz97_1 := blk_frozen BK445.out 1
                  have hnb98 := NB446_444.out
                  have hnc98 := NB444_446.out
                  have hcz99_0 : wr.cell? ⟨gb446, 0, none⟩ = some (.int .i64 a2_0) := (blk_cell BK446.out 0).trans rfl
                  have hcz99_1 : wr.cell? ⟨gb446, 1, none⟩ = some (.int .i64 a2_1) := (blk_cell BK446.out 1).trans rfl
                  have hfz99_0 := blk_frozen BK446.out 0
                  have hfz99_1 := blk_frozen BK446.out 1
                  go_wp2
                  go_roundg k3
                  case measure => have := HK1.out; have := HJ20.out; have := HK3.out; omega
                  case rel => exact ⟨(x9_3), (wrap64 (x10_1 + 1)), (by first | rfl | (simp; done) | (simp [*]; done)), H', ⟨by have := HK1.out; have := HJ20.out; have := HK3.out; omega⟩, ⟨by (with_reducible repeat (first | apply Kd.R_alloc | apply Kd.R_drewN | apply Kd.R_drew)); exact HO_9.out⟩, ⟨by (with_reducible repeat (first | refine blk_drewN ?_ _ | refine blk_drew ?_ | refine blk_alloc ?_ _)); exact BK444.out⟩, ⟨by (with_reducible repeat (first | refine blk_drewN ?_ _ | refine blk_drew ?_ | refine blk_alloc ?_ _)); exact BK445.out⟩, ⟨by (with_reducible repeat (first | refine blk_drewN ?_ _ | refine blk_drew ?_ | refine blk_alloc ?_ _)); exact BK446.out⟩, ⟨by repeat (first | (with_reducible first | exact HB.out | apply below_alloc | apply pw_below_drewN | apply below_drew1 | refine below_set ?_ GE444.out | refine below_set ?_ GE445.out | refine below_set ?_ GE446.out) | exact HB.out)⟩⟩
          · replace c40 := Bool.eq_false_iff.mpr c40
            subst c40
            have H1 : (some x9_1) = some r := by rw [if_neg (show ¬ (false = true) by decide)] at H; exact H
            clear H
            have H := H1
            clear H1
            obtain rfl := Option.some.inj H
            go_wp2
            go_ret
            exact ⟨_, by first | rfl | (simp [errW_none, errW_some] <;> rfl) | (simp only [← hji6]; first | rfl | (simp [errW_none, errW_some] <;> rfl)) | (simp [*, errW_none, errW_some] <;> rfl), by (with_reducible repeat (first | apply Kd.R_alloc | apply Kd.R_drewN | apply Kd.R_drew)); exact Kd.R_mono HO_9.out (fun _ hk => trivial), by repeat (first | (with_reducible first | exact HB.out | apply below_alloc | apply pw_below_drewN | apply below_drew1 | refine below_set ?_ GE444.out | refine below_set ?_ GE445.out | refine below_set ?_ GE446.out) | exact HB.out)⟩

end Go.Proofs.Ytljmecjciifceaa.XSG
