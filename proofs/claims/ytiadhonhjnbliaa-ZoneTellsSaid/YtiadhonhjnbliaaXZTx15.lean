-- Written by xprint.py (a program of this session) for this claim
import Derived.Test.YtiadhonhjnbliaaSq
import Derived.Test.YtiadhonhjnbliaaXZTx0
namespace Go.Proofs.Ytiadhonhjnbliaa.XZT
open Go.Proofs.YtiadhonhjnbliaaV Go.Proofs.YtiadhonhjnbliaaS
open Go.RowKit Go.Proofs.YtiadhonhjnbliaaW.PrintWords Go.Proofs.YtiadhonhjnbliaaW.PrintLast Go.Proofs.YtiadhonhjnbliaaW.PrintMore
attribute [local go_sem] max2_int min2_int max_two min_two max_three min_three max_four min_four   -- for this text's walks alone
set_option linter.unusedVariables false
set_option linter.unusedSimpArgs false

/-! ### zone_Of: function 22 -/
def zone_Of.l0 : Nat → Int → List Int → List (S37) → Int → Int → Option (List Int)
 | 0, _, _, _, _, _ => none
 | k + 1, x1, x5, x8, x9, x10 => if x10 < x9 then (if 0 ≤ x10 then (if x10 < (x8.length : Int) then (if ((rd_T37 x8 x10).f6) = x1 then (if x5.length < 17592186044416 then (zone_Of.l0 k x1 (x5 ++ [(rd_T37 x8 x10).f0]) x8 x9 (wrap64 (x10 + 1))) else (none)) else (zone_Of.l0 k x1 x5 x8 x9 (wrap64 (x10 + 1)))) else (none)) else (none)) else (some x5)
def zone_Of.f (k : Nat) (l0 : List (S37)) (a1 : Int) : Option (List Int) := zone_Of.l0 k a1 ([] : List Int) l0 (l0.length : Int) 0
theorem zone_Of.mono_l : ∀ k, (∀ y0 y1 y2 y3 y4, LeO (zone_Of.l0 k y0 y1 y2 y3 y4) (zone_Of.l0 (k + 1) y0 y1 y2 y3 y4))
 | 0 => fun _ _ _ _ _ r h => by simp [zone_Of.l0] at h
 | k + 1 => by
  have ih0 := zone_Of.mono_l k
  ·intro y0 y1 y2 y3 y4
   unfold zone_Of.l0
   repeat' first
   | (with_reducible exact ih0 _ _ _ _ _)
   | (with_reducible exact LeO.refl _)
   | (with_reducible exact LeO.none _)
   | (with_reducible refine LeO.ite ?_ ?_)
   | (with_reducible refine LeO.bind ?_ (fun _ => ?_))
   | exact ih0 _ _ _ _ _
   | exact LeO.none _
   | refine LeO.ite ?_ ?_
   | refine LeO.bind ?_ (fun _ => ?_)
theorem zone_Of.mono : ∀ a0 a1 k, LeO (zone_Of.f k a0 a1) (zone_Of.f (k + 1) a0 a1) := by
 intro a0 a1 k
 have ih0 := zone_Of.mono_l k
 unfold zone_Of.f
 repeat' first
   | (with_reducible exact ih0 _ _ _ _ _)
   | (with_reducible exact LeO.refl _)
   | (with_reducible exact LeO.none _)
   | (with_reducible refine LeO.ite ?_ ?_)
   | (with_reducible refine LeO.bind ?_ (fun _ => ?_))
   | exact ih0 _ _ _ _ _
   | exact LeO.none _
   | refine LeO.ite ?_ ?_
   | refine LeO.bind ?_ (fun _ => ?_)
set_option maxHeartbeats 8000000 in
set_option maxRecDepth 100000 in
theorem zone_Of.calls (k : Nat) (A0 : Option Addr) (c0 : Nat) (l0 : List (S37)) (a1 : Int) (r : List Int) (w : World) (hr0 : Kd.C k37 w A0 l0.length l0) (hc0 : l0.length ≤ c0) (h : zone_Of.f k l0 a1 = some r) :
  Calls Try.prog 22 #[.slice A0 l0.length c0, .int .i64 a1] w fun e w' => ∃ v0_ : Value, e = .returned (v0_) ∧ Kd.R (Kd.int .i64) 3 w' w.heap.size (fun _ => True) v0_ r ∧ Below w.heap.size w w' := by
 have hu37 := Try.underlying37
 have HR0 := Aside0.mk hr0
 have HC0 := Aside0.mk hc0
 clear hr0 hc0
 have HB := Aside0.mk (Below.refl w.heap.size w)
 have H : (zone_Of.l0 k a1 ([] : List Int) l0 (l0.length : Int) 0) = some r := h
 clear h
 have H' := Aside0.mk H
 clear H
 go_enter Try.func22, Try.ntmps22
 go_wp2
 go_loopg [5, 10] k (fun kq v5 v10 w' => ∃ (x5_1 : List Int) (x10_1 : Int), v10 = .int .i64 x10_1 ∧ Aside0 (zone_Of.l0 kq a1 x5_1 l0 (l0.length : Int) x10_1 = some r) ∧ Aside0 (kq ≤ k) ∧ Aside0 (Kd.R (Kd.int .i64) 3 w' w.heap.size (fun _ => True) v5 x5_1) ∧ Aside0 (Below w.heap.size w w'))
 case atStart => exact ⟨(([] : List Int)), (0), (by first | rfl | (simp; done) | (simp [*]; done)), H', ⟨Nat.le_refl _⟩, ⟨by first | exact Kd.R_nil _ _ _ _ _ | exact Kd.N_nil _ _ _ _ _ | exact Kd.V_nil _ _ _ _ _ | exact Kd.Q_nil _ _ _ _ _ | exact Kd.S_nil _ _ _ _ _⟩, ⟨by repeat (first | (with_reducible first | exact HB.out | apply below_alloc | apply pw_below_drewN | apply below_drew1) | exact HB.out)⟩⟩
 case round =>
  clear H'
  try clear c2
  try clear p2
  obtain ⟨x5_1, x10_1, rfl, HA, HK1, HO_5, HB⟩ := hrel
  cases gk with
  | zero => exact absurd HA.out (by simp [zone_Of.l0])
  | succ k1 =>
   have H := HA.out
   clear HA
   simp only [zone_Of.l0] at H
   by_cases c3 : x10_1 < (l0.length : Int)
   ·rw [if_pos c3] at H
    have c3b0 : decide (x10_1 < (l0.length : Int)) = true := decide_eq_true c3
    clear c3
    by_cases c4 : 0 ≤ x10_1
    ·rw [if_pos c4] at H
     have c4b0 : decide (0 ≤ x10_1) = true := decide_eq_true c4
     clear c4
     by_cases c5 : x10_1 < (l0.length : Int)
     ·rw [if_pos c5] at H
      have c5b0 : decide (x10_1 < (l0.length : Int)) = true := decide_eq_true c5
      clear c5
      by_cases c6 : ((rd_T37 l0 x10_1).f6) = a1
      ·rw [if_pos c6] at H
       have c6b0 : (((rd_T37 l0 x10_1).f6) == a1) = true := beq_iff_eq.mpr c6
       have c6b1 : (((rd_T37 l0 x10_1).f6) != a1) = false := bne_eq_false_iff_eq.mpr c6
       clear c6
       by_cases c7 : x5_1.length < 17592186044416
       ·rw [if_pos c7] at H
        have LMc7 := Aside0.mk c7
        clear c7
        obtain ⟨y317, hy317⟩ : ∃ y_ : List Int, y_ = (x5_1 ++ [(rd_T37 l0 x10_1).f0]) := ⟨_, rfl⟩
        replace H : (zone_Of.l0 k1 a1 y317 l0 (l0.length : Int) (wrap64 (x10_1 + 1))) = some r := by first | (rw [hy317]; with_reducible exact H) | (have H2_ := (Option.bind_some _ _).symm.trans H; rw [hy317]; with_reducible exact H2_) | (have H2_ := (Option.bind_some _ _).symm.trans H; with_reducible exact H2_) | with_reducible exact H | (rw [hy317]; exact H) | exact H
        have Ny317 := Aside0.mk hy317
        clear hy317
        have H' := Aside0.mk H
        clear H
        have p315 : 0 ≤ (x10_1 : Int) := of_decide_eq_true (by first | (with_reducible assumption) | assumption)
        have q315 : x10_1 < (l0.length : Int) := of_decide_eq_true (by first | (with_reducible assumption) | assumption)
        obtain ⟨ad315, e315, hx315_0, hx315_1, hx315_2, hx315_3, hx315_4, hx315_5, hx315_6, hx315_7, hx315_8, hx315_9, hx315_10, hx315_11, hx315_12, hx315_13, hx315_14, hx315_15⟩ := at_T37 HR0.out x10_1 p315 q315
        cases e315
        replace hx315_0 := (HB.out.cell (World.block_lt_of_cell? w _ hx315_0)).trans hx315_0
        replace hx315_1 := (HB.out.cell (World.block_lt_of_cell? w _ hx315_1)).trans hx315_1
        replace hx315_2 := (HB.out.cell (World.block_lt_of_cell? w _ hx315_2)).trans hx315_2
        replace hx315_3 := (HB.out.cell (World.block_lt_of_cell? w _ hx315_3)).trans hx315_3
        replace hx315_4 := (HB.out.cell (World.block_lt_of_cell? w _ hx315_4)).trans hx315_4
        replace hx315_5 := (HB.out.cell (World.block_lt_of_cell? w _ hx315_5)).trans hx315_5
        replace hx315_6 := (HB.out.cell (World.block_lt_of_cell? w _ hx315_6)).trans hx315_6
        replace hx315_7 := (HB.out.cell (World.block_lt_of_cell? w _ hx315_7)).trans hx315_7
        replace hx315_8 := (HB.out.cell (World.block_lt_of_cell? w _ hx315_8)).trans hx315_8
        replace hx315_9 := (HB.out.cell (World.block_lt_of_cell? w _ hx315_9)).trans hx315_9
        replace hx315_10 := (HB.out.cell (World.block_lt_of_cell? w _ hx315_10)).trans hx315_10
        replace hx315_11 := (HB.out.cell (World.block_lt_of_cell? w _ hx315_11)).trans hx315_11
        replace hx315_12 := (HB.out.cell (World.block_lt_of_cell? w _ hx315_12)).trans hx315_12
        replace hx315_13 := (HB.out.cell (World.block_lt_of_cell? w _ hx315_13)).trans hx315_13
        replace hx315_14 := (HB.out.cell (World.block_lt_of_cell? w _ hx315_14)).trans hx315_14
        replace hx315_15 := (HB.out.cell (World.block_lt_of_cell? w _ hx315_15)).trans hx315_15
        replace p315 := eq_true p315
        replace q315 := eq_true q315
        go_wp2_with (first | ((with_reducible refine gate_dst (N := 7) rfl ?_); refine box_event ?hg (N := 7) ?hd (cs := #[.int .i64 0, .int .i64 0, .int .i64 0, .int .i64 0, .int .i64 0, .int .i64 0, .int .i64 0, .int .i64 0, .int .i64 0, .int .i64 0, .int .i64 0, .int .i64 0, .int .i64 0, .int .i64 0, .int .i64 0, .int .i64 0]) (t := 37) ?hr ?_; (case hd => rfl); (case hg => rfl); (case hr => first | (go_simp; done) | (go_simp; rfl)); intro gb316 hg w8 hbox hb; have n0_ := Aside0.mk (Kd.R_below (by (with_reducible repeat (first | apply Kd.R_alloc | apply Kd.R_drewN | apply Kd.R_drew)); exact HO_5.out) hb); have n1_ := Aside0.mk (below_step (by repeat (first | (with_reducible first | exact HB.out | apply below_alloc | apply pw_below_drewN | apply below_drew1) | exact HB.out)) hb); have n2_ := Aside0.mk (hbox); have n3_ := Aside0.mk ((by rw [hg]; exact (below_size (by repeat (first | (with_reducible first | exact HB.out | apply below_alloc | apply pw_below_drewN | apply below_drew1) | exact HB.out))) : w.heap.size ≤ gb316)); have n4_ := Aside0.mk ((by rw [hg]; exact (below_size (by repeat (first | (with_reducible first | exact HB.out | apply below_alloc | apply pw_below_drewN | apply below_drew1) | exact HB.out))) : w.heap.size ≤ gb316)); clear HO_5; clear HB; have HO_5 := n0_; have HB := n1_; have BK316 := n2_; have GW316 := n3_; have GE316 := n4_; clear n0_ n1_ n2_ n3_ n4_; clear hb hbox hg; have hcz9_0 : w8.cell? ⟨gb316, 0, none⟩ = some (.int .i64 0) := (blk_cell BK316.out 0).trans rfl; have hcz9_1 : w8.cell? ⟨gb316, 1, none⟩ = some (.int .i64 0) := (blk_cell BK316.out 1).trans rfl; have hcz9_2 : w8.cell? ⟨gb316, 2, none⟩ = some (.int .i64 0) := (blk_cell BK316.out 2).trans rfl; have hcz9_3 : w8.cell? ⟨gb316, 3, none⟩ = some (.int .i64 0) := (blk_cell BK316.out 3).trans rfl; have hcz9_4 : w8.cell? ⟨gb316, 4, none⟩ = some (.int .i64 0) := (blk_cell BK316.out 4).trans rfl; have hcz9_5 : w8.cell? ⟨gb316, 5, none⟩ = some (.int .i64 0) := (blk_cell BK316.out 5).trans rfl; have hcz9_6 : w8.cell? ⟨gb316, 6, none⟩ = some (.int .i64 0) := (blk_cell BK316.out 6).trans rfl; have hcz9_7 : w8.cell? ⟨gb316, 7, none⟩ = some (.int .i64 0) := (blk_cell BK316.out 7).trans rfl; have hcz9_8 : w8.cell? ⟨gb316, 8, none⟩ = some (.int .i64 0) := (blk_cell BK316.out 8).trans rfl; have hcz9_9 : w8.cell? ⟨gb316, 9, none⟩ = some (.int .i64 0) := (blk_cell BK316.out 9).trans rfl; have hcz9_10 : w8.cell? ⟨gb316, 10, none⟩ = some (.int .i64 0) := (blk_cell BK316.out 10).trans rfl; have hcz9_11 : w8.cell? ⟨gb316, 11, none⟩ = some (.int .i64 0) := (blk_cell BK316.out 11).trans rfl; have hcz9_12 : w8.cell? ⟨gb316, 12, none⟩ = some (.int .i64 0) := (blk_cell BK316.out 12).trans rfl; have hcz9_13 : w8.cell? ⟨gb316, 13, none⟩ = some (.int .i64 0) := (blk_cell BK316.out 13).trans rfl; have hcz9_14 : w8.cell? ⟨gb316, 14, none⟩ = some (.int .i64 0) := (blk_cell BK316.out 14).trans rfl; have hcz9_15 : w8.cell? ⟨gb316, 15, none⟩ = some (.int .i64 0) := (blk_cell BK316.out 15).trans rfl; have hfz9_0 := blk_frozen BK316.out 0; have hfz9_1 := blk_frozen BK316.out 1; have hfz9_2 := blk_frozen BK316.out 2; have hfz9_3 := blk_frozen BK316.out 3; have hfz9_4 := blk_frozen BK316.out 4; have hfz9_5 := blk_frozen BK316.out 5; have hfz9_6 := blk_frozen BK316.out 6; have hfz9_7 := blk_frozen BK316.out 7; have hfz9_8 := blk_frozen BK316.out 8; have hfz9_9 := blk_frozen BK316.out 9; have hfz9_10 := blk_frozen BK316.out 10; have hfz9_11 := blk_frozen BK316.out 11; have hfz9_12 := blk_frozen BK316.out 12; have hfz9_13 := blk_frozen BK316.out 13; have hfz9_14 := blk_frozen BK316.out 14; have hfz9_15 := blk_frozen BK316.out 15) | ((with_reducible refine gate_builtin (b := .append) (xs := #[.tmp 18, .tmp 21]) rfl ?_); at_builtin; refine Kd.R_append (Kd.int .i64) (w0 := w) w.heap.size rfl (.tmp 18) (.tmp 21) 52 3 (.int .i64 0) 8 rfl Try.underlying52 info3 rfl (by decide) (by omega) u5 x5_1 ((rd_T37 l0 x10_1).f0) [.int .i64 ((rd_T37 l0 x10_1).f0)] (fun _ => True) (fun _ => False) rfl (by first | (go_simp; done) | (go_simp; rfl)) ?aP (fun _ hk => hk.elim) ?aF ?aO ?aB ?aS ?aL ?_; (case aP => exact rfl); (case aB => exact (by repeat (first | (with_reducible first | exact HB.out | apply below_alloc | apply pw_below_drewN | apply below_drew1 | refine below_set ?_ GE316.out) | exact HB.out))); (case aF => exact (fun _ _ => trivial)); (case aO => exact (by (with_reducible repeat (first | apply Kd.R_alloc | apply Kd.R_drewN | apply Kd.R_drew)); exact Kd.R_mono (Kd.R_far (p := ⟨gb316, 15, none⟩) (Kd.R_far (p := ⟨gb316, 14, none⟩) (Kd.R_far (p := ⟨gb316, 13, none⟩) (Kd.R_far (p := ⟨gb316, 12, none⟩) (Kd.R_far (p := ⟨gb316, 11, none⟩) (Kd.R_far (p := ⟨gb316, 10, none⟩) (Kd.R_far (p := ⟨gb316, 9, none⟩) (Kd.R_far (p := ⟨gb316, 8, none⟩) (Kd.R_far (p := ⟨gb316, 7, none⟩) (Kd.R_far (p := ⟨gb316, 6, none⟩) (Kd.R_far (p := ⟨gb316, 5, none⟩) (Kd.R_far (p := ⟨gb316, 4, none⟩) (Kd.R_far (p := ⟨gb316, 3, none⟩) (Kd.R_far (p := ⟨gb316, 2, none⟩) (Kd.R_far (p := ⟨gb316, 1, none⟩) (Kd.R_far (p := ⟨gb316, 0, none⟩) (Kd.R_types HO_5.out BK316.out (by decide)) (fun _ hk => hk.2) (.int .i64 ((rd_T37 l0 x10_1).f0))) (fun _ hk => hk.2) (.int .i64 ((rd_T37 l0 x10_1).f1.f0))) (fun _ hk => hk.2) (.int .i64 ((rd_T37 l0 x10_1).f1.f1.f0))) (fun _ hk => hk.2) (.int .i64 ((rd_T37 l0 x10_1).f1.f1.f1))) (fun _ hk => hk.2) (.int .i64 ((rd_T37 l0 x10_1).f1.f2.f0))) (fun _ hk => hk.2) (.int .i64 ((rd_T37 l0 x10_1).f1.f2.f1))) (fun _ hk => hk.2) (.int .i64 ((rd_T37 l0 x10_1).f1.f3))) (fun _ hk => hk.2) (.int .i64 ((rd_T37 l0 x10_1).f1.f4))) (fun _ hk => hk.2) (.int .i64 ((rd_T37 l0 x10_1).f2))) (fun _ hk => hk.2) (.int .i64 ((rd_T37 l0 x10_1).f3))) (fun _ hk => hk.2) (.int .i64 ((rd_T37 l0 x10_1).f4))) (fun _ hk => hk.2) (.int .i64 ((rd_T37 l0 x10_1).f5.f0))) (fun _ hk => hk.2) (.int .i64 ((rd_T37 l0 x10_1).f5.f1))) (fun _ hk => hk.2) (.int .i64 ((rd_T37 l0 x10_1).f5.f2))) (fun _ hk => hk.2) (.int .i64 ((rd_T37 l0 x10_1).f6))) (fun _ hk => hk.2) (.int .i64 ((rd_T37 l0 x10_1).f7))) (fun _ hk => trivial))); (case aS => exact (below_size (by repeat (first | (with_reducible first | exact HB.out | apply below_alloc | apply pw_below_drewN | apply below_drew1 | refine below_set ?_ GE316.out) | exact HB.out)))); (case aL => have := LMc7.out; omega); intro v318 w10 ho hb hg hat; rw [← Ny317.out] at ho; have n0_ := Aside0.mk (blk_grown (g := gb316) (o := .cells #[.int .i64 ((rd_T37 l0 x10_1).f0), .int .i64 ((rd_T37 l0 x10_1).f1.f0), .int .i64 ((rd_T37 l0 x10_1).f1.f1.f0), .int .i64 ((rd_T37 l0 x10_1).f1.f1.f1), .int .i64 ((rd_T37 l0 x10_1).f1.f2.f0), .int .i64 ((rd_T37 l0 x10_1).f1.f2.f1), .int .i64 ((rd_T37 l0 x10_1).f1.f3), .int .i64 ((rd_T37 l0 x10_1).f1.f4), .int .i64 ((rd_T37 l0 x10_1).f2), .int .i64 ((rd_T37 l0 x10_1).f3), .int .i64 ((rd_T37 l0 x10_1).f4), .int .i64 ((rd_T37 l0 x10_1).f5.f0), .int .i64 ((rd_T37 l0 x10_1).f5.f1), .int .i64 ((rd_T37 l0 x10_1).f5.f2), .int .i64 ((rd_T37 l0 x10_1).f6), .int .i64 ((rd_T37 l0 x10_1).f7)] 37 (0, 0)) (by (with_reducible repeat (first | refine blk_drewN ?_ _ | refine blk_drew ?_ | refine blk_alloc ?_ _)); refine blk_put (cs := #[.int .i64 ((rd_T37 l0 x10_1).f0), .int .i64 ((rd_T37 l0 x10_1).f1.f0), .int .i64 ((rd_T37 l0 x10_1).f1.f1.f0), .int .i64 ((rd_T37 l0 x10_1).f1.f1.f1), .int .i64 ((rd_T37 l0 x10_1).f1.f2.f0), .int .i64 ((rd_T37 l0 x10_1).f1.f2.f1), .int .i64 ((rd_T37 l0 x10_1).f1.f3), .int .i64 ((rd_T37 l0 x10_1).f1.f4), .int .i64 ((rd_T37 l0 x10_1).f2), .int .i64 ((rd_T37 l0 x10_1).f3), .int .i64 ((rd_T37 l0 x10_1).f4), .int .i64 ((rd_T37 l0 x10_1).f5.f0), .int .i64 ((rd_T37 l0 x10_1).f5.f1), .int .i64 ((rd_T37 l0 x10_1).f5.f2), .int .i64 ((rd_T37 l0 x10_1).f6), .int .i64 0]) ?_ 15 _ rfl; (with_reducible repeat (first | refine blk_drewN ?_ _ | refine blk_drew ?_ | refine blk_alloc ?_ _)); refine blk_put (cs := #[.int .i64 ((rd_T37 l0 x10_1).f0), .int .i64 ((rd_T37 l0 x10_1).f1.f0), .int .i64 ((rd_T37 l0 x10_1).f1.f1.f0), .int .i64 ((rd_T37 l0 x10_1).f1.f1.f1), .int .i64 ((rd_T37 l0 x10_1).f1.f2.f0), .int .i64 ((rd_T37 l0 x10_1).f1.f2.f1), .int .i64 ((rd_T37 l0 x10_1).f1.f3), .int .i64 ((rd_T37 l0 x10_1).f1.f4), .int .i64 ((rd_T37 l0 x10_1).f2), .int .i64 ((rd_T37 l0 x10_1).f3), .int .i64 ((rd_T37 l0 x10_1).f4), .int .i64 ((rd_T37 l0 x10_1).f5.f0), .int .i64 ((rd_T37 l0 x10_1).f5.f1), .int .i64 ((rd_T37 l0 x10_1).f5.f2), .int .i64 0, .int .i64 0]) ?_ 14 _ rfl; (with_reducible repeat (first | refine blk_drewN ?_ _ | refine blk_drew ?_ | refine blk_alloc ?_ _)); refine blk_put (cs := #[.int .i64 ((rd_T37 l0 x10_1).f0), .int .i64 ((rd_T37 l0 x10_1).f1.f0), .int .i64 ((rd_T37 l0 x10_1).f1.f1.f0), .int .i64 ((rd_T37 l0 x10_1).f1.f1.f1), .int .i64 ((rd_T37 l0 x10_1).f1.f2.f0), .int .i64 ((rd_T37 l0 x10_1).f1.f2.f1), .int .i64 ((rd_T37 l0 x10_1).f1.f3), .int .i64 ((rd_T37 l0 x10_1).f1.f4), .int .i64 ((rd_T37 l0 x10_1).f2), .int .i64 ((rd_T37 l0 x10_1).f3), .int .i64 ((rd_T37 l0 x10_1).f4), .int .i64 ((rd_T37 l0 x10_1).f5.f0), .int .i64 ((rd_T37 l0 x10_1).f5.f1), .int .i64 0, .int .i64 0, .int .i64 0]) ?_ 13 _ rfl; (with_reducible repeat (first | refine blk_drewN ?_ _ | refine blk_drew ?_ | refine blk_alloc ?_ _)); refine blk_put (cs := #[.int .i64 ((rd_T37 l0 x10_1).f0), .int .i64 ((rd_T37 l0 x10_1).f1.f0), .int .i64 ((rd_T37 l0 x10_1).f1.f1.f0), .int .i64 ((rd_T37 l0 x10_1).f1.f1.f1), .int .i64 ((rd_T37 l0 x10_1).f1.f2.f0), .int .i64 ((rd_T37 l0 x10_1).f1.f2.f1), .int .i64 ((rd_T37 l0 x10_1).f1.f3), .int .i64 ((rd_T37 l0 x10_1).f1.f4), .int .i64 ((rd_T37 l0 x10_1).f2), .int .i64 ((rd_T37 l0 x10_1).f3), .int .i64 ((rd_T37 l0 x10_1).f4), .int .i64 ((rd_T37 l0 x10_1).f5.f0), .int .i64 0, .int .i64 0, .int .i64 0, .int .i64 0]) ?_ 12 _ rfl; (with_reducible repeat (first | refine blk_drewN ?_ _ | refine blk_drew ?_ | refine blk_alloc ?_ _)); refine blk_put (cs := #[.int .i64 ((rd_T37 l0 x10_1).f0), .int .i64 ((rd_T37 l0 x10_1).f1.f0), .int .i64 ((rd_T37 l0 x10_1).f1.f1.f0), .int .i64 ((rd_T37 l0 x10_1).f1.f1.f1), .int .i64 ((rd_T37 l0 x10_1).f1.f2.f0), .int .i64 ((rd_T37 l0 x10_1).f1.f2.f1), .int .i64 ((rd_T37 l0 x10_1).f1.f3), .int .i64 ((rd_T37 l0 x10_1).f1.f4), .int .i64 ((rd_T37 l0 x10_1).f2), .int .i64 ((rd_T37 l0 x10_1).f3), .int .i64 ((rd_T37 l0 x10_1).f4), .int .i64 0, .int .i64 0, .int .i64 0, .int .i64 0, .int .i64 0]) ?_ 11 _ rfl; (with_reducible repeat (first | refine blk_drewN ?_ _ | refine blk_drew ?_ | refine blk_alloc ?_ _)); refine blk_put (cs := #[.int .i64 ((rd_T37 l0 x10_1).f0), .int .i64 ((rd_T37 l0 x10_1).f1.f0), .int .i64 ((rd_T37 l0 x10_1).f1.f1.f0), .int .i64 ((rd_T37 l0 x10_1).f1.f1.f1), .int .i64 ((rd_T37 l0 x10_1).f1.f2.f0), .int .i64 ((rd_T37 l0 x10_1).f1.f2.f1), .int .i64 ((rd_T37 l0 x10_1).f1.f3), .int .i64 ((rd_T37 l0 x10_1).f1.f4), .int .i64 ((rd_T37 l0 x10_1).f2), .int .i64 ((rd_T37 l0 x10_1).f3), .int .i64 0, .int .i64 0, .int .i64 0, .int .i64 0, .int .i64 0, .int .i64 0]) ?_ 10 _ rfl; (with_reducible repeat (first | refine blk_drewN ?_ _ | refine blk_drew ?_ | refine blk_alloc ?_ _)); refine blk_put (cs := #[.int .i64 ((rd_T37 l0 x10_1).f0), .int .i64 ((rd_T37 l0 x10_1).f1.f0), .int .i64 ((rd_T37 l0 x10_1).f1.f1.f0), .int .i64 ((rd_T37 l0 x10_1).f1.f1.f1), .int .i64 ((rd_T37 l0 x10_1).f1.f2.f0), .int .i64 ((rd_T37 l0 x10_1).f1.f2.f1), .int .i64 ((rd_T37 l0 x10_1).f1.f3), .int .i64 ((rd_T37 l0 x10_1).f1.f4), .int .i64 ((rd_T37 l0 x10_1).f2), .int .i64 0, .int .i64 0, .int .i64 0, .int .i64 0, .int .i64 0, .int .i64 0, .int .i64 0]) ?_ 9 _ rfl; (with_reducible repeat (first | refine blk_drewN ?_ _ | refine blk_drew ?_ | refine blk_alloc ?_ _)); refine blk_put (cs := #[.int .i64 ((rd_T37 l0 x10_1).f0), .int .i64 ((rd_T37 l0 x10_1).f1.f0), .int .i64 ((rd_T37 l0 x10_1).f1.f1.f0), .int .i64 ((rd_T37 l0 x10_1).f1.f1.f1), .int .i64 ((rd_T37 l0 x10_1).f1.f2.f0), .int .i64 ((rd_T37 l0 x10_1).f1.f2.f1), .int .i64 ((rd_T37 l0 x10_1).f1.f3), .int .i64 ((rd_T37 l0 x10_1).f1.f4), .int .i64 0, .int .i64 0, .int .i64 0, .int .i64 0, .int .i64 0, .int .i64 0, .int .i64 0, .int .i64 0]) ?_ 8 _ rfl; (with_reducible repeat (first | refine blk_drewN ?_ _ | refine blk_drew ?_ | refine blk_alloc ?_ _)); refine blk_put (cs := #[.int .i64 ((rd_T37 l0 x10_1).f0), .int .i64 ((rd_T37 l0 x10_1).f1.f0), .int .i64 ((rd_T37 l0 x10_1).f1.f1.f0), .int .i64 ((rd_T37 l0 x10_1).f1.f1.f1), .int .i64 ((rd_T37 l0 x10_1).f1.f2.f0), .int .i64 ((rd_T37 l0 x10_1).f1.f2.f1), .int .i64 ((rd_T37 l0 x10_1).f1.f3), .int .i64 0, .int .i64 0, .int .i64 0, .int .i64 0, .int .i64 0, .int .i64 0, .int .i64 0, .int .i64 0, .int .i64 0]) ?_ 7 _ rfl; (with_reducible repeat (first | refine blk_drewN ?_ _ | refine blk_drew ?_ | refine blk_alloc ?_ _)); refine blk_put (cs := #[.int .i64 ((rd_T37 l0 x10_1).f0), .int .i64 ((rd_T37 l0 x10_1).f1.f0), .int .i64 ((rd_T37 l0 x10_1).f1.f1.f0), .int .i64 ((rd_T37 l0 x10_1).f1.f1.f1), .int .i64 ((rd_T37 l0 x10_1).f1.f2.f0), .int .i64 ((rd_T37 l0 x10_1).f1.f2.f1), .int .i64 0, .int .i64 0, .int .i64 0, .int .i64 0, .int .i64 0, .int .i64 0, .int .i64 0, .int .i64 0, .int .i64 0, .int .i64 0]) ?_ 6 _ rfl; (with_reducible repeat (first | refine blk_drewN ?_ _ | refine blk_drew ?_ | refine blk_alloc ?_ _)); refine blk_put (cs := #[.int .i64 ((rd_T37 l0 x10_1).f0), .int .i64 ((rd_T37 l0 x10_1).f1.f0), .int .i64 ((rd_T37 l0 x10_1).f1.f1.f0), .int .i64 ((rd_T37 l0 x10_1).f1.f1.f1), .int .i64 ((rd_T37 l0 x10_1).f1.f2.f0), .int .i64 0, .int .i64 0, .int .i64 0, .int .i64 0, .int .i64 0, .int .i64 0, .int .i64 0, .int .i64 0, .int .i64 0, .int .i64 0, .int .i64 0]) ?_ 5 _ rfl; (with_reducible repeat (first | refine blk_drewN ?_ _ | refine blk_drew ?_ | refine blk_alloc ?_ _)); refine blk_put (cs := #[.int .i64 ((rd_T37 l0 x10_1).f0), .int .i64 ((rd_T37 l0 x10_1).f1.f0), .int .i64 ((rd_T37 l0 x10_1).f1.f1.f0), .int .i64 ((rd_T37 l0 x10_1).f1.f1.f1), .int .i64 0, .int .i64 0, .int .i64 0, .int .i64 0, .int .i64 0, .int .i64 0, .int .i64 0, .int .i64 0, .int .i64 0, .int .i64 0, .int .i64 0, .int .i64 0]) ?_ 4 _ rfl; (with_reducible repeat (first | refine blk_drewN ?_ _ | refine blk_drew ?_ | refine blk_alloc ?_ _)); refine blk_put (cs := #[.int .i64 ((rd_T37 l0 x10_1).f0), .int .i64 ((rd_T37 l0 x10_1).f1.f0), .int .i64 ((rd_T37 l0 x10_1).f1.f1.f0), .int .i64 0, .int .i64 0, .int .i64 0, .int .i64 0, .int .i64 0, .int .i64 0, .int .i64 0, .int .i64 0, .int .i64 0, .int .i64 0, .int .i64 0, .int .i64 0, .int .i64 0]) ?_ 3 _ rfl; (with_reducible repeat (first | refine blk_drewN ?_ _ | refine blk_drew ?_ | refine blk_alloc ?_ _)); refine blk_put (cs := #[.int .i64 ((rd_T37 l0 x10_1).f0), .int .i64 ((rd_T37 l0 x10_1).f1.f0), .int .i64 0, .int .i64 0, .int .i64 0, .int .i64 0, .int .i64 0, .int .i64 0, .int .i64 0, .int .i64 0, .int .i64 0, .int .i64 0, .int .i64 0, .int .i64 0, .int .i64 0, .int .i64 0]) ?_ 2 _ rfl; (with_reducible repeat (first | refine blk_drewN ?_ _ | refine blk_drew ?_ | refine blk_alloc ?_ _)); refine blk_put (cs := #[.int .i64 ((rd_T37 l0 x10_1).f0), .int .i64 0, .int .i64 0, .int .i64 0, .int .i64 0, .int .i64 0, .int .i64 0, .int .i64 0, .int .i64 0, .int .i64 0, .int .i64 0, .int .i64 0, .int .i64 0, .int .i64 0, .int .i64 0, .int .i64 0]) ?_ 1 _ rfl; (with_reducible repeat (first | refine blk_drewN ?_ _ | refine blk_drew ?_ | refine blk_alloc ?_ _)); refine blk_put (cs := #[.int .i64 0, .int .i64 0, .int .i64 0, .int .i64 0, .int .i64 0, .int .i64 0, .int .i64 0, .int .i64 0, .int .i64 0, .int .i64 0, .int .i64 0, .int .i64 0, .int .i64 0, .int .i64 0, .int .i64 0, .int .i64 0]) ?_ 0 _ rfl; (with_reducible repeat (first | refine blk_drewN ?_ _ | refine blk_drew ?_ | refine blk_alloc ?_ _)); exact BK316.out) hg (Kd.R_ne HO_5.out BK316.out (by decide))); have n1_ := Aside0.mk (hb); have n2_ := Aside0.mk (ho); clear BK316; clear HB; clear HO_5; have BK316 := n0_; have HB := n1_; have HO319 := n2_; clear n0_ n1_ n2_; clear ho hb hg hat))
        go_roundg k1
        case measure => have := HK1.out; omega
        case rel => exact ⟨(y317), (wrap64 (x10_1 + 1)), (by first | rfl | (simp; done) | (simp [*]; done)), H', ⟨by have := HK1.out; omega⟩, ⟨by (with_reducible repeat (first | apply Kd.R_alloc | apply Kd.R_drewN | apply Kd.R_drew)); exact HO319.out⟩, ⟨by repeat (first | (with_reducible first | exact HB.out | apply below_alloc | apply pw_below_drewN | apply below_drew1 | refine below_set ?_ GE316.out) | exact HB.out)⟩⟩
       ·rw [if_neg c7] at H
        exact absurd H (by simp)
      ·rw [if_neg c6] at H
       have c6b0 : (((rd_T37 l0 x10_1).f6) == a1) = false := beq_eq_false_iff_ne.mpr c6
       have c6b1 : (((rd_T37 l0 x10_1).f6) != a1) = true := bne_iff_ne.mpr c6
       have H' := Aside0.mk H
       clear H
       have p315 : 0 ≤ (x10_1 : Int) := of_decide_eq_true (by first | (with_reducible assumption) | assumption)
       have q315 : x10_1 < (l0.length : Int) := of_decide_eq_true (by first | (with_reducible assumption) | assumption)
       obtain ⟨ad315, e315, hx315_0, hx315_1, hx315_2, hx315_3, hx315_4, hx315_5, hx315_6, hx315_7, hx315_8, hx315_9, hx315_10, hx315_11, hx315_12, hx315_13, hx315_14, hx315_15⟩ := at_T37 HR0.out x10_1 p315 q315
       cases e315
       replace hx315_0 := (HB.out.cell (World.block_lt_of_cell? w _ hx315_0)).trans hx315_0
       replace hx315_1 := (HB.out.cell (World.block_lt_of_cell? w _ hx315_1)).trans hx315_1
       replace hx315_2 := (HB.out.cell (World.block_lt_of_cell? w _ hx315_2)).trans hx315_2
       replace hx315_3 := (HB.out.cell (World.block_lt_of_cell? w _ hx315_3)).trans hx315_3
       replace hx315_4 := (HB.out.cell (World.block_lt_of_cell? w _ hx315_4)).trans hx315_4
       replace hx315_5 := (HB.out.cell (World.block_lt_of_cell? w _ hx315_5)).trans hx315_5
       replace hx315_6 := (HB.out.cell (World.block_lt_of_cell? w _ hx315_6)).trans hx315_6
       replace hx315_7 := (HB.out.cell (World.block_lt_of_cell? w _ hx315_7)).trans hx315_7
       replace hx315_8 := (HB.out.cell (World.block_lt_of_cell? w _ hx315_8)).trans hx315_8
       replace hx315_9 := (HB.out.cell (World.block_lt_of_cell? w _ hx315_9)).trans hx315_9
       replace hx315_10 := (HB.out.cell (World.block_lt_of_cell? w _ hx315_10)).trans hx315_10
       replace hx315_11 := (HB.out.cell (World.block_lt_of_cell? w _ hx315_11)).trans hx315_11
       replace hx315_12 := (HB.out.cell (World.block_lt_of_cell? w _ hx315_12)).trans hx315_12
       replace hx315_13 := (HB.out.cell (World.block_lt_of_cell? w _ hx315_13)).trans hx315_13
       replace hx315_14 := (HB.out.cell (World.block_lt_of_cell? w _ hx315_14)).trans hx315_14
       replace hx315_15 := (HB.out.cell (World.block_lt_of_cell? w _ hx315_15)).trans hx315_15
       replace p315 := eq_true p315
       replace q315 := eq_true q315
       go_wp2_with (first | ((with_reducible refine gate_dst (N := 7) rfl ?_); refine box_event ?hg (N := 7) ?hd (cs := #[.int .i64 0, .int .i64 0, .int .i64 0, .int .i64 0, .int .i64 0, .int .i64 0, .int .i64 0, .int .i64 0, .int .i64 0, .int .i64 0, .int .i64 0, .int .i64 0, .int .i64 0, .int .i64 0, .int .i64 0, .int .i64 0]) (t := 37) ?hr ?_; (case hd => rfl); (case hg => rfl); (case hr => first | (go_simp; done) | (go_simp; rfl)); intro gb316 hg w11 hbox hb; have n0_ := Aside0.mk (Kd.R_below (by (with_reducible repeat (first | apply Kd.R_alloc | apply Kd.R_drewN | apply Kd.R_drew)); exact HO_5.out) hb); have n1_ := Aside0.mk (below_step (by repeat (first | (with_reducible first | exact HB.out | apply below_alloc | apply pw_below_drewN | apply below_drew1) | exact HB.out)) hb); have n2_ := Aside0.mk (hbox); have n3_ := Aside0.mk ((by rw [hg]; exact (below_size (by repeat (first | (with_reducible first | exact HB.out | apply below_alloc | apply pw_below_drewN | apply below_drew1) | exact HB.out))) : w.heap.size ≤ gb316)); have n4_ := Aside0.mk ((by rw [hg]; exact (below_size (by repeat (first | (with_reducible first | exact HB.out | apply below_alloc | apply pw_below_drewN | apply below_drew1) | exact HB.out))) : w.heap.size ≤ gb316)); clear HO_5; clear HB; have HO_5 := n0_; have HB := n1_; have BK316 := n2_; have GW316 := n3_; have GE316 := n4_; clear n0_ n1_ n2_ n3_ n4_; clear hb hbox hg; have hcz12_0 : w11.cell? ⟨gb316, 0, none⟩ = some (.int .i64 0) := (blk_cell BK316.out 0).trans rfl; have hcz12_1 : w11.cell? ⟨gb316, 1, none⟩ = some (.int .i64 0) := (blk_cell BK316.out 1).trans rfl; have hcz12_2 : w11.cell? ⟨gb316, 2, none⟩ = some (.int .i64 0) := (blk_cell BK316.out 2).trans rfl; have hcz12_3 : w11.cell? ⟨gb316, 3, none⟩ = some (.int .i64 0) := (blk_cell BK316.out 3).trans rfl; have hcz12_4 : w11.cell? ⟨gb316, 4, none⟩ = some (.int .i64 0) := (blk_cell BK316.out 4).trans rfl; have hcz12_5 : w11.cell? ⟨gb316, 5, none⟩ = some (.int .i64 0) := (blk_cell BK316.out 5).trans rfl; have hcz12_6 : w11.cell? ⟨gb316, 6, none⟩ = some (.int .i64 0) := (blk_cell BK316.out 6).trans rfl; have hcz12_7 : w11.cell? ⟨gb316, 7, none⟩ = some (.int .i64 0) := (blk_cell BK316.out 7).trans rfl; have hcz12_8 : w11.cell? ⟨gb316, 8, none⟩ = some (.int .i64 0) := (blk_cell BK316.out 8).trans rfl; have hcz12_9 : w11.cell? ⟨gb316, 9, none⟩ = some (.int .i64 0) := (blk_cell BK316.out 9).trans rfl; have hcz12_10 : w11.cell? ⟨gb316, 10, none⟩ = some (.int .i64 0) := (blk_cell BK316.out 10).trans rfl; have hcz12_11 : w11.cell? ⟨gb316, 11, none⟩ = some (.int .i64 0) := (blk_cell BK316.out 11).trans rfl; have hcz12_12 : w11.cell? ⟨gb316, 12, none⟩ = some (.int .i64 0) := (blk_cell BK316.out 12).trans rfl; have hcz12_13 : w11.cell? ⟨gb316, 13, none⟩ = some (.int .i64 0) := (blk_cell BK316.out 13).trans rfl; have hcz12_14 : w11.cell? ⟨gb316, 14, none⟩ = some (.int .i64 0) := (blk_cell BK316.out 14).trans rfl; have hcz12_15 : w11.cell? ⟨gb316, 15, none⟩ = some (.int .i64 0) := (blk_cell BK316.out 15).trans rfl; have hfz12_0 := blk_frozen BK316.out 0; have hfz12_1 := blk_frozen BK316.out 1; have hfz12_2 := blk_frozen BK316.out 2; have hfz12_3 := blk_frozen BK316.out 3; have hfz12_4 := blk_frozen BK316.out 4; have hfz12_5 := blk_frozen BK316.out 5; have hfz12_6 := blk_frozen BK316.out 6; have hfz12_7 := blk_frozen BK316.out 7; have hfz12_8 := blk_frozen BK316.out 8; have hfz12_9 := blk_frozen BK316.out 9; have hfz12_10 := blk_frozen BK316.out 10; have hfz12_11 := blk_frozen BK316.out 11; have hfz12_12 := blk_frozen BK316.out 12; have hfz12_13 := blk_frozen BK316.out 13; have hfz12_14 := blk_frozen BK316.out 14; have hfz12_15 := blk_frozen BK316.out 15))
       go_roundg k1
       case measure => have := HK1.out; omega
       case rel => exact ⟨(x5_1), (wrap64 (x10_1 + 1)), (by first | rfl | (simp; done) | (simp [*]; done)), H', ⟨by have := HK1.out; omega⟩, ⟨by (with_reducible repeat (first | apply Kd.R_alloc | apply Kd.R_drewN | apply Kd.R_drew)); exact Kd.R_mono (Kd.R_far (p := ⟨gb316, 15, none⟩) (Kd.R_far (p := ⟨gb316, 14, none⟩) (Kd.R_far (p := ⟨gb316, 13, none⟩) (Kd.R_far (p := ⟨gb316, 12, none⟩) (Kd.R_far (p := ⟨gb316, 11, none⟩) (Kd.R_far (p := ⟨gb316, 10, none⟩) (Kd.R_far (p := ⟨gb316, 9, none⟩) (Kd.R_far (p := ⟨gb316, 8, none⟩) (Kd.R_far (p := ⟨gb316, 7, none⟩) (Kd.R_far (p := ⟨gb316, 6, none⟩) (Kd.R_far (p := ⟨gb316, 5, none⟩) (Kd.R_far (p := ⟨gb316, 4, none⟩) (Kd.R_far (p := ⟨gb316, 3, none⟩) (Kd.R_far (p := ⟨gb316, 2, none⟩) (Kd.R_far (p := ⟨gb316, 1, none⟩) (Kd.R_far (p := ⟨gb316, 0, none⟩) (Kd.R_types HO_5.out BK316.out (by decide)) (fun _ hk => hk.2) (.int .i64 ((rd_T37 l0 x10_1).f0))) (fun _ hk => hk.2) (.int .i64 ((rd_T37 l0 x10_1).f1.f0))) (fun _ hk => hk.2) (.int .i64 ((rd_T37 l0 x10_1).f1.f1.f0))) (fun _ hk => hk.2) (.int .i64 ((rd_T37 l0 x10_1).f1.f1.f1))) (fun _ hk => hk.2) (.int .i64 ((rd_T37 l0 x10_1).f1.f2.f0))) (fun _ hk => hk.2) (.int .i64 ((rd_T37 l0 x10_1).f1.f2.f1))) (fun _ hk => hk.2) (.int .i64 ((rd_T37 l0 x10_1).f1.f3))) (fun _ hk => hk.2) (.int .i64 ((rd_T37 l0 x10_1).f1.f4))) (fun _ hk => hk.2) (.int .i64 ((rd_T37 l0 x10_1).f2))) (fun _ hk => hk.2) (.int .i64 ((rd_T37 l0 x10_1).f3))) (fun _ hk => hk.2) (.int .i64 ((rd_T37 l0 x10_1).f4))) (fun _ hk => hk.2) (.int .i64 ((rd_T37 l0 x10_1).f5.f0))) (fun _ hk => hk.2) (.int .i64 ((rd_T37 l0 x10_1).f5.f1))) (fun _ hk => hk.2) (.int .i64 ((rd_T37 l0 x10_1).f5.f2))) (fun _ hk => hk.2) (.int .i64 ((rd_T37 l0 x10_1).f6))) (fun _ hk => hk.2) (.int .i64 ((rd_T37 l0 x10_1).f7))) (fun _ hk => trivial)⟩, ⟨by repeat (first | (with_reducible first | exact HB.out | apply below_alloc | apply pw_below_drewN | apply below_drew1 | refine below_set ?_ GE316.out) | exact HB.out)⟩⟩
     ·rw [if_neg c5] at H
      exact absurd H (by simp)
    ·rw [if_neg c4] at H
     exact absurd H (by simp)
   ·rw [if_neg c3] at H
    have c3b0 : decide (x10_1 < (l0.length : Int)) = false := decide_eq_false c3
    clear c3
    obtain rfl := Option.some.inj H
    go_wp2
    go_ret
    exact ⟨_, by first | rfl | (simp [errW_none, errW_some] <;> rfl) | (simp [*, errW_none, errW_some] <;> rfl), by (with_reducible repeat (first | apply Kd.R_alloc | apply Kd.R_drewN | apply Kd.R_drew)); exact HO_5.out, by repeat (first | (with_reducible first | exact HB.out | apply below_alloc | apply pw_below_drewN | apply below_drew1) | exact HB.out)⟩

/-! ### barrowref32_ends: function 47 -/
def barrowref32_ends.f (a0 : Int) : Option (Bool) := if a0 ≥ (-256) then (some (decide (a0 ≤ 512))) else (some false)
set_option maxHeartbeats 8000000 in
set_option maxRecDepth 100000 in
theorem barrowref32_ends.calls (a0 : Int) (r : Bool) (w : World) (h : barrowref32_ends.f a0 = some r) :
  Calls Try.prog 47 #[.int .i64 a0] w fun e w' => e = .returned (.bool r) ∧ Drawn0 w w' := by
 have H : (if a0 ≥ (-256) then (some (decide (a0 ≤ 512))) else (some false)) = some r := h
 clear h
 by_cases c2 : a0 ≥ (-256)
 ·rw [if_pos c2] at H
  have c2b0 : decide ((-256) ≤ a0) = true := decide_eq_true c2
  clear c2
  obtain rfl := Option.some.inj H
  go_enter Try.func47, Try.ntmps47
  go_wp2
  go_ret
  exact ⟨by first | rfl | (simp; done) | (simp [*]; done), by repeat (first | exact Drawn0.refl _ | apply Drawn0.step)⟩
 ·rw [if_neg c2] at H
  have c2b0 : decide ((-256) ≤ a0) = false := decide_eq_false c2
  clear c2
  obtain rfl := Option.some.inj H
  go_enter Try.func47, Try.ntmps47
  go_wp2
  go_ret
  exact ⟨by first | rfl | (simp; done) | (simp [*]; done), by repeat (first | exact Drawn0.refl _ | apply Drawn0.step)⟩

/-! ### barrowref01_Add: function 28 -/
def barrowref01_Add.j0 : Nat → Int → Int → Bool → Option (Int)
  | 0, _, _, _ => none
  | k + 1, x0, x1, x12 => if x12 = true then (some 9223372036854775807) else (if x0 < 0 then (if x1 < (wrap64 ((-9223372036854775808) - x0)) then (some (-9223372036854775808)) else (some (wrap64 (x0 + x1)))) else (some (wrap64 (x0 + x1))))
def barrowref01_Add.f (k : Nat) (a0 : Int) (a1 : Int) : Option (Int) := if a0 > 0 then (barrowref01_Add.j0 k a0 a1 (decide (a1 > (wrap64 (9223372036854775807 - a0))))) else (barrowref01_Add.j0 k a0 a1 false)
theorem barrowref01_Add.mono_l : ∀ k, (∀ y0 y1 y2, LeO (barrowref01_Add.j0 k y0 y1 y2) (barrowref01_Add.j0 (k + 1) y0 y1 y2))
  | 0 => fun _ _ _ r h => by simp [barrowref01_Add.j0] at h
  | k + 1 => by
    have ih0 := barrowref01_Add.mono_l k
    · intro y0 y1 y2
      unfold barrowref01_Add.j0
      repeat' first
      | (with_reducible exact ih0 _ _ _)
      | (with_reducible exact LeO.refl _)
      | (with_reducible exact LeO.none _)
      | (with_reducible refine LeO.ite ?_ ?_)
      | (with_reducible refine LeO.bind ?_ (fun _ => ?_))
      | exact ih0 _ _ _
      | exact LeO.none _
      | refine LeO.ite ?_ ?_
      | refine LeO.bind ?_ (fun _ => ?_)
theorem barrowref01_Add.mono : ∀ a0 a1 k, LeO (barrowref01_Add.f k a0 a1) (barrowref01_Add.f (k + 1) a0 a1) := by
  intro a0 a1 k
  have ih0 := barrowref01_Add.mono_l k
  unfold barrowref01_Add.f
  repeat' first
      | (with_reducible exact ih0 _ _ _)
      | (with_reducible exact LeO.refl _)
      | (with_reducible exact LeO.none _)
      | (with_reducible refine LeO.ite ?_ ?_)
      | (with_reducible refine LeO.bind ?_ (fun _ => ?_))
      | exact ih0 _ _ _
      | exact LeO.none _
      | refine LeO.ite ?_ ?_
      | refine LeO.bind ?_ (fun _ => ?_)
set_option maxHeartbeats 8000000 in
set_option maxRecDepth 100000 in
theorem barrowref01_Add.calls (k : Nat) (a0 : Int) (a1 : Int) (r : Int) (w : World) (h : barrowref01_Add.f k a0 a1 = some r) :
    Calls Try.prog 28 #[.int .i64 a0, .int .i64 a1] w fun e w' => e = .returned (.int .i64 r) ∧ Drawn0 w w' := by
  have H : (if a0 > 0 then (barrowref01_Add.j0 k a0 a1 (decide (a1 > (wrap64 (9223372036854775807 - a0))))) else (barrowref01_Add.j0 k a0 a1 false)) = some r := h
  clear h
  have HC3 := Aside0.mk H
  clear H
  go_enter Try.func28, Try.ntmps28
  go_upto_region 1 with (fail)
  go_cut [12] (fun v12 wc => ∃ (kq : Nat) (x12_2 : Bool), v12 = .bool x12_2 ∧ Aside0 (barrowref01_Add.j0 kq a0 a1 x12_2 = some r) ∧ Aside0 (kq ≤ k) ∧ Drawn0 w wc)
  case first =>
    have H := HC3.out
    clear HC3
    by_cases c4 : a0 > 0
    · rw [if_pos c4] at H
      have c4b0 : decide (0 < a0) = true := decide_eq_true c4
      clear c4
      (first | rw [c4b0] | (simp only [i64_w, i32_w]; rw [c4b0]) | skip)
      have H' := Aside0.mk H
      clear H
      go_wp2
      go_meet
      case rel => exact ⟨_, (decide (a1 > (wrap64 (9223372036854775807 - a0)))), (by first | rfl | (simp; done) | (simp [*]; done)), H', ⟨by first | omega | exact Nat.le_refl _⟩, by repeat (first | exact Drawn0.refl _ | apply Drawn0.step)⟩
    · rw [if_neg c4] at H
      have c4b0 : decide (0 < a0) = false := decide_eq_false c4
      clear c4
      (first | rw [c4b0] | (simp only [i64_w, i32_w]; rw [c4b0]) | skip)
      have H' := Aside0.mk H
      clear H
      go_wp2
      go_meet
      case rel => exact ⟨_, (false), (by first | rfl | (simp; done) | (simp [*]; done)), H', ⟨by first | omega | exact Nat.le_refl _⟩, by repeat (first | exact Drawn0.refl _ | apply Drawn0.step)⟩
  case rest =>
    clear HC3
    try clear c2
    try clear p2
    try clear c4
    try clear c4b0
    obtain ⟨kq, x12_2, rfl, HA, HJ2, ⟨mc2, rfl⟩⟩ := hcut
    cases kq with
    | zero => exact absurd HA.out (by simp [barrowref01_Add.j0])
    | succ kj2 =>
      have H := HA.out
      clear HA
      simp only [barrowref01_Add.j0] at H
      by_cases c5 : x12_2 = true
      · subst c5
        have H1 : (some 9223372036854775807) = some r := by rw [if_pos rfl] at H; exact H
        clear H
        have H := H1
        clear H1
        obtain rfl := Option.some.inj H
        go_wp2
        go_ret
        exact ⟨by first | rfl | (simp; done) | (simp [*]; done), by repeat (first | exact Drawn0.refl _ | apply Drawn0.step)⟩
      · replace c5 := Bool.eq_false_iff.mpr c5
        subst c5
        have H1 : (if a0 < 0 then (if a1 < (wrap64 ((-9223372036854775808) - a0)) then (some (-9223372036854775808)) else (some (wrap64 (a0 + a1)))) else (some (wrap64 (a0 + a1)))) = some r := by rw [if_neg (show ¬ (false = true) by decide)] at H; exact H
        clear H
        have H := H1
        clear H1
        by_cases c6 : a0 < 0
        · rw [if_pos c6] at H
          have c6b0 : decide (a0 < 0) = true := decide_eq_true c6
          clear c6
          by_cases c7 : a1 < (wrap64 ((-9223372036854775808) - a0))
          · rw [if_pos c7] at H
            have c7b0 : decide (a1 < (wrap64 ((-9223372036854775808) - a0))) = true := decide_eq_true c7
            clear c7
            obtain rfl := Option.some.inj H
            go_wp2
            go_ret
            exact ⟨by first | rfl | (simp; done) | (simp [*]; done), by repeat (first | exact Drawn0.refl _ | apply Drawn0.step)⟩
          · rw [if_neg c7] at H
            have c7b0 : decide (a1 < (wrap64 ((-9223372036854775808) - a0))) = false := decide_eq_false c7
            clear c7
            obtain rfl := Option.some.inj H
            go_wp2
            go_ret
            exact ⟨by first | rfl | (simp; done) | (simp [*]; done), by repeat (first | exact Drawn0.refl _ | apply Drawn0.step)⟩
        · rw [if_neg c6] at H
          have c6b0 : decide (a0 < 0) = false := decide_eq_false c6
          clear c6
          obtain rfl := Option.some.inj H
          go_wp2
          go_ret
          exact ⟨by first | rfl | (simp; done) | (simp [*]; done), by repeat (first | exact Drawn0.refl _ | apply Drawn0.step)⟩
/-! ### barrowref33_Copy: function 32 -/
def barrowref33_Copy.f (l0 : List (S37)) : Option ((List (S37))) := (some (([] : List (S37)) : List (S37))).bind fun y536 => (if y536.length + l0.length < 1099511627776 then ((some (y536 ++ l0 : List (S37))).bind fun y537 => (some y537)) else (none))
def barrowref33_Copy.Post (r : List (S37)) (S : Nat → Prop) (L : List Asr) (w : World) (e : Ending) (w' : World) : Prop := ∃ (Ar1 : Option Addr) (cr1 : Nat), e = .returned (.slice Ar1 r.length cr1) ∧ SL (row k37 37 (.slice Ar1 r.length cr1) r :: L) w' S ∧ Keep S w w'
set_option maxHeartbeats 8000000 in
set_option maxRecDepth 100000 in
theorem barrowref33_Copy.slcalls (A0 : Option Addr) (c0 : Nat) (l0 : List (S37)) (r : List (S37)) (S : Nat → Prop) (L : List Asr) (w : World) (hf : Fresh S w) (hs : SL (L) w S) (hr0 : RO S w (fun w_ => Kd.C k37 w_ A0 l0.length l0)) (hc0 : l0.length ≤ c0) (h : barrowref33_Copy.f l0 = some r) :
    Calls Try.prog 32 #[.slice A0 l0.length c0] w (barrowref33_Copy.Post r S L w) := by
  have HR0 := Aside0.mk hr0
  have HC0 := Aside0.mk hc0
  clear hr0 hc0
  have HF := Aside0.mk hf
  have HS := Aside0.mk hs
  have HK := Aside0.mk (Keep.refl S w)
  clear hf hs
  have H : ((some (([] : List (S37)) : List (S37))).bind fun y536 => (if y536.length + l0.length < 1099511627776 then ((some (y536 ++ l0 : List (S37))).bind fun y537 => (some y537)) else (none))) = some r := h
  clear h
  replace H := Option.bind_eq_some_iff.1 H
  obtain ⟨y536, hy5360, H⟩ := H
  try dsimp only at H
  have hy536 := Option.some.inj hy5360
  clear hy5360
  have Ny536 := Aside0.mk hy536
  clear hy536
  by_cases c1 : y536.length + l0.length < 1099511627776
  · rw [if_pos c1] at H
    have LMc1 := Aside0.mk c1
    clear c1
    replace H := Option.bind_eq_some_iff.1 H
    obtain ⟨y537, hy5370, H⟩ := H
    try dsimp only at H
    have hy537 := Option.some.inj hy5370
    clear hy5370
    have Ny537 := Aside0.mk hy537
    clear hy537
    obtain rfl := Option.some.inj H
    go_enter Try.func32, Try.ntmps32
    go_wp2_with (first | ((with_reducible refine gate_dst (N := 3) rfl ?_); refine wpList_plain rfl (fun K_ hK_ => ?_); refine op_rowF (S := S) (d := k37) ⟨fun h_ => h_⟩ 37 y536 #[] 0 (by rw [← Ny536.out]; exact Reps.none _ _) (by rw [← Ny536.out]; rfl) (by decide) (HF.out.keep HK.out) HS.out (by first | (go_simp; done) | (go_simp; rfl)) ?_; intro Az3000065 cz3000065 w2 hs_ hk_; refine hK_ _ _ ?_; clear hK_ K_; replace HS := Aside0.mk ((show SL (row k37 37 (.slice Az3000065 0 cz3000065) y536 :: _) _ _ from hs_)); replace HK := Aside0.mk (HK.out.trans hk_)) | ((with_reducible refine gate_dst (N := 5) rfl ?_); refine wpList_plain rfl (fun K_ hK_ => ?_); refine op_appendF (S := S) (d := k37) ⟨fun h_ => h_⟩ (.tmp 3) (.tmp 4) 22 37 (.agg #[(.int .i64 0), (.int .i64 0), (.int .i64 0), (.int .i64 0), (.int .i64 0), (.int .i64 0), (.int .i64 0), (.int .i64 0), (.int .i64 0), (.int .i64 0), (.int .i64 0), (.int .i64 0), (.int .i64 0), (.int .i64 0), (.int .i64 0), (.int .i64 0)]) 128 rfl Try.underlying22 info37 rfl (by decide) (by decide) (.slice Az3000065 0 cz3000065) rfl rfl (HF.out.keep HK.out) HS.out (RO.at_ HR0.out HK.out) (by have := LMc1.out; omega) y537 Ny537.out ?_; intro A538 c539 w3 hs_ hk_; refine hK_ _ _ ?_; clear hK_ K_; replace HS := Aside0.mk ((show SL (row k37 37 (.slice A538 y537.length c539) y537 :: _) _ _ from hs_)); replace HK := Aside0.mk (HK.out.trans hk_)))
    go_ret
    unfold barrowref33_Copy.Post
    exact ⟨A538, c539, by first | rfl | (simp; done) | (simp [*]; done) | (simp at c1b0 ⊢; first | exact c1b0 | (simp [c1b0]; done)), HS.out, HK.out⟩
  · rw [if_neg c1] at H
    exact absurd H (by simp)
/-! ### barrowref33_Of: function 23 -/
def barrowref33_Of.l0 : Nat → List (S37) → Int → List Int → Int → Option (List Int)
 | 0, _, _, _, _ => none
 | k + 1, x0, x1, x5, x6 => if x6 < (x0.length : Int) then (if 0 ≤ x6 then (if ((rd_T37 x0 x6).f6) = x1 then (if x5.length < 17592186044416 then (barrowref33_Of.l0 k x0 x1 (x5 ++ [(rd_T37 x0 x6).f0]) (wrap64 (x6 + 1))) else (none)) else (barrowref33_Of.l0 k x0 x1 x5 (wrap64 (x6 + 1)))) else (none)) else (some x5)
def barrowref33_Of.f (k : Nat) (l0 : List (S37)) (a1 : Int) : Option (List Int) := barrowref33_Of.l0 k l0 a1 ([] : List Int) 0
theorem barrowref33_Of.mono_l : ∀ k, (∀ y0 y1 y2 y3, LeO (barrowref33_Of.l0 k y0 y1 y2 y3) (barrowref33_Of.l0 (k + 1) y0 y1 y2 y3))
 | 0 => fun _ _ _ _ r h => by simp [barrowref33_Of.l0] at h
 | k + 1 => by
  have ih0 := barrowref33_Of.mono_l k
  ·intro y0 y1 y2 y3
   unfold barrowref33_Of.l0
   repeat' first
   | (with_reducible exact ih0 _ _ _ _)
   | (with_reducible exact LeO.refl _)
   | (with_reducible exact LeO.none _)
   | (with_reducible refine LeO.ite ?_ ?_)
   | (with_reducible refine LeO.bind ?_ (fun _ => ?_))
   | exact ih0 _ _ _ _
   | exact LeO.none _
   | refine LeO.ite ?_ ?_
   | refine LeO.bind ?_ (fun _ => ?_)
theorem barrowref33_Of.mono : ∀ a0 a1 k, LeO (barrowref33_Of.f k a0 a1) (barrowref33_Of.f (k + 1) a0 a1) := by
 intro a0 a1 k
 have ih0 := barrowref33_Of.mono_l k
 unfold barrowref33_Of.f
 repeat' first
   | (with_reducible exact ih0 _ _ _ _)
   | (with_reducible exact LeO.refl _)
   | (with_reducible exact LeO.none _)
   | (with_reducible refine LeO.ite ?_ ?_)
   | (with_reducible refine LeO.bind ?_ (fun _ => ?_))
   | exact ih0 _ _ _ _
   | exact LeO.none _
   | refine LeO.ite ?_ ?_
   | refine LeO.bind ?_ (fun _ => ?_)
set_option maxHeartbeats 8000000 in
set_option maxRecDepth 100000 in
theorem barrowref33_Of.calls (k : Nat) (A0 : Option Addr) (c0 : Nat) (l0 : List (S37)) (a1 : Int) (r : List Int) (w : World) (hr0 : Kd.C k37 w A0 l0.length l0) (hc0 : l0.length ≤ c0) (h : barrowref33_Of.f k l0 a1 = some r) :
  Calls Try.prog 23 #[.slice A0 l0.length c0, .int .i64 a1] w fun e w' => ∃ v0_ : Value, e = .returned (v0_) ∧ Kd.R (Kd.int .i64) 3 w' w.heap.size (fun _ => True) v0_ r ∧ Below w.heap.size w w' := by
 have HR0 := Aside0.mk hr0
 have HC0 := Aside0.mk hc0
 clear hr0 hc0
 have HB := Aside0.mk (Below.refl w.heap.size w)
 have H : (barrowref33_Of.l0 k l0 a1 ([] : List Int) 0) = some r := h
 clear h
 have H' := Aside0.mk H
 clear H
 go_enter Try.func23, Try.ntmps23
 go_wp2
 go_loopg [5, 6] k (fun kq v5 v6 w' => ∃ (x5_1 : List Int) (x6_1 : Int), v6 = .int .i64 x6_1 ∧ Aside0 (barrowref33_Of.l0 kq l0 a1 x5_1 x6_1 = some r) ∧ Aside0 (kq ≤ k) ∧ Aside0 (Kd.R (Kd.int .i64) 3 w' w.heap.size (fun _ => True) v5 x5_1) ∧ Aside0 (Below w.heap.size w w'))
 case atStart => exact ⟨(([] : List Int)), (0), (by first | rfl | (simp; done) | (simp [*]; done)), H', ⟨Nat.le_refl _⟩, ⟨by first | exact Kd.R_nil _ _ _ _ _ | exact Kd.N_nil _ _ _ _ _ | exact Kd.V_nil _ _ _ _ _ | exact Kd.Q_nil _ _ _ _ _ | exact Kd.S_nil _ _ _ _ _⟩, ⟨by repeat (first | (with_reducible first | exact HB.out | apply below_alloc | apply pw_below_drewN | apply below_drew1) | exact HB.out)⟩⟩
 case round =>
  clear H'
  try clear c2
  try clear p2
  obtain ⟨x5_1, x6_1, rfl, HA, HK1, HO_5, HB⟩ := hrel
  cases gk with
  | zero => exact absurd HA.out (by simp [barrowref33_Of.l0])
  | succ k1 =>
   have H := HA.out
   clear HA
   simp only [barrowref33_Of.l0] at H
   by_cases c3 : x6_1 < (l0.length : Int)
   ·rw [if_pos c3] at H
    have c3b0 : decide (x6_1 < (l0.length : Int)) = true := decide_eq_true c3
    clear c3
    by_cases c4 : 0 ≤ x6_1
    ·rw [if_pos c4] at H
     have c4b0 : decide (0 ≤ x6_1) = true := decide_eq_true c4
     clear c4
     by_cases c5 : ((rd_T37 l0 x6_1).f6) = a1
     ·rw [if_pos c5] at H
      have c5b0 : (((rd_T37 l0 x6_1).f6) == a1) = true := beq_iff_eq.mpr c5
      have c5b1 : (((rd_T37 l0 x6_1).f6) != a1) = false := bne_eq_false_iff_eq.mpr c5
      clear c5
      by_cases c6 : x5_1.length < 17592186044416
      ·rw [if_pos c6] at H
       have LMc6 := Aside0.mk c6
       clear c6
       obtain ⟨y610, hy610⟩ : ∃ y_ : List Int, y_ = (x5_1 ++ [(rd_T37 l0 x6_1).f0]) := ⟨_, rfl⟩
       replace H : (barrowref33_Of.l0 k1 l0 a1 y610 (wrap64 (x6_1 + 1))) = some r := by first | (rw [hy610]; with_reducible exact H) | (have H2_ := (Option.bind_some _ _).symm.trans H; rw [hy610]; with_reducible exact H2_) | (have H2_ := (Option.bind_some _ _).symm.trans H; with_reducible exact H2_) | with_reducible exact H | (rw [hy610]; exact H) | exact H
       have Ny610 := Aside0.mk hy610
       clear hy610
       have H' := Aside0.mk H
       clear H
       have p608 : 0 ≤ (x6_1 : Int) := of_decide_eq_true (by first | (with_reducible assumption) | assumption)
       have q608 : x6_1 < (l0.length : Int) := of_decide_eq_true (by first | (with_reducible assumption) | assumption)
       obtain ⟨ad608, e608, hx608_0, hx608_1, hx608_2, hx608_3, hx608_4, hx608_5, hx608_6, hx608_7, hx608_8, hx608_9, hx608_10, hx608_11, hx608_12, hx608_13, hx608_14, hx608_15⟩ := at_T37 HR0.out x6_1 p608 q608
       cases e608
       replace hx608_0 := (HB.out.cell (World.block_lt_of_cell? w _ hx608_0)).trans hx608_0
       replace hx608_1 := (HB.out.cell (World.block_lt_of_cell? w _ hx608_1)).trans hx608_1
       replace hx608_2 := (HB.out.cell (World.block_lt_of_cell? w _ hx608_2)).trans hx608_2
       replace hx608_3 := (HB.out.cell (World.block_lt_of_cell? w _ hx608_3)).trans hx608_3
       replace hx608_4 := (HB.out.cell (World.block_lt_of_cell? w _ hx608_4)).trans hx608_4
       replace hx608_5 := (HB.out.cell (World.block_lt_of_cell? w _ hx608_5)).trans hx608_5
       replace hx608_6 := (HB.out.cell (World.block_lt_of_cell? w _ hx608_6)).trans hx608_6
       replace hx608_7 := (HB.out.cell (World.block_lt_of_cell? w _ hx608_7)).trans hx608_7
       replace hx608_8 := (HB.out.cell (World.block_lt_of_cell? w _ hx608_8)).trans hx608_8
       replace hx608_9 := (HB.out.cell (World.block_lt_of_cell? w _ hx608_9)).trans hx608_9
       replace hx608_10 := (HB.out.cell (World.block_lt_of_cell? w _ hx608_10)).trans hx608_10
       replace hx608_11 := (HB.out.cell (World.block_lt_of_cell? w _ hx608_11)).trans hx608_11
       replace hx608_12 := (HB.out.cell (World.block_lt_of_cell? w _ hx608_12)).trans hx608_12
       replace hx608_13 := (HB.out.cell (World.block_lt_of_cell? w _ hx608_13)).trans hx608_13
       replace hx608_14 := (HB.out.cell (World.block_lt_of_cell? w _ hx608_14)).trans hx608_14
       replace hx608_15 := (HB.out.cell (World.block_lt_of_cell? w _ hx608_15)).trans hx608_15
       replace p608 := eq_true p608
       replace q608 := eq_true q608
       have p609 : 0 ≤ (x6_1 : Int) := of_decide_eq_true (by first | (with_reducible assumption) | assumption)
       have q609 : x6_1 < (l0.length : Int) := of_decide_eq_true (by first | (with_reducible assumption) | assumption)
       obtain ⟨ad609, e609, hx609_0, hx609_1, hx609_2, hx609_3, hx609_4, hx609_5, hx609_6, hx609_7, hx609_8, hx609_9, hx609_10, hx609_11, hx609_12, hx609_13, hx609_14, hx609_15⟩ := at_T37 HR0.out x6_1 p609 q609
       obtain rfl : ad608 = ad609 := (by injection e609)
       replace hx609_0 := (HB.out.cell (World.block_lt_of_cell? w _ hx609_0)).trans hx609_0
       replace hx609_1 := (HB.out.cell (World.block_lt_of_cell? w _ hx609_1)).trans hx609_1
       replace hx609_2 := (HB.out.cell (World.block_lt_of_cell? w _ hx609_2)).trans hx609_2
       replace hx609_3 := (HB.out.cell (World.block_lt_of_cell? w _ hx609_3)).trans hx609_3
       replace hx609_4 := (HB.out.cell (World.block_lt_of_cell? w _ hx609_4)).trans hx609_4
       replace hx609_5 := (HB.out.cell (World.block_lt_of_cell? w _ hx609_5)).trans hx609_5
       replace hx609_6 := (HB.out.cell (World.block_lt_of_cell? w _ hx609_6)).trans hx609_6
       replace hx609_7 := (HB.out.cell (World.block_lt_of_cell? w _ hx609_7)).trans hx609_7
       replace hx609_8 := (HB.out.cell (World.block_lt_of_cell? w _ hx609_8)).trans hx609_8
       replace hx609_9 := (HB.out.cell (World.block_lt_of_cell? w _ hx609_9)).trans hx609_9
       replace hx609_10 := (HB.out.cell (World.block_lt_of_cell? w _ hx609_10)).trans hx609_10
       replace hx609_11 := (HB.out.cell (World.block_lt_of_cell? w _ hx609_11)).trans hx609_11
       replace hx609_12 := (HB.out.cell (World.block_lt_of_cell? w _ hx609_12)).trans hx609_12
       replace hx609_13 := (HB.out.cell (World.block_lt_of_cell? w _ hx609_13)).trans hx609_13
       replace hx609_14 := (HB.out.cell (World.block_lt_of_cell? w _ hx609_14)).trans hx609_14
       replace hx609_15 := (HB.out.cell (World.block_lt_of_cell? w _ hx609_15)).trans hx609_15
       replace p609 := eq_true p609
       replace q609 := eq_true q609
       go_wp2_with (first | ((with_reducible refine gate_builtin (b := .append) (xs := #[.tmp 20, .tmp 26]) rfl ?_); at_builtin; refine Kd.R_append (Kd.int .i64) (w0 := w) w.heap.size rfl (.tmp 20) (.tmp 26) 52 3 (.int .i64 0) 8 rfl Try.underlying52 info3 rfl (by decide) (by omega) u5 x5_1 ((rd_T37 l0 x6_1).f0) [.int .i64 ((rd_T37 l0 x6_1).f0)] (fun _ => True) (fun _ => False) rfl rfl ?aP (fun _ hk => hk.elim) ?aF ?aO ?aB ?aS ?aL ?_; (case aP => exact rfl); (case aB => exact (by repeat (first | (with_reducible first | exact HB.out | apply below_alloc | apply pw_below_drewN | apply below_drew1) | exact HB.out))); (case aF => exact (fun _ _ => trivial)); (case aO => exact (by (with_reducible repeat (first | apply Kd.R_alloc | apply Kd.R_drewN | apply Kd.R_drew)); exact HO_5.out)); (case aS => exact (below_size (by repeat (first | (with_reducible first | exact HB.out | apply below_alloc | apply pw_below_drewN | apply below_drew1) | exact HB.out)))); (case aL => have := LMc6.out; omega); intro v611 w7 ho hb hg hat; rw [← Ny610.out] at ho; have n0_ := Aside0.mk (hb); have n1_ := Aside0.mk (ho); clear HB; clear HO_5; have HB := n0_; have HO612 := n1_; clear n0_ n1_; clear ho hb hg hat))
       go_roundg k1
       case measure => have := HK1.out; omega
       case rel => exact ⟨(y610), (wrap64 (x6_1 + 1)), (by first | rfl | (simp; done) | (simp [*]; done)), H', ⟨by have := HK1.out; omega⟩, ⟨by (with_reducible repeat (first | apply Kd.R_alloc | apply Kd.R_drewN | apply Kd.R_drew)); exact HO612.out⟩, ⟨by repeat (first | (with_reducible first | exact HB.out | apply below_alloc | apply pw_below_drewN | apply below_drew1) | exact HB.out)⟩⟩
      ·rw [if_neg c6] at H
       exact absurd H (by simp)
     ·rw [if_neg c5] at H
      have c5b0 : (((rd_T37 l0 x6_1).f6) == a1) = false := beq_eq_false_iff_ne.mpr c5
      have c5b1 : (((rd_T37 l0 x6_1).f6) != a1) = true := bne_iff_ne.mpr c5
      have H' := Aside0.mk H
      clear H
      have p608 : 0 ≤ (x6_1 : Int) := of_decide_eq_true (by first | (with_reducible assumption) | assumption)
      have q608 : x6_1 < (l0.length : Int) := of_decide_eq_true (by first | (with_reducible assumption) | assumption)
      obtain ⟨ad608, e608, hx608_0, hx608_1, hx608_2, hx608_3, hx608_4, hx608_5, hx608_6, hx608_7, hx608_8, hx608_9, hx608_10, hx608_11, hx608_12, hx608_13, hx608_14, hx608_15⟩ := at_T37 HR0.out x6_1 p608 q608
      cases e608
      replace hx608_0 := (HB.out.cell (World.block_lt_of_cell? w _ hx608_0)).trans hx608_0
      replace hx608_1 := (HB.out.cell (World.block_lt_of_cell? w _ hx608_1)).trans hx608_1
      replace hx608_2 := (HB.out.cell (World.block_lt_of_cell? w _ hx608_2)).trans hx608_2
      replace hx608_3 := (HB.out.cell (World.block_lt_of_cell? w _ hx608_3)).trans hx608_3
      replace hx608_4 := (HB.out.cell (World.block_lt_of_cell? w _ hx608_4)).trans hx608_4
      replace hx608_5 := (HB.out.cell (World.block_lt_of_cell? w _ hx608_5)).trans hx608_5
      replace hx608_6 := (HB.out.cell (World.block_lt_of_cell? w _ hx608_6)).trans hx608_6
      replace hx608_7 := (HB.out.cell (World.block_lt_of_cell? w _ hx608_7)).trans hx608_7
      replace hx608_8 := (HB.out.cell (World.block_lt_of_cell? w _ hx608_8)).trans hx608_8
      replace hx608_9 := (HB.out.cell (World.block_lt_of_cell? w _ hx608_9)).trans hx608_9
      replace hx608_10 := (HB.out.cell (World.block_lt_of_cell? w _ hx608_10)).trans hx608_10
      replace hx608_11 := (HB.out.cell (World.block_lt_of_cell? w _ hx608_11)).trans hx608_11
      replace hx608_12 := (HB.out.cell (World.block_lt_of_cell? w _ hx608_12)).trans hx608_12
      replace hx608_13 := (HB.out.cell (World.block_lt_of_cell? w _ hx608_13)).trans hx608_13
      replace hx608_14 := (HB.out.cell (World.block_lt_of_cell? w _ hx608_14)).trans hx608_14
      replace hx608_15 := (HB.out.cell (World.block_lt_of_cell? w _ hx608_15)).trans hx608_15
      replace p608 := eq_true p608
      replace q608 := eq_true q608
      go_wp2
      go_roundg k1
      case measure => have := HK1.out; omega
      case rel => exact ⟨(x5_1), (wrap64 (x6_1 + 1)), (by first | rfl | (simp; done) | (simp [*]; done)), H', ⟨by have := HK1.out; omega⟩, ⟨by (with_reducible repeat (first | apply Kd.R_alloc | apply Kd.R_drewN | apply Kd.R_drew)); exact HO_5.out⟩, ⟨by repeat (first | (with_reducible first | exact HB.out | apply below_alloc | apply pw_below_drewN | apply below_drew1) | exact HB.out)⟩⟩
    ·rw [if_neg c4] at H
     exact absurd H (by simp)
   ·rw [if_neg c3] at H
    have c3b0 : decide (x6_1 < (l0.length : Int)) = false := decide_eq_false c3
    clear c3
    obtain rfl := Option.some.inj H
    go_wp2
    go_ret
    exact ⟨_, by first | rfl | (simp [errW_none, errW_some] <;> rfl) | (simp [*, errW_none, errW_some] <;> rfl), by (with_reducible repeat (first | apply Kd.R_alloc | apply Kd.R_drewN | apply Kd.R_drew)); exact HO_5.out, by repeat (first | (with_reducible first | exact HB.out | apply below_alloc | apply pw_below_drewN | apply below_drew1) | exact HB.out)⟩
/-! ### barrowlaw33_circle: function 13 -/
def barrowlaw33_circle.f (a0 : Int) (a1 : Int) (a2 : Int) : Option (Int × Int × Int × Int × Int × Int × Int × Int × Int × Int × Int × Int × Int × Int × Int × Int) := some (0, 1, a0, 0, 0, 0, a1, 0, 0, a2, 0, 0, 0, 0, 0, 0)
set_option maxHeartbeats 8000000 in
set_option maxRecDepth 100000 in
theorem barrowlaw33_circle.calls (a0 : Int) (a1 : Int) (a2 : Int) (r1 : Int) (r2 : Int) (r3 : Int) (r4 : Int) (r5 : Int) (r6 : Int) (r7 : Int) (r8 : Int) (r9 : Int) (r10 : Int) (r11 : Int) (r12 : Int) (r13 : Int) (r14 : Int) (r15 : Int) (r16 : Int) (w : World) (h : barrowlaw33_circle.f a0 a1 a2 = some (r1, r2, r3, r4, r5, r6, r7, r8, r9, r10, r11, r12, r13, r14, r15, r16)) :
  Calls Try.prog 13 #[.int .i64 a0, .int .i64 a1, .int .i64 a2] w fun e w' => e = .returned (.agg #[.int .i64 r1, .int .i64 r2, .int .i64 r3, .int .i64 r4, .int .i64 r5, .int .i64 r6, .int .i64 r7, .int .i64 r8, .int .i64 r9, .int .i64 r10, .int .i64 r11, .int .i64 r12, .int .i64 r13, .int .i64 r14, .int .i64 r15, .int .i64 r16]) ∧ Below w.heap.size w w' := by
 have hu37 := Try.underlying37
 have hu31 := Try.underlying31
 have hu33 := Try.underlying33
 have HB := Aside0.mk (Below.refl w.heap.size w)
 have H : (some (0, 1, a0, 0, 0, 0, a1, 0, 0, a2, 0, 0, 0, 0, 0, 0)) = some (r1, r2, r3, r4, r5, r6, r7, r8, r9, r10, r11, r12, r13, r14, r15, r16) := h
 clear h
 simp only [Option.some.injEq, Prod.mk.injEq] at H
 obtain ⟨rfl, rfl, rfl, rfl, rfl, rfl, rfl, rfl, rfl, rfl, rfl, rfl, rfl, rfl, rfl, rfl⟩ := H
 go_enter Try.func13, Try.ntmps13
 go_wp2_with (first | ((with_reducible refine gate_dst (N := 6) rfl ?_); refine box_event ?hg (N := 6) ?hd (cs := #[.int .i64 0, .int .i64 0, .int .i64 0, .int .i64 0, .int .i64 0, .int .i64 0, .int .i64 0, .int .i64 0, .int .i64 0, .int .i64 0, .int .i64 0, .int .i64 0, .int .i64 0, .int .i64 0, .int .i64 0, .int .i64 0]) (t := 37) ?hr ?_; (case hd => rfl); (case hg => rfl); (case hr => first | (go_simp; done) | (go_simp; rfl)); intro gb289 hg w4 hbox hb; have n0_ := Aside0.mk (below_step (by repeat (first | (with_reducible first | exact HB.out | apply below_alloc | apply pw_below_drewN | apply below_drew1) | exact HB.out)) hb); have n1_ := Aside0.mk (hbox); have n2_ := Aside0.mk ((by rw [hg]; exact (below_size (by repeat (first | (with_reducible first | exact HB.out | apply below_alloc | apply pw_below_drewN | apply below_drew1) | exact HB.out))) : w.heap.size ≤ gb289)); have n3_ := Aside0.mk ((by rw [hg]; exact (below_size (by repeat (first | (with_reducible first | exact HB.out | apply below_alloc | apply pw_below_drewN | apply below_drew1) | exact HB.out))) : w.heap.size ≤ gb289)); clear HB; have HB := n0_; have BK289 := n1_; have GW289 := n2_; have GE289 := n3_; clear n0_ n1_ n2_ n3_; clear hb hbox hg; have hcz5_0 : w4.cell? ⟨gb289, 0, none⟩ = some (.int .i64 0) := (blk_cell BK289.out 0).trans rfl; have hcz5_1 : w4.cell? ⟨gb289, 1, none⟩ = some (.int .i64 0) := (blk_cell BK289.out 1).trans rfl; have hcz5_2 : w4.cell? ⟨gb289, 2, none⟩ = some (.int .i64 0) := (blk_cell BK289.out 2).trans rfl; have hcz5_3 : w4.cell? ⟨gb289, 3, none⟩ = some (.int .i64 0) := (blk_cell BK289.out 3).trans rfl; have hcz5_4 : w4.cell? ⟨gb289, 4, none⟩ = some (.int .i64 0) := (blk_cell BK289.out 4).trans rfl; have hcz5_5 : w4.cell? ⟨gb289, 5, none⟩ = some (.int .i64 0) := (blk_cell BK289.out 5).trans rfl; have hcz5_6 : w4.cell? ⟨gb289, 6, none⟩ = some (.int .i64 0) := (blk_cell BK289.out 6).trans rfl; have hcz5_7 : w4.cell? ⟨gb289, 7, none⟩ = some (.int .i64 0) := (blk_cell BK289.out 7).trans rfl; have hcz5_8 : w4.cell? ⟨gb289, 8, none⟩ = some (.int .i64 0) := (blk_cell BK289.out 8).trans rfl; have hcz5_9 : w4.cell? ⟨gb289, 9, none⟩ = some (.int .i64 0) := (blk_cell BK289.out 9).trans rfl; have hcz5_10 : w4.cell? ⟨gb289, 10, none⟩ = some (.int .i64 0) := (blk_cell BK289.out 10).trans rfl; have hcz5_11 : w4.cell? ⟨gb289, 11, none⟩ = some (.int .i64 0) := (blk_cell BK289.out 11).trans rfl; have hcz5_12 : w4.cell? ⟨gb289, 12, none⟩ = some (.int .i64 0) := (blk_cell BK289.out 12).trans rfl; have hcz5_13 : w4.cell? ⟨gb289, 13, none⟩ = some (.int .i64 0) := (blk_cell BK289.out 13).trans rfl; have hcz5_14 : w4.cell? ⟨gb289, 14, none⟩ = some (.int .i64 0) := (blk_cell BK289.out 14).trans rfl; have hcz5_15 : w4.cell? ⟨gb289, 15, none⟩ = some (.int .i64 0) := (blk_cell BK289.out 15).trans rfl; have hfz5_0 := blk_frozen BK289.out 0; have hfz5_1 := blk_frozen BK289.out 1; have hfz5_2 := blk_frozen BK289.out 2; have hfz5_3 := blk_frozen BK289.out 3; have hfz5_4 := blk_frozen BK289.out 4; have hfz5_5 := blk_frozen BK289.out 5; have hfz5_6 := blk_frozen BK289.out 6; have hfz5_7 := blk_frozen BK289.out 7; have hfz5_8 := blk_frozen BK289.out 8; have hfz5_9 := blk_frozen BK289.out 9; have hfz5_10 := blk_frozen BK289.out 10; have hfz5_11 := blk_frozen BK289.out 11; have hfz5_12 := blk_frozen BK289.out 12; have hfz5_13 := blk_frozen BK289.out 13; have hfz5_14 := blk_frozen BK289.out 14; have hfz5_15 := blk_frozen BK289.out 15))
 refine bodyPost_ret (results_cell_row rfl _ _ gb289 37 #[.int .i64 0, .int .i64 1, .int .i64 a0, .int .i64 0, .int .i64 0, .int .i64 0, .int .i64 a1, .int .i64 0, .int .i64 0, .int .i64 a2, .int .i64 0, .int .i64 0, .int .i64 0, .int .i64 0, .int .i64 0, .int .i64 0] (0, 0) _ rfl (by (with_reducible repeat (first | refine blk_drewN ?_ _ | refine blk_drew ?_ | refine blk_alloc ?_ _)); refine blk_put (cs := #[.int .i64 0, .int .i64 1, .int .i64 a0, .int .i64 0, .int .i64 0, .int .i64 0, .int .i64 a1, .int .i64 0, .int .i64 0, .int .i64 a2, .int .i64 0, .int .i64 0, .int .i64 0, .int .i64 0, .int .i64 0, .int .i64 0]) ?_ 15 _ rfl; (with_reducible repeat (first | refine blk_drewN ?_ _ | refine blk_drew ?_ | refine blk_alloc ?_ _)); refine blk_put (cs := #[.int .i64 0, .int .i64 1, .int .i64 a0, .int .i64 0, .int .i64 0, .int .i64 0, .int .i64 a1, .int .i64 0, .int .i64 0, .int .i64 a2, .int .i64 0, .int .i64 0, .int .i64 0, .int .i64 0, .int .i64 0, .int .i64 0]) ?_ 14 _ rfl; (with_reducible repeat (first | refine blk_drewN ?_ _ | refine blk_drew ?_ | refine blk_alloc ?_ _)); refine blk_put (cs := #[.int .i64 0, .int .i64 1, .int .i64 a0, .int .i64 0, .int .i64 0, .int .i64 0, .int .i64 a1, .int .i64 0, .int .i64 0, .int .i64 a2, .int .i64 0, .int .i64 0, .int .i64 0, .int .i64 0, .int .i64 0, .int .i64 0]) ?_ 13 _ rfl; (with_reducible repeat (first | refine blk_drewN ?_ _ | refine blk_drew ?_ | refine blk_alloc ?_ _)); refine blk_put (cs := #[.int .i64 0, .int .i64 1, .int .i64 a0, .int .i64 0, .int .i64 0, .int .i64 0, .int .i64 a1, .int .i64 0, .int .i64 0, .int .i64 a2, .int .i64 0, .int .i64 0, .int .i64 0, .int .i64 0, .int .i64 0, .int .i64 0]) ?_ 12 _ rfl; (with_reducible repeat (first | refine blk_drewN ?_ _ | refine blk_drew ?_ | refine blk_alloc ?_ _)); refine blk_put (cs := #[.int .i64 0, .int .i64 1, .int .i64 a0, .int .i64 0, .int .i64 0, .int .i64 0, .int .i64 a1, .int .i64 0, .int .i64 0, .int .i64 a2, .int .i64 0, .int .i64 0, .int .i64 0, .int .i64 0, .int .i64 0, .int .i64 0]) ?_ 11 _ rfl; (with_reducible repeat (first | refine blk_drewN ?_ _ | refine blk_drew ?_ | refine blk_alloc ?_ _)); refine blk_put (cs := #[.int .i64 0, .int .i64 1, .int .i64 a0, .int .i64 0, .int .i64 0, .int .i64 0, .int .i64 a1, .int .i64 0, .int .i64 0, .int .i64 a2, .int .i64 0, .int .i64 0, .int .i64 0, .int .i64 0, .int .i64 0, .int .i64 0]) ?_ 10 _ rfl; (with_reducible repeat (first | refine blk_drewN ?_ _ | refine blk_drew ?_ | refine blk_alloc ?_ _)); refine blk_put (cs := #[.int .i64 0, .int .i64 1, .int .i64 a0, .int .i64 0, .int .i64 0, .int .i64 0, .int .i64 a1, .int .i64 0, .int .i64 0, .int .i64 0, .int .i64 0, .int .i64 0, .int .i64 0, .int .i64 0, .int .i64 0, .int .i64 0]) ?_ 9 _ rfl; (with_reducible repeat (first | refine blk_drewN ?_ _ | refine blk_drew ?_ | refine blk_alloc ?_ _)); refine blk_put (cs := #[.int .i64 0, .int .i64 1, .int .i64 a0, .int .i64 0, .int .i64 0, .int .i64 0, .int .i64 a1, .int .i64 0, .int .i64 0, .int .i64 0, .int .i64 0, .int .i64 0, .int .i64 0, .int .i64 0, .int .i64 0, .int .i64 0]) ?_ 8 _ rfl; (with_reducible repeat (first | refine blk_drewN ?_ _ | refine blk_drew ?_ | refine blk_alloc ?_ _)); refine blk_put (cs := #[.int .i64 0, .int .i64 1, .int .i64 a0, .int .i64 0, .int .i64 0, .int .i64 0, .int .i64 a1, .int .i64 0, .int .i64 0, .int .i64 0, .int .i64 0, .int .i64 0, .int .i64 0, .int .i64 0, .int .i64 0, .int .i64 0]) ?_ 7 _ rfl; (with_reducible repeat (first | refine blk_drewN ?_ _ | refine blk_drew ?_ | refine blk_alloc ?_ _)); refine blk_put (cs := #[.int .i64 0, .int .i64 1, .int .i64 a0, .int .i64 0, .int .i64 0, .int .i64 0, .int .i64 0, .int .i64 0, .int .i64 0, .int .i64 0, .int .i64 0, .int .i64 0, .int .i64 0, .int .i64 0, .int .i64 0, .int .i64 0]) ?_ 6 _ rfl; (with_reducible repeat (first | refine blk_drewN ?_ _ | refine blk_drew ?_ | refine blk_alloc ?_ _)); refine blk_put (cs := #[.int .i64 0, .int .i64 1, .int .i64 a0, .int .i64 0, .int .i64 0, .int .i64 0, .int .i64 0, .int .i64 0, .int .i64 0, .int .i64 0, .int .i64 0, .int .i64 0, .int .i64 0, .int .i64 0, .int .i64 0, .int .i64 0]) ?_ 5 _ rfl; (with_reducible repeat (first | refine blk_drewN ?_ _ | refine blk_drew ?_ | refine blk_alloc ?_ _)); refine blk_put (cs := #[.int .i64 0, .int .i64 1, .int .i64 a0, .int .i64 0, .int .i64 0, .int .i64 0, .int .i64 0, .int .i64 0, .int .i64 0, .int .i64 0, .int .i64 0, .int .i64 0, .int .i64 0, .int .i64 0, .int .i64 0, .int .i64 0]) ?_ 4 _ rfl; (with_reducible repeat (first | refine blk_drewN ?_ _ | refine blk_drew ?_ | refine blk_alloc ?_ _)); refine blk_put (cs := #[.int .i64 0, .int .i64 1, .int .i64 a0, .int .i64 0, .int .i64 0, .int .i64 0, .int .i64 0, .int .i64 0, .int .i64 0, .int .i64 0, .int .i64 0, .int .i64 0, .int .i64 0, .int .i64 0, .int .i64 0, .int .i64 0]) ?_ 3 _ rfl; (with_reducible repeat (first | refine blk_drewN ?_ _ | refine blk_drew ?_ | refine blk_alloc ?_ _)); refine blk_put (cs := #[.int .i64 0, .int .i64 1, .int .i64 0, .int .i64 0, .int .i64 0, .int .i64 0, .int .i64 0, .int .i64 0, .int .i64 0, .int .i64 0, .int .i64 0, .int .i64 0, .int .i64 0, .int .i64 0, .int .i64 0, .int .i64 0]) ?_ 2 _ rfl; (with_reducible repeat (first | refine blk_drewN ?_ _ | refine blk_drew ?_ | refine blk_alloc ?_ _)); refine blk_put (cs := #[.int .i64 0, .int .i64 0, .int .i64 0, .int .i64 0, .int .i64 0, .int .i64 0, .int .i64 0, .int .i64 0, .int .i64 0, .int .i64 0, .int .i64 0, .int .i64 0, .int .i64 0, .int .i64 0, .int .i64 0, .int .i64 0]) ?_ 1 _ rfl; (with_reducible repeat (first | refine blk_drewN ?_ _ | refine blk_drew ?_ | refine blk_alloc ?_ _)); refine blk_put (cs := #[.int .i64 0, .int .i64 0, .int .i64 0, .int .i64 0, .int .i64 0, .int .i64 0, .int .i64 0, .int .i64 0, .int .i64 0, .int .i64 0, .int .i64 0, .int .i64 0, .int .i64 0, .int .i64 0, .int .i64 0, .int .i64 0]) ?_ 0 _ rfl; (with_reducible repeat (first | refine blk_drewN ?_ _ | refine blk_drew ?_ | refine blk_alloc ?_ _)); exact BK289.out) Try.underlying37 rfl (by kernel_rfl)) rfl ?_
 exact ⟨by first | rfl | (simp [errW_none, errW_some] <;> rfl) | (simp [*, errW_none, errW_some] <;> rfl), by repeat (first | (with_reducible first | exact HB.out | apply below_alloc | apply pw_below_drewN | apply below_drew1 | refine below_set ?_ GE289.out) | exact HB.out)⟩
end Go.Proofs.Ytiadhonhjnbliaa.XZT
