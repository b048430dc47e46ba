-- Written by xprint.py (a program of this session) for this claim
import Derived.Test.YtiadhonhjnbliaaSq
import Derived.Test.YtiadhonhjnbliaaSL8
import Derived.Test.YtiadhonhjnbliaaXZTx0
import Derived.Test.YtiadhonhjnbliaaXZTx2
namespace Go.Proofs.Ytiadhonhjnbliaa.XZT
open Go.Proofs.YtiadhonhjnbliaaV Go.Proofs.YtiadhonhjnbliaaS
open Go.RowKit Go.Proofs.YtiadhonhjnbliaaW.PrintWords Go.Proofs.YtiadhonhjnbliaaW.PrintLast Go.Proofs.YtiadhonhjnbliaaW.PrintMore
attribute [local go_sem] max2_int min2_int max_two min_two max_three min_three max_four min_four   -- for this text's walks alone
set_option linter.unusedVariables false
set_option linter.unusedSimpArgs false

attribute [local go_sem high] eqA37
/-! ### zone_Of: function 22 -/
def zone_Of.l0 : Nat → Int → List Int → List (S37) → Int → Int → Option (List Int)
 | 0, _, _, _, _, _ => none
 | k + 1, x1, x5, x8, x9, x10 => if x10 < x9 then (if 0 ≤ x10 then (if x10 < (x8.length : Int) then (if ((rd_T37 x8 x10).f6) = x1 then (if x5.length < 17592186044416 then (zone_Of.l0 k x1 (x5 ++ [(rd_T37 x8 x10).f0]) x8 x9 (wrap64 (x10 + 1))) else (none)) else (zone_Of.l0 k x1 x5 x8 x9 (wrap64 (x10 + 1)))) else (none)) else (none)) else (some x5)
def zone_Of.f (k : Nat) (l0 : List (S37)) (a1 : Int) : Option (List Int) := zone_Of.l0 k a1 ([] : List Int) l0 (l0.length : Int) 0
theorem zone_Of.mono_l : ∀ k, (∀ y0 y1 y2 y3 y4, LeO (zone_Of.l0 k y0 y1 y2 y3 y4) (zone_Of.l0 (k + 1) y0 y1 y2 y3 y4))
 | 0 => fun _ _ _ _ _ r h => by simp [zone_Of.l0] at h
 | k + 1 => by
  have ih0 := zone_Of.mono_l k
  ·intro y0 y1 y2 y3 y4
   unfold zone_Of.l0
   repeat' first
   | (with_reducible exact ih0 _ _ _ _ _)
   | (with_reducible exact LeO.refl _)
   | (with_reducible exact LeO.none _)
   | (with_reducible refine LeO.ite ?_ ?_)
   | (with_reducible refine LeO.bind ?_ (fun _ => ?_))
   | exact ih0 _ _ _ _ _
   | exact LeO.none _
   | refine LeO.ite ?_ ?_
   | refine LeO.bind ?_ (fun _ => ?_)
theorem zone_Of.mono : ∀ a0 a1 k, LeO (zone_Of.f k a0 a1) (zone_Of.f (k + 1) a0 a1) := by
 intro a0 a1 k
 have ih0 := zone_Of.mono_l k
 unfold zone_Of.f
 repeat' first
   | (with_reducible exact ih0 _ _ _ _ _)
   | (with_reducible exact LeO.refl _)
   | (with_reducible exact LeO.none _)
   | (with_reducible refine LeO.ite ?_ ?_)
   | (with_reducible refine LeO.bind ?_ (fun _ => ?_))
   | exact ih0 _ _ _ _ _
   | exact LeO.none _
   | refine LeO.ite ?_ ?_
   | refine LeO.bind ?_ (fun _ => ?_)
set_option maxHeartbeats 8000000 in
set_option maxRecDepth 100000 in
theorem zone_Of.calls (k : Nat) (A0 : Option Addr) (c0 : Nat) (l0 : List (S37)) (a1 : Int) (r : List Int) (w : World) (hr0 : Kd.C k37 w A0 l0.length l0) (hc0 : l0.length ≤ c0) (h : zone_Of.f k l0 a1 = some r) :
  Calls Try.prog 22 #[.slice A0 l0.length c0, .int .i64 a1] w fun e w' => ∃ v0_ : Value, e = .returned (v0_) ∧ Kd.R (Kd.int .i64) 3 w' w.heap.size (fun _ => True) v0_ r ∧ Below w.heap.size w w' := by
 have hu37 := Try.underlying37
 have HR0 := Aside0.mk hr0
 have HC0 := Aside0.mk hc0
 clear hr0 hc0
 have HB := Aside0.mk (Below.refl w.heap.size w)
 have H : (zone_Of.l0 k a1 ([] : List Int) l0 (l0.length : Int) 0) = some r := h
 clear h
 have H' := Aside0.mk H
 clear H
 go_enter Try.func22, Try.ntmps22
 go_wp2
 go_loopg [5, 10] k (fun kq v5 v10 w' => ∃ (x5_1 : List Int) (x10_1 : Int), v10 = .int .i64 x10_1 ∧ Aside0 (zone_Of.l0 kq a1 x5_1 l0 (l0.length : Int) x10_1 = some r) ∧ Aside0 (kq ≤ k) ∧ Aside0 (Kd.R (Kd.int .i64) 3 w' w.heap.size (fun _ => True) v5 x5_1) ∧ Aside0 (Below w.heap.size w w'))
 case atStart => exact ⟨(([] : List Int)), (0), (by first | rfl | (simp; done) | (simp [*]; done)), H', ⟨Nat.le_refl _⟩, ⟨by first | exact Kd.R_nil _ _ _ _ _ | exact Kd.N_nil _ _ _ _ _ | exact Kd.V_nil _ _ _ _ _ | exact Kd.Q_nil _ _ _ _ _ | exact Kd.S_nil _ _ _ _ _⟩, ⟨by repeat (first | (with_reducible first | exact HB.out | apply below_alloc | apply pw_below_drewN | apply below_drew1) | exact HB.out)⟩⟩
 case round =>
  clear H'
  try clear c2
  try clear p2
  obtain ⟨x5_1, x10_1, rfl, HA, HK1, HO_5, HB⟩ := hrel
  cases gk with
  | zero => exact absurd HA.out (by simp [zone_Of.l0])
  | succ k1 =>
   have H := HA.out
   clear HA
   simp only [zone_Of.l0] at H
   by_cases c3 : x10_1 < (l0.length : Int)
   ·rw [if_pos c3] at H
    have c3b0 : decide (x10_1 < (l0.length : Int)) = true := decide_eq_true c3
    clear c3
    by_cases c4 : 0 ≤ x10_1
    ·rw [if_pos c4] at H
     have c4b0 : decide (0 ≤ x10_1) = true := decide_eq_true c4
     clear c4
     by_cases c5 : x10_1 < (l0.length : Int)
     ·rw [if_pos c5] at H
      have c5b0 : decide (x10_1 < (l0.length : Int)) = true := decide_eq_true c5
      clear c5
      by_cases c6 : ((rd_T37 l0 x10_1).f6) = a1
      ·rw [if_pos c6] at H
       have c6b0 : (((rd_T37 l0 x10_1).f6) == a1) = true := beq_iff_eq.mpr c6
       have c6b1 : (((rd_T37 l0 x10_1).f6) != a1) = false := bne_eq_false_iff_eq.mpr c6
       clear c6
       by_cases c7 : x5_1.length < 17592186044416
       ·rw [if_pos c7] at H
        have LMc7 := Aside0.mk c7
        clear c7
        obtain ⟨y318, hy318⟩ : ∃ y_ : List Int, y_ = (x5_1 ++ [(rd_T37 l0 x10_1).f0]) := ⟨_, rfl⟩
        replace H : (zone_Of.l0 k1 a1 y318 l0 (l0.length : Int) (wrap64 (x10_1 + 1))) = some r := by first | (rw [hy318]; with_reducible exact H) | (have H2_ := (Option.bind_some _ _).symm.trans H; rw [hy318]; with_reducible exact H2_) | (have H2_ := (Option.bind_some _ _).symm.trans H; with_reducible exact H2_) | with_reducible exact H | (rw [hy318]; exact H) | exact H
        have Ny318 := Aside0.mk hy318
        clear hy318
        have H' := Aside0.mk H
        clear H
        have p316 : 0 ≤ (x10_1 : Int) := of_decide_eq_true (by first | (with_reducible assumption) | assumption)
        have q316 : x10_1 < (l0.length : Int) := of_decide_eq_true (by first | (with_reducible assumption) | assumption)
        obtain ⟨ad316, e316, hx316_0, hx316_1, hx316_2, hx316_3, hx316_4, hx316_5, hx316_6, hx316_7, hx316_8, hx316_9, hx316_10, hx316_11, hx316_12, hx316_13, hx316_14, hx316_15⟩ := at_T37 HR0.out x10_1 p316 q316
        cases e316
        replace hx316_0 := (HB.out.cell (World.block_lt_of_cell? w _ hx316_0)).trans hx316_0
        replace hx316_1 := (HB.out.cell (World.block_lt_of_cell? w _ hx316_1)).trans hx316_1
        replace hx316_2 := (HB.out.cell (World.block_lt_of_cell? w _ hx316_2)).trans hx316_2
        replace hx316_3 := (HB.out.cell (World.block_lt_of_cell? w _ hx316_3)).trans hx316_3
        replace hx316_4 := (HB.out.cell (World.block_lt_of_cell? w _ hx316_4)).trans hx316_4
        replace hx316_5 := (HB.out.cell (World.block_lt_of_cell? w _ hx316_5)).trans hx316_5
        replace hx316_6 := (HB.out.cell (World.block_lt_of_cell? w _ hx316_6)).trans hx316_6
        replace hx316_7 := (HB.out.cell (World.block_lt_of_cell? w _ hx316_7)).trans hx316_7
        replace hx316_8 := (HB.out.cell (World.block_lt_of_cell? w _ hx316_8)).trans hx316_8
        replace hx316_9 := (HB.out.cell (World.block_lt_of_cell? w _ hx316_9)).trans hx316_9
        replace hx316_10 := (HB.out.cell (World.block_lt_of_cell? w _ hx316_10)).trans hx316_10
        replace hx316_11 := (HB.out.cell (World.block_lt_of_cell? w _ hx316_11)).trans hx316_11
        replace hx316_12 := (HB.out.cell (World.block_lt_of_cell? w _ hx316_12)).trans hx316_12
        replace hx316_13 := (HB.out.cell (World.block_lt_of_cell? w _ hx316_13)).trans hx316_13
        replace hx316_14 := (HB.out.cell (World.block_lt_of_cell? w _ hx316_14)).trans hx316_14
        replace hx316_15 := (HB.out.cell (World.block_lt_of_cell? w _ hx316_15)).trans hx316_15
        replace p316 := eq_true p316
        replace q316 := eq_true q316
        go_wp2_with (first | ((with_reducible refine gate_dst (N := 7) rfl ?_); refine box_event ?hg (N := 7) ?hd (cs := #[.int .i64 0, .int .i64 0, .int .i64 0, .int .i64 0, .int .i64 0, .int .i64 0, .int .i64 0, .int .i64 0, .int .i64 0, .int .i64 0, .int .i64 0, .int .i64 0, .int .i64 0, .int .i64 0, .int .i64 0, .int .i64 0]) (t := 37) ?hr ?_; (case hd => rfl); (case hg => rfl); (case hr => first | (go_simp; done) | (go_simp; rfl)); intro gb317 hg w8 hbox hb; have n0_ := Aside0.mk (Kd.R_below (by (with_reducible repeat (first | apply Kd.R_alloc | apply Kd.R_drewN | apply Kd.R_drew)); exact HO_5.out) hb); have n1_ := Aside0.mk (below_step (by repeat (first | (with_reducible first | exact HB.out | apply below_alloc | apply pw_below_drewN | apply below_drew1) | exact HB.out)) hb); have n2_ := Aside0.mk (hbox); have n3_ := Aside0.mk ((by rw [hg]; exact (below_size (by repeat (first | (with_reducible first | exact HB.out | apply below_alloc | apply pw_below_drewN | apply below_drew1) | exact HB.out))) : w.heap.size ≤ gb317)); have n4_ := Aside0.mk ((by rw [hg]; exact (below_size (by repeat (first | (with_reducible first | exact HB.out | apply below_alloc | apply pw_below_drewN | apply below_drew1) | exact HB.out))) : w.heap.size ≤ gb317)); clear HO_5; clear HB; have HO_5 := n0_; have HB := n1_; have BK317 := n2_; have GW317 := n3_; have GE317 := n4_; clear n0_ n1_ n2_ n3_ n4_; clear hb hbox hg; have hcz9_0 : w8.cell? ⟨gb317, 0, none⟩ = some (.int .i64 0) := (blk_cell BK317.out 0).trans rfl; have hcz9_1 : w8.cell? ⟨gb317, 1, none⟩ = some (.int .i64 0) := (blk_cell BK317.out 1).trans rfl; have hcz9_2 : w8.cell? ⟨gb317, 2, none⟩ = some (.int .i64 0) := (blk_cell BK317.out 2).trans rfl; have hcz9_3 : w8.cell? ⟨gb317, 3, none⟩ = some (.int .i64 0) := (blk_cell BK317.out 3).trans rfl; have hcz9_4 : w8.cell? ⟨gb317, 4, none⟩ = some (.int .i64 0) := (blk_cell BK317.out 4).trans rfl; have hcz9_5 : w8.cell? ⟨gb317, 5, none⟩ = some (.int .i64 0) := (blk_cell BK317.out 5).trans rfl; have hcz9_6 : w8.cell? ⟨gb317, 6, none⟩ = some (.int .i64 0) := (blk_cell BK317.out 6).trans rfl; have hcz9_7 : w8.cell? ⟨gb317, 7, none⟩ = some (.int .i64 0) := (blk_cell BK317.out 7).trans rfl; have hcz9_8 : w8.cell? ⟨gb317, 8, none⟩ = some (.int .i64 0) := (blk_cell BK317.out 8).trans rfl; have hcz9_9 : w8.cell? ⟨gb317, 9, none⟩ = some (.int .i64 0) := (blk_cell BK317.out 9).trans rfl; have hcz9_10 : w8.cell? ⟨gb317, 10, none⟩ = some (.int .i64 0) := (blk_cell BK317.out 10).trans rfl; have hcz9_11 : w8.cell? ⟨gb317, 11, none⟩ = some (.int .i64 0) := (blk_cell BK317.out 11).trans rfl; have hcz9_12 : w8.cell? ⟨gb317, 12, none⟩ = some (.int .i64 0) := (blk_cell BK317.out 12).trans rfl; have hcz9_13 : w8.cell? ⟨gb317, 13, none⟩ = some (.int .i64 0) := (blk_cell BK317.out 13).trans rfl; have hcz9_14 : w8.cell? ⟨gb317, 14, none⟩ = some (.int .i64 0) := (blk_cell BK317.out 14).trans rfl; have hcz9_15 : w8.cell? ⟨gb317, 15, none⟩ = some (.int .i64 0) := (blk_cell BK317.out 15).trans rfl; have hfz9_0 := blk_frozen BK317.out 0; have hfz9_1 := blk_frozen BK317.out 1; have hfz9_2 := blk_frozen BK317.out 2; have hfz9_3 := blk_frozen BK317.out 3; have hfz9_4 := blk_frozen BK317.out 4; have hfz9_5 := blk_frozen BK317.out 5; have hfz9_6 := blk_frozen BK317.out 6; have hfz9_7 := blk_frozen BK317.out 7; have hfz9_8 := blk_frozen BK317.out 8; have hfz9_9 := blk_frozen BK317.out 9; have hfz9_10 := blk_frozen BK317.out 10; have hfz9_11 := blk_frozen BK317.out 11; have hfz9_12 := blk_frozen BK317.out 12; have hfz9_13 := blk_frozen BK317.out 13; have hfz9_14 := blk_frozen BK317.out 14; have hfz9_15 := blk_frozen BK317.out 15) | ((with_reducible refine gate_builtin (b := .append) (xs := #[.tmp 18, .tmp 21]) rfl ?_); at_builtin; refine Kd.R_append (Kd.int .i64) (w0 := w) w.heap.size rfl (.tmp 18) (.tmp 21) 52 3 (.int .i64 0) 8 rfl Try.underlying52 info3 rfl (by decide) (by omega) u5 x5_1 ((rd_T37 l0 x10_1).f0) [.int .i64 ((rd_T37 l0 x10_1).f0)] (fun _ => True) (fun _ => False) rfl (by first | (go_simp; done) | (go_simp; rfl)) ?aP (fun _ hk => hk.elim) ?aF ?aO ?aB ?aS ?aL ?_; (case aP => exact rfl); (case aB => exact (by repeat (first | (with_reducible first | exact HB.out | apply below_alloc | apply pw_below_drewN | apply below_drew1 | refine below_set ?_ GE317.out) | exact HB.out))); (case aF => exact (fun _ _ => trivial)); (case aO => exact (by (with_reducible repeat (first | apply Kd.R_alloc | apply Kd.R_drewN | apply Kd.R_drew)); exact Kd.R_mono (Kd.R_far (p := ⟨gb317, 15, none⟩) (Kd.R_far (p := ⟨gb317, 14, none⟩) (Kd.R_far (p := ⟨gb317, 13, none⟩) (Kd.R_far (p := ⟨gb317, 12, none⟩) (Kd.R_far (p := ⟨gb317, 11, none⟩) (Kd.R_far (p := ⟨gb317, 10, none⟩) (Kd.R_far (p := ⟨gb317, 9, none⟩) (Kd.R_far (p := ⟨gb317, 8, none⟩) (Kd.R_far (p := ⟨gb317, 7, none⟩) (Kd.R_far (p := ⟨gb317, 6, none⟩) (Kd.R_far (p := ⟨gb317, 5, none⟩) (Kd.R_far (p := ⟨gb317, 4, none⟩) (Kd.R_far (p := ⟨gb317, 3, none⟩) (Kd.R_far (p := ⟨gb317, 2, none⟩) (Kd.R_far (p := ⟨gb317, 1, none⟩) (Kd.R_far (p := ⟨gb317, 0, none⟩) (Kd.R_types HO_5.out BK317.out (by decide)) (fun _ hk => hk.2) (.int .i64 ((rd_T37 l0 x10_1).f0))) (fun _ hk => hk.2) (.int .i64 ((rd_T37 l0 x10_1).f1.f0))) (fun _ hk => hk.2) (.int .i64 ((rd_T37 l0 x10_1).f1.f1.f0))) (fun _ hk => hk.2) (.int .i64 ((rd_T37 l0 x10_1).f1.f1.f1))) (fun _ hk => hk.2) (.int .i64 ((rd_T37 l0 x10_1).f1.f2.f0))) (fun _ hk => hk.2) (.int .i64 ((rd_T37 l0 x10_1).f1.f2.f1))) (fun _ hk => hk.2) (.int .i64 ((rd_T37 l0 x10_1).f1.f3))) (fun _ hk => hk.2) (.int .i64 ((rd_T37 l0 x10_1).f1.f4))) (fun _ hk => hk.2) (.int .i64 ((rd_T37 l0 x10_1).f2))) (fun _ hk => hk.2) (.int .i64 ((rd_T37 l0 x10_1).f3))) (fun _ hk => hk.2) (.int .i64 ((rd_T37 l0 x10_1).f4))) (fun _ hk => hk.2) (.int .i64 ((rd_T37 l0 x10_1).f5.f0))) (fun _ hk => hk.2) (.int .i64 ((rd_T37 l0 x10_1).f5.f1))) (fun _ hk => hk.2) (.int .i64 ((rd_T37 l0 x10_1).f5.f2))) (fun _ hk => hk.2) (.int .i64 ((rd_T37 l0 x10_1).f6))) (fun _ hk => hk.2) (.int .i64 ((rd_T37 l0 x10_1).f7))) (fun _ hk => trivial))); (case aS => exact (below_size (by repeat (first | (with_reducible first | exact HB.out | apply below_alloc | apply pw_below_drewN | apply below_drew1 | refine below_set ?_ GE317.out) | exact HB.out)))); (case aL => have := LMc7.out; omega); intro v319 w10 ho hb hg hat; rw [← Ny318.out] at ho; have n0_ := Aside0.mk (blk_grown (g := gb317) (o := .cells #[.int .i64 ((rd_T37 l0 x10_1).f0), .int .i64 ((rd_T37 l0 x10_1).f1.f0), .int .i64 ((rd_T37 l0 x10_1).f1.f1.f0), .int .i64 ((rd_T37 l0 x10_1).f1.f1.f1), .int .i64 ((rd_T37 l0 x10_1).f1.f2.f0), .int .i64 ((rd_T37 l0 x10_1).f1.f2.f1), .int .i64 ((rd_T37 l0 x10_1).f1.f3), .int .i64 ((rd_T37 l0 x10_1).f1.f4), .int .i64 ((rd_T37 l0 x10_1).f2), .int .i64 ((rd_T37 l0 x10_1).f3), .int .i64 ((rd_T37 l0 x10_1).f4), .int .i64 ((rd_T37 l0 x10_1).f5.f0), .int .i64 ((rd_T37 l0 x10_1).f5.f1), .int .i64 ((rd_T37 l0 x10_1).f5.f2), .int .i64 ((rd_T37 l0 x10_1).f6), .int .i64 ((rd_T37 l0 x10_1).f7)] 37 (0, 0)) (by (with_reducible repeat (first | refine blk_drewN ?_ _ | refine blk_drew ?_ | refine blk_alloc ?_ _)); refine blk_put (cs := #[.int .i64 ((rd_T37 l0 x10_1).f0), .int .i64 ((rd_T37 l0 x10_1).f1.f0), .int .i64 ((rd_T37 l0 x10_1).f1.f1.f0), .int .i64 ((rd_T37 l0 x10_1).f1.f1.f1), .int .i64 ((rd_T37 l0 x10_1).f1.f2.f0), .int .i64 ((rd_T37 l0 x10_1).f1.f2.f1), .int .i64 ((rd_T37 l0 x10_1).f1.f3), .int .i64 ((rd_T37 l0 x10_1).f1.f4), .int .i64 ((rd_T37 l0 x10_1).f2), .int .i64 ((rd_T37 l0 x10_1).f3), .int .i64 ((rd_T37 l0 x10_1).f4), .int .i64 ((rd_T37 l0 x10_1).f5.f0), .int .i64 ((rd_T37 l0 x10_1).f5.f1), .int .i64 ((rd_T37 l0 x10_1).f5.f2), .int .i64 ((rd_T37 l0 x10_1).f6), .int .i64 0]) ?_ 15 _ rfl; (with_reducible repeat (first | refine blk_drewN ?_ _ | refine blk_drew ?_ | refine blk_alloc ?_ _)); refine blk_put (cs := #[.int .i64 ((rd_T37 l0 x10_1).f0), .int .i64 ((rd_T37 l0 x10_1).f1.f0), .int .i64 ((rd_T37 l0 x10_1).f1.f1.f0), .int .i64 ((rd_T37 l0 x10_1).f1.f1.f1), .int .i64 ((rd_T37 l0 x10_1).f1.f2.f0), .int .i64 ((rd_T37 l0 x10_1).f1.f2.f1), .int .i64 ((rd_T37 l0 x10_1).f1.f3), .int .i64 ((rd_T37 l0 x10_1).f1.f4), .int .i64 ((rd_T37 l0 x10_1).f2), .int .i64 ((rd_T37 l0 x10_1).f3), .int .i64 ((rd_T37 l0 x10_1).f4), .int .i64 ((rd_T37 l0 x10_1).f5.f0), .int .i64 ((rd_T37 l0 x10_1).f5.f1), .int .i64 ((rd_T37 l0 x10_1).f5.f2), .int .i64 0, .int .i64 0]) ?_ 14 _ rfl; (with_reducible repeat (first | refine blk_drewN ?_ _ | refine blk_drew ?_ | refine blk_alloc ?_ _)); refine blk_put (cs := #[.int .i64 ((rd_T37 l0 x10_1).f0), .int .i64 ((rd_T37 l0 x10_1).f1.f0), .int .i64 ((rd_T37 l0 x10_1).f1.f1.f0), .int .i64 ((rd_T37 l0 x10_1).f1.f1.f1), .int .i64 ((rd_T37 l0 x10_1).f1.f2.f0), .int .i64 ((rd_T37 l0 x10_1).f1.f2.f1), .int .i64 ((rd_T37 l0 x10_1).f1.f3), .int .i64 ((rd_T37 l0 x10_1).f1.f4), .int .i64 ((rd_T37 l0 x10_1).f2), .int .i64 ((rd_T37 l0 x10_1).f3), .int .i64 ((rd_T37 l0 x10_1).f4), .int .i64 ((rd_T37 l0 x10_1).f5.f0), .int .i64 ((rd_T37 l0 x10_1).f5.f1), .int .i64 0, .int .i64 0, .int .i64 0]) ?_ 13 _ rfl; (with_reducible repeat (first | refine blk_drewN ?_ _ | refine blk_drew ?_ | refine blk_alloc ?_ _)); refine blk_put (cs := #[.int .i64 ((rd_T37 l0 x10_1).f0), .int .i64 ((rd_T37 l0 x10_1).f1.f0), .int .i64 ((rd_T37 l0 x10_1).f1.f1.f0), .int .i64 ((rd_T37 l0 x10_1).f1.f1.f1), .int .i64 ((rd_T37 l0 x10_1).f1.f2.f0), .int .i64 ((rd_T37 l0 x10_1).f1.f2.f1), .int .i64 ((rd_T37 l0 x10_1).f1.f3), .int .i64 ((rd_T37 l0 x10_1).f1.f4), .int .i64 ((rd_T37 l0 x10_1).f2), .int .i64 ((rd_T37 l0 x10_1).f3), .int .i64 ((rd_T37 l0 x10_1).f4), .int .i64 ((rd_T37 l0 x10_1).f5.f0), .int .i64 0, .int .i64 0, .int .i64 0, .int .i64 0]) ?_ 12 _ rfl; (with_reducible repeat (first | refine blk_drewN ?_ _ | refine blk_drew ?_ | refine blk_alloc ?_ _)); refine blk_put (cs := #[.int .i64 ((rd_T37 l0 x10_1).f0), .int .i64 ((rd_T37 l0 x10_1).f1.f0), .int .i64 ((rd_T37 l0 x10_1).f1.f1.f0), .int .i64 ((rd_T37 l0 x10_1).f1.f1.f1), .int .i64 ((rd_T37 l0 x10_1).f1.f2.f0), .int .i64 ((rd_T37 l0 x10_1).f1.f2.f1), .int .i64 ((rd_T37 l0 x10_1).f1.f3), .int .i64 ((rd_T37 l0 x10_1).f1.f4), .int .i64 ((rd_T37 l0 x10_1).f2), .int .i64 ((rd_T37 l0 x10_1).f3), .int .i64 ((rd_T37 l0 x10_1).f4), .int .i64 0, .int .i64 0, .int .i64 0, .int .i64 0, .int .i64 0]) ?_ 11 _ rfl; (with_reducible repeat (first | refine blk_drewN ?_ _ | refine blk_drew ?_ | refine blk_alloc ?_ _)); refine blk_put (cs := #[.int .i64 ((rd_T37 l0 x10_1).f0), .int .i64 ((rd_T37 l0 x10_1).f1.f0), .int .i64 ((rd_T37 l0 x10_1).f1.f1.f0), .int .i64 ((rd_T37 l0 x10_1).f1.f1.f1), .int .i64 ((rd_T37 l0 x10_1).f1.f2.f0), .int .i64 ((rd_T37 l0 x10_1).f1.f2.f1), .int .i64 ((rd_T37 l0 x10_1).f1.f3), .int .i64 ((rd_T37 l0 x10_1).f1.f4), .int .i64 ((rd_T37 l0 x10_1).f2), .int .i64 ((rd_T37 l0 x10_1).f3), .int .i64 0, .int .i64 0, .int .i64 0, .int .i64 0, .int .i64 0, .int .i64 0]) ?_ 10 _ rfl; (with_reducible repeat (first | refine blk_drewN ?_ _ | refine blk_drew ?_ | refine blk_alloc ?_ _)); refine blk_put (cs := #[.int .i64 ((rd_T37 l0 x10_1).f0), .int .i64 ((rd_T37 l0 x10_1).f1.f0), .int .i64 ((rd_T37 l0 x10_1).f1.f1.f0), .int .i64 ((rd_T37 l0 x10_1).f1.f1.f1), .int .i64 ((rd_T37 l0 x10_1).f1.f2.f0), .int .i64 ((rd_T37 l0 x10_1).f1.f2.f1), .int .i64 ((rd_T37 l0 x10_1).f1.f3), .int .i64 ((rd_T37 l0 x10_1).f1.f4), .int .i64 ((rd_T37 l0 x10_1).f2), .int .i64 0, .int .i64 0, .int .i64 0, .int .i64 0, .int .i64 0, .int .i64 0, .int .i64 0]) ?_ 9 _ rfl; (with_reducible repeat (first | refine blk_drewN ?_ _ | refine blk_drew ?_ | refine blk_alloc ?_ _)); refine blk_put (cs := #[.int .i64 ((rd_T37 l0 x10_1).f0), .int .i64 ((rd_T37 l0 x10_1).f1.f0), .int .i64 ((rd_T37 l0 x10_1).f1.f1.f0), .int .i64 ((rd_T37 l0 x10_1).f1.f1.f1), .int .i64 ((rd_T37 l0 x10_1).f1.f2.f0), .int .i64 ((rd_T37 l0 x10_1).f1.f2.f1), .int .i64 ((rd_T37 l0 x10_1).f1.f3), .int .i64 ((rd_T37 l0 x10_1).f1.f4), .int .i64 0, .int .i64 0, .int .i64 0, .int .i64 0, .int .i64 0, .int .i64 0, .int .i64 0, .int .i64 0]) ?_ 8 _ rfl; (with_reducible repeat (first | refine blk_drewN ?_ _ | refine blk_drew ?_ | refine blk_alloc ?_ _)); refine blk_put (cs := #[.int .i64 ((rd_T37 l0 x10_1).f0), .int .i64 ((rd_T37 l0 x10_1).f1.f0), .int .i64 ((rd_T37 l0 x10_1).f1.f1.f0), .int .i64 ((rd_T37 l0 x10_1).f1.f1.f1), .int .i64 ((rd_T37 l0 x10_1).f1.f2.f0), .int .i64 ((rd_T37 l0 x10_1).f1.f2.f1), .int .i64 ((rd_T37 l0 x10_1).f1.f3), .int .i64 0, .int .i64 0, .int .i64 0, .int .i64 0, .int .i64 0, .int .i64 0, .int .i64 0, .int .i64 0, .int .i64 0]) ?_ 7 _ rfl; (with_reducible repeat (first | refine blk_drewN ?_ _ | refine blk_drew ?_ | refine blk_alloc ?_ _)); refine blk_put (cs := #[.int .i64 ((rd_T37 l0 x10_1).f0), .int .i64 ((rd_T37 l0 x10_1).f1.f0), .int .i64 ((rd_T37 l0 x10_1).f1.f1.f0), .int .i64 ((rd_T37 l0 x10_1).f1.f1.f1), .int .i64 ((rd_T37 l0 x10_1).f1.f2.f0), .int .i64 ((rd_T37 l0 x10_1).f1.f2.f1), .int .i64 0, .int .i64 0, .int .i64 0, .int .i64 0, .int .i64 0, .int .i64 0, .int .i64 0, .int .i64 0, .int .i64 0, .int .i64 0]) ?_ 6 _ rfl; (with_reducible repeat (first | refine blk_drewN ?_ _ | refine blk_drew ?_ | refine blk_alloc ?_ _)); refine blk_put (cs := #[.int .i64 ((rd_T37 l0 x10_1).f0), .int .i64 ((rd_T37 l0 x10_1).f1.f0), .int .i64 ((rd_T37 l0 x10_1).f1.f1.f0), .int .i64 ((rd_T37 l0 x10_1).f1.f1.f1), .int .i64 ((rd_T37 l0 x10_1).f1.f2.f0), .int .i64 0, .int .i64 0, .int .i64 0, .int .i64 0, .int .i64 0, .int .i64 0, .int .i64 0, .int .i64 0, .int .i64 0, .int .i64 0, .int .i64 0]) ?_ 5 _ rfl; (with_reducible repeat (first | refine blk_drewN ?_ _ | refine blk_drew ?_ | refine blk_alloc ?_ _)); refine blk_put (cs := #[.int .i64 ((rd_T37 l0 x10_1).f0), .int .i64 ((rd_T37 l0 x10_1).f1.f0), .int .i64 ((rd_T37 l0 x10_1).f1.f1.f0), .int .i64 ((rd_T37 l0 x10_1).f1.f1.f1), .int .i64 0, .int .i64 0, .int .i64 0, .int .i64 0, .int .i64 0, .int .i64 0, .int .i64 0, .int .i64 0, .int .i64 0, .int .i64 0, .int .i64 0, .int .i64 0]) ?_ 4 _ rfl; (with_reducible repeat (first | refine blk_drewN ?_ _ | refine blk_drew ?_ | refine blk_alloc ?_ _)); refine blk_put (cs := #[.int .i64 ((rd_T37 l0 x10_1).f0), .int .i64 ((rd_T37 l0 x10_1).f1.f0), .int .i64 ((rd_T37 l0 x10_1).f1.f1.f0), .int .i64 0, .int .i64 0, .int .i64 0, .int .i64 0, .int .i64 0, .int .i64 0, .int .i64 0, .int .i64 0, .int .i64 0, .int .i64 0, .int .i64 0, .int .i64 0, .int .i64 0]) ?_ 3 _ rfl; (with_reducible repeat (first | refine blk_drewN ?_ _ | refine blk_drew ?_ | refine blk_alloc ?_ _)); refine blk_put (cs := #[.int .i64 ((rd_T37 l0 x10_1).f0), .int .i64 ((rd_T37 l0 x10_1).f1.f0), .int .i64 0, .int .i64 0, .int .i64 0, .int .i64 0, .int .i64 0, .int .i64 0, .int .i64 0, .int .i64 0, .int .i64 0, .int .i64 0, .int .i64 0, .int .i64 0, .int .i64 0, .int .i64 0]) ?_ 2 _ rfl; (with_reducible repeat (first | refine blk_drewN ?_ _ | refine blk_drew ?_ | refine blk_alloc ?_ _)); refine blk_put (cs := #[.int .i64 ((rd_T37 l0 x10_1).f0), .int .i64 0, .int .i64 0, .int .i64 0, .int .i64 0, .int .i64 0, .int .i64 0, .int .i64 0, .int .i64 0, .int .i64 0, .int .i64 0, .int .i64 0, .int .i64 0, .int .i64 0, .int .i64 0, .int .i64 0]) ?_ 1 _ rfl; (with_reducible repeat (first | refine blk_drewN ?_ _ | refine blk_drew ?_ | refine blk_alloc ?_ _)); refine blk_put (cs := #[.int .i64 0, .int .i64 0, .int .i64 0, .int .i64 0, .int .i64 0, .int .i64 0, .int .i64 0, .int .i64 0, .int .i64 0, .int .i64 0, .int .i64 0, .int .i64 0, .int .i64 0, .int .i64 0, .int .i64 0, .int .i64 0]) ?_ 0 _ rfl; (with_reducible repeat (first | refine blk_drewN ?_ _ | refine blk_drew ?_ | refine blk_alloc ?_ _)); exact BK317.out) hg (Kd.R_ne HO_5.out BK317.out (by decide))); have n1_ := Aside0.mk (hb); have n2_ := Aside0.mk (ho); clear BK317; clear HB; clear HO_5; have BK317 := n0_; have HB := n1_; have HO320 := n2_; clear n0_ n1_ n2_; clear ho hb hg hat))
        go_roundg k1
        case measure => have := HK1.out; omega
        case rel => exact ⟨(y318), (wrap64 (x10_1 + 1)), (by first | rfl | (simp; done) | (simp [*]; done)), H', ⟨by have := HK1.out; omega⟩, ⟨by (with_reducible repeat (first | apply Kd.R_alloc | apply Kd.R_drewN | apply Kd.R_drew)); exact HO320.out⟩, ⟨by repeat (first | (with_reducible first | exact HB.out | apply below_alloc | apply pw_below_drewN | apply below_drew1 | refine below_set ?_ GE317.out) | exact HB.out)⟩⟩
       ·rw [if_neg c7] at H
        exact absurd H (by simp)
      ·rw [if_neg c6] at H
       have c6b0 : (((rd_T37 l0 x10_1).f6) == a1) = false := beq_eq_false_iff_ne.mpr c6
       have c6b1 : (((rd_T37 l0 x10_1).f6) != a1) = true := bne_iff_ne.mpr c6
       have H' := Aside0.mk H
       clear H
       have p316 : 0 ≤ (x10_1 : Int) := of_decide_eq_true (by first | (with_reducible assumption) | assumption)
       have q316 : x10_1 < (l0.length : Int) := of_decide_eq_true (by first | (with_reducible assumption) | assumption)
       obtain ⟨ad316, e316, hx316_0, hx316_1, hx316_2, hx316_3, hx316_4, hx316_5, hx316_6, hx316_7, hx316_8, hx316_9, hx316_10, hx316_11, hx316_12, hx316_13, hx316_14, hx316_15⟩ := at_T37 HR0.out x10_1 p316 q316
       cases e316
       replace hx316_0 := (HB.out.cell (World.block_lt_of_cell? w _ hx316_0)).trans hx316_0
       replace hx316_1 := (HB.out.cell (World.block_lt_of_cell? w _ hx316_1)).trans hx316_1
       replace hx316_2 := (HB.out.cell (World.block_lt_of_cell? w _ hx316_2)).trans hx316_2
       replace hx316_3 := (HB.out.cell (World.block_lt_of_cell? w _ hx316_3)).trans hx316_3
       replace hx316_4 := (HB.out.cell (World.block_lt_of_cell? w _ hx316_4)).trans hx316_4
       replace hx316_5 := (HB.out.cell (World.block_lt_of_cell? w _ hx316_5)).trans hx316_5
       replace hx316_6 := (HB.out.cell (World.block_lt_of_cell? w _ hx316_6)).trans hx316_6
       replace hx316_7 := (HB.out.cell (World.block_lt_of_cell? w _ hx316_7)).trans hx316_7
       replace hx316_8 := (HB.out.cell (World.block_lt_of_cell? w _ hx316_8)).trans hx316_8
       replace hx316_9 := (HB.out.cell (World.block_lt_of_cell? w _ hx316_9)).trans hx316_9
       replace hx316_10 := (HB.out.cell (World.block_lt_of_cell? w _ hx316_10)).trans hx316_10
       replace hx316_11 := (HB.out.cell (World.block_lt_of_cell? w _ hx316_11)).trans hx316_11
       replace hx316_12 := (HB.out.cell (World.block_lt_of_cell? w _ hx316_12)).trans hx316_12
       replace hx316_13 := (HB.out.cell (World.block_lt_of_cell? w _ hx316_13)).trans hx316_13
       replace hx316_14 := (HB.out.cell (World.block_lt_of_cell? w _ hx316_14)).trans hx316_14
       replace hx316_15 := (HB.out.cell (World.block_lt_of_cell? w _ hx316_15)).trans hx316_15
       replace p316 := eq_true p316
       replace q316 := eq_true q316
       go_wp2_with (first | ((with_reducible refine gate_dst (N := 7) rfl ?_); refine box_event ?hg (N := 7) ?hd (cs := #[.int .i64 0, .int .i64 0, .int .i64 0, .int .i64 0, .int .i64 0, .int .i64 0, .int .i64 0, .int .i64 0, .int .i64 0, .int .i64 0, .int .i64 0, .int .i64 0, .int .i64 0, .int .i64 0, .int .i64 0, .int .i64 0]) (t := 37) ?hr ?_; (case hd => rfl); (case hg => rfl); (case hr => first | (go_simp; done) | (go_simp; rfl)); intro gb317 hg w11 hbox hb; have n0_ := Aside0.mk (Kd.R_below (by (with_reducible repeat (first | apply Kd.R_alloc | apply Kd.R_drewN | apply Kd.R_drew)); exact HO_5.out) hb); have n1_ := Aside0.mk (below_step (by repeat (first | (with_reducible first | exact HB.out | apply below_alloc | apply pw_below_drewN | apply below_drew1) | exact HB.out)) hb); have n2_ := Aside0.mk (hbox); have n3_ := Aside0.mk ((by rw [hg]; exact (below_size (by repeat (first | (with_reducible first | exact HB.out | apply below_alloc | apply pw_below_drewN | apply below_drew1) | exact HB.out))) : w.heap.size ≤ gb317)); have n4_ := Aside0.mk ((by rw [hg]; exact (below_size (by repeat (first | (with_reducible first | exact HB.out | apply below_alloc | apply pw_below_drewN | apply below_drew1) | exact HB.out))) : w.heap.size ≤ gb317)); clear HO_5; clear HB; have HO_5 := n0_; have HB := n1_; have BK317 := n2_; have GW317 := n3_; have GE317 := n4_; clear n0_ n1_ n2_ n3_ n4_; clear hb hbox hg; have hcz12_0 : w11.cell? ⟨gb317, 0, none⟩ = some (.int .i64 0) := (blk_cell BK317.out 0).trans rfl; have hcz12_1 : w11.cell? ⟨gb317, 1, none⟩ = some (.int .i64 0) := (blk_cell BK317.out 1).trans rfl; have hcz12_2 : w11.cell? ⟨gb317, 2, none⟩ = some (.int .i64 0) := (blk_cell BK317.out 2).trans rfl; have hcz12_3 : w11.cell? ⟨gb317, 3, none⟩ = some (.int .i64 0) := (blk_cell BK317.out 3).trans rfl; have hcz12_4 : w11.cell? ⟨gb317, 4, none⟩ = some (.int .i64 0) := (blk_cell BK317.out 4).trans rfl; have hcz12_5 : w11.cell? ⟨gb317, 5, none⟩ = some (.int .i64 0) := (blk_cell BK317.out 5).trans rfl; have hcz12_6 : w11.cell? ⟨gb317, 6, none⟩ = some (.int .i64 0) := (blk_cell BK317.out 6).trans rfl; have hcz12_7 : w11.cell? ⟨gb317, 7, none⟩ = some (.int .i64 0) := (blk_cell BK317.out 7).trans rfl; have hcz12_8 : w11.cell? ⟨gb317, 8, none⟩ = some (.int .i64 0) := (blk_cell BK317.out 8).trans rfl; have hcz12_9 : w11.cell? ⟨gb317, 9, none⟩ = some (.int .i64 0) := (blk_cell BK317.out 9).trans rfl; have hcz12_10 : w11.cell? ⟨gb317, 10, none⟩ = some (.int .i64 0) := (blk_cell BK317.out 10).trans rfl; have hcz12_11 : w11.cell? ⟨gb317, 11, none⟩ = some (.int .i64 0) := (blk_cell BK317.out 11).trans rfl; have hcz12_12 : w11.cell? ⟨gb317, 12, none⟩ = some (.int .i64 0) := (blk_cell BK317.out 12).trans rfl; have hcz12_13 : w11.cell? ⟨gb317, 13, none⟩ = some (.int .i64 0) := (blk_cell BK317.out 13).trans rfl; have hcz12_14 : w11.cell? ⟨gb317, 14, none⟩ = some (.int .i64 0) := (blk_cell BK317.out 14).trans rfl; have hcz12_15 : w11.cell? ⟨gb317, 15, none⟩ = some (.int .i64 0) := (blk_cell BK317.out 15).trans rfl; have hfz12_0 := blk_frozen BK317.out 0; have hfz12_1 := blk_frozen BK317.out 1; have hfz12_2 := blk_frozen BK317.out 2; have hfz12_3 := blk_frozen BK317.out 3; have hfz12_4 := blk_frozen BK317.out 4; have hfz12_5 := blk_frozen BK317.out 5; have hfz12_6 := blk_frozen BK317.out 6; have hfz12_7 := blk_frozen BK317.out 7; have hfz12_8 := blk_frozen BK317.out 8; have hfz12_9 := blk_frozen BK317.out 9; have hfz12_10 := blk_frozen BK317.out 10; have hfz12_11 := blk_frozen BK317.out 11; have hfz12_12 := blk_frozen BK317.out 12; have hfz12_13 := blk_frozen BK317.out 13; have hfz12_14 := blk_frozen BK317.out 14; have hfz12_15 := blk_frozen BK317.out 15))
       go_roundg k1
       case measure => have := HK1.out; omega
       case rel => exact ⟨(x5_1), (wrap64 (x10_1 + 1)), (by first | rfl | (simp; done) | (simp [*]; done)), H', ⟨by have := HK1.out; omega⟩, ⟨by (with_reducible repeat (first | apply Kd.R_alloc | apply Kd.R_drewN | apply Kd.R_drew)); exact Kd.R_mono (Kd.R_far (p := ⟨gb317, 15, none⟩) (Kd.R_far (p := ⟨gb317, 14, none⟩) (Kd.R_far (p := ⟨gb317, 13, none⟩) (Kd.R_far (p := ⟨gb317, 12, none⟩) (Kd.R_far (p := ⟨gb317, 11, none⟩) (Kd.R_far (p := ⟨gb317, 10, none⟩) (Kd.R_far (p := ⟨gb317, 9, none⟩) (Kd.R_far (p := ⟨gb317, 8, none⟩) (Kd.R_far (p := ⟨gb317, 7, none⟩) (Kd.R_far (p := ⟨gb317, 6, none⟩) (Kd.R_far (p := ⟨gb317, 5, none⟩) (Kd.R_far (p := ⟨gb317, 4, none⟩) (Kd.R_far (p := ⟨gb317, 3, none⟩) (Kd.R_far (p := ⟨gb317, 2, none⟩) (Kd.R_far (p := ⟨gb317, 1, none⟩) (Kd.R_far (p := ⟨gb317, 0, none⟩) (Kd.R_types HO_5.out BK317.out (by decide)) (fun _ hk => hk.2) (.int .i64 ((rd_T37 l0 x10_1).f0))) (fun _ hk => hk.2) (.int .i64 ((rd_T37 l0 x10_1).f1.f0))) (fun _ hk => hk.2) (.int .i64 ((rd_T37 l0 x10_1).f1.f1.f0))) (fun _ hk => hk.2) (.int .i64 ((rd_T37 l0 x10_1).f1.f1.f1))) (fun _ hk => hk.2) (.int .i64 ((rd_T37 l0 x10_1).f1.f2.f0))) (fun _ hk => hk.2) (.int .i64 ((rd_T37 l0 x10_1).f1.f2.f1))) (fun _ hk => hk.2) (.int .i64 ((rd_T37 l0 x10_1).f1.f3))) (fun _ hk => hk.2) (.int .i64 ((rd_T37 l0 x10_1).f1.f4))) (fun _ hk => hk.2) (.int .i64 ((rd_T37 l0 x10_1).f2))) (fun _ hk => hk.2) (.int .i64 ((rd_T37 l0 x10_1).f3))) (fun _ hk => hk.2) (.int .i64 ((rd_T37 l0 x10_1).f4))) (fun _ hk => hk.2) (.int .i64 ((rd_T37 l0 x10_1).f5.f0))) (fun _ hk => hk.2) (.int .i64 ((rd_T37 l0 x10_1).f5.f1))) (fun _ hk => hk.2) (.int .i64 ((rd_T37 l0 x10_1).f5.f2))) (fun _ hk => hk.2) (.int .i64 ((rd_T37 l0 x10_1).f6))) (fun _ hk => hk.2) (.int .i64 ((rd_T37 l0 x10_1).f7))) (fun _ hk => trivial)⟩, ⟨by repeat (first | (with_reducible first | exact HB.out | apply below_alloc | apply pw_below_drewN | apply below_drew1 | refine below_set ?_ GE317.out) | exact HB.out)⟩⟩
     ·rw [if_neg c5] at H
      exact absurd H (by simp)
    ·rw [if_neg c4] at H
     exact absurd H (by simp)
   ·rw [if_neg c3] at H
    have c3b0 : decide (x10_1 < (l0.length : Int)) = false := decide_eq_false c3
    clear c3
    obtain rfl := Option.some.inj H
    go_wp2
    go_ret
    exact ⟨_, by first | rfl | (simp [errW_none, errW_some] <;> rfl) | (simp [*, errW_none, errW_some] <;> rfl), by (with_reducible repeat (first | apply Kd.R_alloc | apply Kd.R_drewN | apply Kd.R_drew)); exact HO_5.out, by repeat (first | (with_reducible first | exact HB.out | apply below_alloc | apply pw_below_drewN | apply below_drew1) | exact HB.out)⟩

/-! ### barrowref33_Same: function 10 -/
def barrowref33_Same.l0 : Nat → List (S37) → List (S37) → Int → Option (Bool)
 | 0, _, _, _ => none
 | k + 1, x0, x1, x5 => if x5 < (x0.length : Int) then (if 0 ≤ x5 then (if x5 < (x1.length : Int) then (if (!(((rd_T37 x0 x5).f0) == ((rd_T37 x1 x5).f0)) || ((!(((rd_T37 x0 x5).f1.f0) == ((rd_T37 x1 x5).f1.f0)) || ((!(((rd_T37 x0 x5).f1.f1.f0) == ((rd_T37 x1 x5).f1.f1.f0)) || (!(((rd_T37 x0 x5).f1.f1.f1) == ((rd_T37 x1 x5).f1.f1.f1)))) || ((!(((rd_T37 x0 x5).f1.f2.f0) == ((rd_T37 x1 x5).f1.f2.f0)) || (!(((rd_T37 x0 x5).f1.f2.f1) == ((rd_T37 x1 x5).f1.f2.f1)))) || (!(((rd_T37 x0 x5).f1.f3) == ((rd_T37 x1 x5).f1.f3)) || (!(((rd_T37 x0 x5).f1.f4) == ((rd_T37 x1 x5).f1.f4))))))) || (!(((rd_T37 x0 x5).f2) == ((rd_T37 x1 x5).f2)) || (!(((rd_T37 x0 x5).f3) == ((rd_T37 x1 x5).f3)) || (!(((rd_T37 x0 x5).f4) == ((rd_T37 x1 x5).f4)) || ((!(((rd_T37 x0 x5).f5.f0) == ((rd_T37 x1 x5).f5.f0)) || (!(((rd_T37 x0 x5).f5.f1) == ((rd_T37 x1 x5).f5.f1)) || (!(((rd_T37 x0 x5).f5.f2) == ((rd_T37 x1 x5).f5.f2))))) || (!(((rd_T37 x0 x5).f6) == ((rd_T37 x1 x5).f6)) || (!(((rd_T37 x0 x5).f7) == ((rd_T37 x1 x5).f7)))))))))) = true then (some false) else (barrowref33_Same.l0 k x0 x1 (wrap64 (x5 + 1)))) else (none)) else (none)) else (some true)
def barrowref33_Same.f (k : Nat) (l0 : List (S37)) (l1 : List (S37)) : Option (Bool) := if (l0.length : Int) = (l1.length : Int) then (barrowref33_Same.l0 k l0 l1 0) else (some false)
theorem barrowref33_Same.mono_l : ∀ k, (∀ y0 y1 y2, LeO (barrowref33_Same.l0 k y0 y1 y2) (barrowref33_Same.l0 (k + 1) y0 y1 y2))
 | 0 => fun _ _ _ r h => by simp [barrowref33_Same.l0] at h
 | k + 1 => by
  have ih0 := barrowref33_Same.mono_l k
  ·intro y0 y1 y2
   unfold barrowref33_Same.l0
   repeat' first
   | (with_reducible exact ih0 _ _ _)
   | (with_reducible exact LeO.refl _)
   | (with_reducible exact LeO.none _)
   | (with_reducible refine LeO.ite ?_ ?_)
   | (with_reducible refine LeO.bind ?_ (fun _ => ?_))
   | exact ih0 _ _ _
   | exact LeO.none _
   | refine LeO.ite ?_ ?_
   | refine LeO.bind ?_ (fun _ => ?_)
theorem barrowref33_Same.mono : ∀ a0 a1 k, LeO (barrowref33_Same.f k a0 a1) (barrowref33_Same.f (k + 1) a0 a1) := by
 intro a0 a1 k
 have ih0 := barrowref33_Same.mono_l k
 unfold barrowref33_Same.f
 repeat' first
   | (with_reducible exact ih0 _ _ _)
   | (with_reducible exact LeO.refl _)
   | (with_reducible exact LeO.none _)
   | (with_reducible refine LeO.ite ?_ ?_)
   | (with_reducible refine LeO.bind ?_ (fun _ => ?_))
   | exact ih0 _ _ _
   | exact LeO.none _
   | refine LeO.ite ?_ ?_
   | refine LeO.bind ?_ (fun _ => ?_)
set_option maxHeartbeats 8000000 in
set_option maxRecDepth 100000 in
theorem barrowref33_Same.calls (k : Nat) (A0 : Option Addr) (c0 : Nat) (l0 : List (S37)) (A1 : Option Addr) (c1 : Nat) (l1 : List (S37)) (r : Bool) (w : World) (hr0 : Kd.C k37 w A0 l0.length l0) (hc0 : l0.length ≤ c0) (hr1 : Kd.C k37 w A1 l1.length l1) (hc1 : l1.length ≤ c1) (h : barrowref33_Same.f k l0 l1 = some r) :
  Calls Try.prog 10 #[.slice A0 l0.length c0, .slice A1 l1.length c1] w fun e w' => e = .returned (.bool r) ∧ Drawn0 w w' := by
 have hu37 := Try.underlying37
 have HR0 := Aside0.mk hr0
 have HC0 := Aside0.mk hc0
 clear hr0 hc0
 have HR1 := Aside0.mk hr1
 have HC1 := Aside0.mk hc1
 clear hr1 hc1
 have H : (if (l0.length : Int) = (l1.length : Int) then (barrowref33_Same.l0 k l0 l1 0) else (some false)) = some r := h
 clear h
 by_cases c3 : (l0.length : Int) = (l1.length : Int)
 ·rw [if_pos c3] at H
  have c3b0 : ((l0.length : Int) == (l1.length : Int)) = true := beq_iff_eq.mpr c3
  have c3b1 : ((l0.length : Int) != (l1.length : Int)) = false := bne_eq_false_iff_eq.mpr c3
  have c3b2 : (l0.length == l1.length) = true := by first | simpa using c3 | (simp at c3 ⊢; omega)
  clear c3
  have H' := Aside0.mk H
  clear H
  go_enter Try.func10, Try.ntmps10
  go_wp2
  repeat (go_quiet (fail); try go_wp2)
  go_loopg [5] k (fun kq v5 w' => ∃ (x5_1 : Int), v5 = .int .i64 x5_1 ∧ Aside0 (barrowref33_Same.l0 kq l0 l1 x5_1 = some r) ∧ Aside0 (kq ≤ k) ∧ Drawn0 w w')
  case atStart => exact ⟨(0), (by first | rfl | (simp; done) | (simp [*]; done)), H', ⟨Nat.le_refl _⟩, by repeat (first | exact Drawn0.refl _ | apply Drawn0.step)⟩
  case round =>
   clear H'
   try clear c1
   try clear p2
   try clear c3
   try clear c3b0
   try clear c3b1
   try clear c3b2
   obtain ⟨x5_1, rfl, HA, HK1, ⟨m1, rfl⟩⟩ := hrel
   cases gk with
   | zero => exact absurd HA.out (by simp [barrowref33_Same.l0])
   | succ k1 =>
    have H := HA.out
    clear HA
    simp only [barrowref33_Same.l0] at H
    by_cases c4 : x5_1 < (l0.length : Int)
    ·rw [if_pos c4] at H
     have c4b0 : decide (x5_1 < (l0.length : Int)) = true := decide_eq_true c4
     clear c4
     by_cases c5 : 0 ≤ x5_1
     ·rw [if_pos c5] at H
      have c5b0 : decide (0 ≤ x5_1) = true := decide_eq_true c5
      clear c5
      by_cases c6 : x5_1 < (l1.length : Int)
      ·rw [if_pos c6] at H
       have c6b0 : decide (x5_1 < (l1.length : Int)) = true := decide_eq_true c6
       clear c6
       by_cases c7 : (!(((rd_T37 l0 x5_1).f0) == ((rd_T37 l1 x5_1).f0)) || ((!(((rd_T37 l0 x5_1).f1.f0) == ((rd_T37 l1 x5_1).f1.f0)) || ((!(((rd_T37 l0 x5_1).f1.f1.f0) == ((rd_T37 l1 x5_1).f1.f1.f0)) || (!(((rd_T37 l0 x5_1).f1.f1.f1) == ((rd_T37 l1 x5_1).f1.f1.f1)))) || ((!(((rd_T37 l0 x5_1).f1.f2.f0) == ((rd_T37 l1 x5_1).f1.f2.f0)) || (!(((rd_T37 l0 x5_1).f1.f2.f1) == ((rd_T37 l1 x5_1).f1.f2.f1)))) || (!(((rd_T37 l0 x5_1).f1.f3) == ((rd_T37 l1 x5_1).f1.f3)) || (!(((rd_T37 l0 x5_1).f1.f4) == ((rd_T37 l1 x5_1).f1.f4))))))) || (!(((rd_T37 l0 x5_1).f2) == ((rd_T37 l1 x5_1).f2)) || (!(((rd_T37 l0 x5_1).f3) == ((rd_T37 l1 x5_1).f3)) || (!(((rd_T37 l0 x5_1).f4) == ((rd_T37 l1 x5_1).f4)) || ((!(((rd_T37 l0 x5_1).f5.f0) == ((rd_T37 l1 x5_1).f5.f0)) || (!(((rd_T37 l0 x5_1).f5.f1) == ((rd_T37 l1 x5_1).f5.f1)) || (!(((rd_T37 l0 x5_1).f5.f2) == ((rd_T37 l1 x5_1).f5.f2))))) || (!(((rd_T37 l0 x5_1).f6) == ((rd_T37 l1 x5_1).f6)) || (!(((rd_T37 l0 x5_1).f7) == ((rd_T37 l1 x5_1).f7)))))))))) = true
       ·rw [if_pos c7] at H
        have c7b0 : (!(((rd_T37 l0 x5_1).f0) == ((rd_T37 l1 x5_1).f0)) || ((!(((rd_T37 l0 x5_1).f1.f0) == ((rd_T37 l1 x5_1).f1.f0)) || ((!(((rd_T37 l0 x5_1).f1.f1.f0) == ((rd_T37 l1 x5_1).f1.f1.f0)) || (!(((rd_T37 l0 x5_1).f1.f1.f1) == ((rd_T37 l1 x5_1).f1.f1.f1)))) || ((!(((rd_T37 l0 x5_1).f1.f2.f0) == ((rd_T37 l1 x5_1).f1.f2.f0)) || (!(((rd_T37 l0 x5_1).f1.f2.f1) == ((rd_T37 l1 x5_1).f1.f2.f1)))) || (!(((rd_T37 l0 x5_1).f1.f3) == ((rd_T37 l1 x5_1).f1.f3)) || (!(((rd_T37 l0 x5_1).f1.f4) == ((rd_T37 l1 x5_1).f1.f4))))))) || (!(((rd_T37 l0 x5_1).f2) == ((rd_T37 l1 x5_1).f2)) || (!(((rd_T37 l0 x5_1).f3) == ((rd_T37 l1 x5_1).f3)) || (!(((rd_T37 l0 x5_1).f4) == ((rd_T37 l1 x5_1).f4)) || ((!(((rd_T37 l0 x5_1).f5.f0) == ((rd_T37 l1 x5_1).f5.f0)) || (!(((rd_T37 l0 x5_1).f5.f1) == ((rd_T37 l1 x5_1).f5.f1)) || (!(((rd_T37 l0 x5_1).f5.f2) == ((rd_T37 l1 x5_1).f5.f2))))) || (!(((rd_T37 l0 x5_1).f6) == ((rd_T37 l1 x5_1).f6)) || (!(((rd_T37 l0 x5_1).f7) == ((rd_T37 l1 x5_1).f7)))))))))) = true := c7
        clear c7
        obtain rfl := Option.some.inj H
        have p378 : 0 ≤ (x5_1 : Int) := of_decide_eq_true (by first | (with_reducible assumption) | assumption)
        have q378 : x5_1 < (l0.length : Int) := of_decide_eq_true (by first | (with_reducible assumption) | assumption)
        obtain ⟨ad378, e378, hx378_0, hx378_1, hx378_2, hx378_3, hx378_4, hx378_5, hx378_6, hx378_7, hx378_8, hx378_9, hx378_10, hx378_11, hx378_12, hx378_13, hx378_14, hx378_15⟩ := at_T37 HR0.out x5_1 p378 q378
        cases e378
        replace p378 := eq_true p378
        replace q378 := eq_true q378
        have p379 : 0 ≤ (x5_1 : Int) := of_decide_eq_true (by first | (with_reducible assumption) | assumption)
        have q379 : x5_1 < (l1.length : Int) := of_decide_eq_true (by first | (with_reducible assumption) | assumption)
        obtain ⟨ad379, e379, hx379_0, hx379_1, hx379_2, hx379_3, hx379_4, hx379_5, hx379_6, hx379_7, hx379_8, hx379_9, hx379_10, hx379_11, hx379_12, hx379_13, hx379_14, hx379_15⟩ := at_T37 HR1.out x5_1 p379 q379
        cases e379
        replace p379 := eq_true p379
        replace q379 := eq_true q379
        go_wp2
        repeat (go_quiet (fail); try go_wp2)
        go_ret
        exact ⟨by first | rfl | (simp; done) | (simp [*]; done), by repeat (first | exact Drawn0.refl _ | apply Drawn0.step)⟩
       ·rw [if_neg c7] at H
        have c7b0 : (!(((rd_T37 l0 x5_1).f0) == ((rd_T37 l1 x5_1).f0)) || ((!(((rd_T37 l0 x5_1).f1.f0) == ((rd_T37 l1 x5_1).f1.f0)) || ((!(((rd_T37 l0 x5_1).f1.f1.f0) == ((rd_T37 l1 x5_1).f1.f1.f0)) || (!(((rd_T37 l0 x5_1).f1.f1.f1) == ((rd_T37 l1 x5_1).f1.f1.f1)))) || ((!(((rd_T37 l0 x5_1).f1.f2.f0) == ((rd_T37 l1 x5_1).f1.f2.f0)) || (!(((rd_T37 l0 x5_1).f1.f2.f1) == ((rd_T37 l1 x5_1).f1.f2.f1)))) || (!(((rd_T37 l0 x5_1).f1.f3) == ((rd_T37 l1 x5_1).f1.f3)) || (!(((rd_T37 l0 x5_1).f1.f4) == ((rd_T37 l1 x5_1).f1.f4))))))) || (!(((rd_T37 l0 x5_1).f2) == ((rd_T37 l1 x5_1).f2)) || (!(((rd_T37 l0 x5_1).f3) == ((rd_T37 l1 x5_1).f3)) || (!(((rd_T37 l0 x5_1).f4) == ((rd_T37 l1 x5_1).f4)) || ((!(((rd_T37 l0 x5_1).f5.f0) == ((rd_T37 l1 x5_1).f5.f0)) || (!(((rd_T37 l0 x5_1).f5.f1) == ((rd_T37 l1 x5_1).f5.f1)) || (!(((rd_T37 l0 x5_1).f5.f2) == ((rd_T37 l1 x5_1).f5.f2))))) || (!(((rd_T37 l0 x5_1).f6) == ((rd_T37 l1 x5_1).f6)) || (!(((rd_T37 l0 x5_1).f7) == ((rd_T37 l1 x5_1).f7)))))))))) = false := by simpa using c7
        clear c7
        have H' := Aside0.mk H
        clear H
        have p378 : 0 ≤ (x5_1 : Int) := of_decide_eq_true (by first | (with_reducible assumption) | assumption)
        have q378 : x5_1 < (l0.length : Int) := of_decide_eq_true (by first | (with_reducible assumption) | assumption)
        obtain ⟨ad378, e378, hx378_0, hx378_1, hx378_2, hx378_3, hx378_4, hx378_5, hx378_6, hx378_7, hx378_8, hx378_9, hx378_10, hx378_11, hx378_12, hx378_13, hx378_14, hx378_15⟩ := at_T37 HR0.out x5_1 p378 q378
        cases e378
        replace p378 := eq_true p378
        replace q378 := eq_true q378
        have p379 : 0 ≤ (x5_1 : Int) := of_decide_eq_true (by first | (with_reducible assumption) | assumption)
        have q379 : x5_1 < (l1.length : Int) := of_decide_eq_true (by first | (with_reducible assumption) | assumption)
        obtain ⟨ad379, e379, hx379_0, hx379_1, hx379_2, hx379_3, hx379_4, hx379_5, hx379_6, hx379_7, hx379_8, hx379_9, hx379_10, hx379_11, hx379_12, hx379_13, hx379_14, hx379_15⟩ := at_T37 HR1.out x5_1 p379 q379
        cases e379
        replace p379 := eq_true p379
        replace q379 := eq_true q379
        go_wp2
        repeat (go_quiet (fail); try go_wp2)
        go_roundg k1
        case measure => have := HK1.out; omega
        case rel => exact ⟨(wrap64 (x5_1 + 1)), (by first | rfl | (simp; done) | (simp [*]; done)), H', ⟨by have := HK1.out; omega⟩, by repeat (first | exact Drawn0.refl _ | apply Drawn0.step)⟩
      ·rw [if_neg c6] at H
       exact absurd H (by simp)
     ·rw [if_neg c5] at H
      exact absurd H (by simp)
    ·rw [if_neg c4] at H
     have c4b0 : decide (x5_1 < (l0.length : Int)) = false := decide_eq_false c4
     clear c4
     obtain rfl := Option.some.inj H
     go_wp2
     repeat (go_quiet (fail); try go_wp2)
     go_ret
     exact ⟨by first | rfl | (simp; done) | (simp [*]; done), by repeat (first | exact Drawn0.refl _ | apply Drawn0.step)⟩
 ·rw [if_neg c3] at H
  have c3b0 : ((l0.length : Int) == (l1.length : Int)) = false := beq_eq_false_iff_ne.mpr c3
  have c3b1 : ((l0.length : Int) != (l1.length : Int)) = true := bne_iff_ne.mpr c3
  have c3b2 : (l0.length == l1.length) = false := by first | simpa using c3 | (simp at c3 ⊢; omega)
  obtain rfl := Option.some.inj H
  go_enter Try.func10, Try.ntmps10
  go_wp2
  repeat (go_quiet (fail); try go_wp2)
  go_ret
  exact ⟨by first | rfl | (simp; done) | (simp [*]; done), by repeat (first | exact Drawn0.refl _ | apply Drawn0.step)⟩

-- NOT PRINTED: function 34 (api_Zone_34)

/-! ### slices_Delete: function 34, by hand -/
def slices_Delete.f (l0 : List S37) (a1 a2 : Int) : Option (List S37) := if 0 ≤ a1 ∧ a1 < (l0.length : Int) ∧ a2 = a1 + 1 then some (l0.eraseIdx a1.toNat) else none
def slices_Delete.Post (r : List S37) (S : Nat → Prop) (L : List Asr) (w : World) (e : Ending) (w' : World) : Prop := ∃ (Ar1 : Option Addr) (cr1 : Nat), e = .returned (.slice Ar1 r.length cr1) ∧ SL (row k37 37 (.slice Ar1 r.length cr1) r :: L) w' S ∧ Keep S w w'
set_option maxHeartbeats 8000000 in
set_option maxRecDepth 100000 in
theorem slices_Delete.slcalls (A0 : Option Addr) (c0 : Nat) (l0 : List S37) (a1 a2 : Int) (r : List S37) (S : Nat → Prop) (L : List Asr) (w : World) (hf : Fresh S w) (hs : SL (row k37 37 (.slice A0 l0.length c0) l0 :: L) w S) (h : slices_Delete.f l0 a1 a2 = some r) :
  Calls Try.prog 34 #[.slice A0 l0.length c0, .int .i64 a1, .int .i64 a2] w (slices_Delete.Post r S L w) := by
 unfold slices_Delete.f at h
 split at h
 rotate_left
 ·cases h
 rename_i hcond
 obtain ⟨h0, h1, h2⟩ := hcond
 obtain rfl := Option.some.inj h
 obtain ⟨i, rfl⟩ : ∃ i : Nat, a1 = i := ⟨a1.toNat, by omega⟩
 rw [Int.toNat_natCast]
 have hil : i < l0.length := by omega
 obtain ⟨n, hn⟩ : ∃ n, n = l0.length := ⟨_, rfl⟩
 rw [← hn]
 rw [← hn] at hs
 have hsz : k37.sz = 16 := rfl
 obtain ⟨T, U, s1, s2, s3, hq, s5⟩ := hs
 obtain ⟨g, of, c', cur, inner, hA0, hnl0, hnc, hcc, hm, hg, hcs, hinl, htake, hT, hr⟩ := qs_raw hq (by omega)
 have hone := reps_one hr
 obtain ⟨news, hnews⟩ : ∃ news, news = inner.drop ((i + 1) * k37.sz) := ⟨_, rfl⟩
 have hnl : news.length = (n - (i + 1)) * 16 := by rw [hnews, List.length_drop, hinl, hsz, Nat.sub_mul]
 obtain ⟨o, ho⟩ : ∃ o, o = of * k37.sz := ⟨_, rfl⟩
 rw [← ho] at hA0
 have hcsz : cur.size = o + c' * 16 := by rw [hcs, Nat.add_mul, ← ho, hsz]
 have hcell : ∀ q, q < cur.size → ∃ u, w.drew.cell? ⟨g, q, none⟩ = some u := fun q hq => by
  refine ⟨cur[q], ?_⟩
  have : w.drew.heap[g]? = some (.cells cur 37 (0, 0)) := hg
  rw [cell_of_row w.drew g q cur 37 (0, 0) this, Array.getElem?_eq_getElem hq]
 obtain ⟨A, hA, hsrc⟩ : ∃ A : Addr, (if c0 = i + 1 then some (⟨g, o, none⟩ : Addr) else some ⟨g, o + (i + 1) * 16, none⟩) = some A ∧ Aside0 (∀ t u, news[t]? = some u → w.drew.cell? (A.add t) = some u) := by
  by_cases hc : c0 = i + 1
  ·refine ⟨⟨g, o, none⟩, by simp [hc], ⟨fun t u hu => ?_⟩⟩
   have h0 : news = [] := List.eq_nil_of_length_eq_zero (by rw [hnl]; omega)
   rw [h0] at hu
   simp at hu
  ·refine ⟨⟨g, o + (i + 1) * 16, none⟩, by simp [hc], ⟨fun t u hu => ?_⟩⟩
   have ht : t < news.length := (List.getElem?_eq_some_iff.1 hu).1
   have hd : w.drew.heap[g]? = some (.cells cur 37 (0, 0)) := hg
   rw [Addr.add_lit, cell_of_row w.drew g _ cur 37 (0, 0) hd, ← Array.getElem?_toList]
   rw [hnews, List.getElem?_drop, ← htake, List.getElem?_take, if_pos (by rw [hsz]; omega), List.getElem?_drop, ← ho, hsz] at hu
   rw [← hu]
   congr 1
   omega
 have s1' : Aside0 (news.length = (n - (i + 1)) * 16) := ⟨hnl⟩
 have s2' : Aside0 (∀ u ∈ news, u.oneCell' = true) := ⟨fun u hu => hone u (by rw [hnews] at hu; exact List.mem_of_mem_drop hu)⟩
 have hd : w.drew.heap[g]? = some (.cells cur 37 (0, 0)) := hg
 have s3' : Aside0 (∀ t, t < news.length → (w.drew.cell? ⟨g, o + i * 16 + t, none⟩).isSome = true ∧ w.drew.frozen? ⟨g, o + i * 16 + t, none⟩ = false) := ⟨fun t ht => by
  obtain ⟨u, hu⟩ := hcell (o + i * 16 + t) (by omega)
  exact ⟨by rw [hu]; rfl, blk_frozen hd _⟩⟩
 obtain ⟨m, hmn⟩ : ∃ m, i + (n - (i + 1)) = m := ⟨_, rfl⟩
 have hm1 : m = n - 1 := by omega
 obtain ⟨i0, hi0, hi1⟩ := Option.map_eq_some_iff.1 info37
 simp only [Prod.mk.injEq] at hi1
 obtain ⟨W1, hW1⟩ : ∃ W1, W1 = w.drew.setCells g (o + i * 16) news := ⟨_, rfl⟩
 obtain ⟨cur1, b1, b2, b3⟩ := setCells_row news (o + i * 16) w.drew cur hd (by omega)
 rw [← hW1] at b1
 obtain ⟨zs, hzs⟩ : ∃ zs : List Value, zs = List.replicate 16 (Value.int .i64 0) := ⟨_, rfl⟩
 have hcl : ∀ ty, (Builtin.clear_ #[22] ty #[.slice (some ⟨g, o + (n - 1) * 16, none⟩) 1 (c0 - (n - 1))]).run Try.prog W1 = .ok (.tuple #[]) (W1.setCells g (o + (n - 1) * 16) zs) :=
  fun ty => run_clear_cells W1 22 37 ty _ Try.underlying22 Try.zeroValue37 g (o + (n - 1) * 16) 1 _ (by omega) zs (by rw [hzs]; kernel_rfl) (by rw [hzs]; intro u hu; rw [List.eq_of_mem_replicate hu]; rfl)
   (fun j hj => by
    have hj16 : j < 16 := by rw [hzs] at hj; simpa using hj
    rw [cell_of_row W1 g _ cur1 37 (0, 0) b1, Array.getElem?_eq_getElem (by omega)]; rfl) (fun j hj => blk_frozen b1 _)
 have hend := qs_del (d := k37) ⟨fun h_ => h_⟩ (k := i) (zs := zs) (ho ▸ hA0 ▸ hq) (by omega) hnc hcc hm hg hcs hinl htake hT hr (by omega) (by rw [hzs]; rfl)
 rw [← hnews, ← ho, hsz, ← hW1, ← hA0] at hend
 have HE := Aside0.mk hend
 have e1 : ((i : Int) == a2) = false := by rw [beq_eq_false_iff_ne]; omega
 have e2 : ((i : Int) = a2) = False := eq_false (by omega)
 have hu : Try.prog.underlying 22 = some (.slice (Try.prog.elem 22)) := Try.underlying22
 have hel : Try.prog.elem 22 = 37 := rfl
 have v1 : ∀ W : World, (Instr.slice 22 (.slice A0 n c0) (some (.int .i64 i)) (some (.int .i64 a2)) (some (.int .i64 n))).run Try.prog W = .ok (sliced A0 i (i + 1) n 16) W := fun W => by
  rw [run_slice_lhm W 22 A0 n c0 hu .i64 .i64 .i64 i a2 n (by omega) (by omega) (by omega) (by omega), hel, Try.sizeOf37]
  simp only [Result.andThen, Int.toNat_natCast, show a2.toNat = i + 1 by omega]
 have v2 : ∀ W : World, (Instr.slice 22 (.slice A0 n c0) none (some (.int .i64 i)) none).run Try.prog W = .ok (.slice A0 i c0) W := fun W => by
  have := Go.Proofs.YtiadhonhjnbliaaW.PrintWords.cut_to (P := Try.prog) 22 37 .i64 Try.underlying22 hi0 A0 n c0 i (by omega) (by omega) hnc W
  rwa [Int.toNat_natCast] at this
 have v3 : ∀ W : World, (Instr.slice 22 (.slice A0 n c0) (some (.int .i64 a2)) none none).run Try.prog W = .ok (.slice (some A) (n - (i + 1)) (c0 - (i + 1))) W := fun W => by
  have := Go.Proofs.YtiadhonhjnbliaaW.PrintWords.cut_from (P := Try.prog) 22 37 .i64 Try.underlying22 hi0 16 hi1.2.1 A0 n c0 a2 (by omega) (by omega) W
  rw [show a2.toNat = i + 1 by omega, hA0, Option.map_some, Addr.add_lit, hA, ← hA0] at this
  exact this
 obtain ⟨B, hB⟩ : ∃ B, some (⟨g, o + m * 16, none⟩ : Addr) = B := ⟨_, rfl⟩
 have v4 : ∀ W : World, (Instr.slice 22 (.slice A0 m c0) (some (.int .i64 m)) (some (.int .i64 n)) none).run Try.prog W = .ok (.slice B 1 (c0 - m)) W := fun W => by
  rw [run_slice_lh W 22 A0 m c0 hu .i64 .i64 m n (by omega) (by omega) (by omega), hel, Try.sizeOf37]
  simp only [Result.andThen, Int.toNat_natCast, sliced]
  rw [if_neg (by omega), hA0, Option.map_some, Addr.add_lit, show n - m = 1 by omega, hB]
 rw [← hm1] at hcl HE
 rw [hB] at hcl
 have HA0 := Aside0.mk hA0
 have keep : Keep T w (W1.setCells g (o + m * 16) zs) := ((Keep.drew (Keep.refl T w)).trans (hW1 ▸ setCells_keep hT news (o + i * 16) w.drew)).trans (setCells_keep hT zs (o + m * 16) W1)
 have KP := Aside0.mk keep
 have hW : Aside0 (W1 = w.drew.setCells g (o + i * 16) news) := ⟨hW1⟩
 have hM : Aside0 (i + (n - (i + 1)) = m) := ⟨hmn⟩
 have hel2 : (l0.eraseIdx i).length = m := by rw [List.length_eraseIdx_of_lt hil]; omega
 have FAR := Aside0.mk (SL.far (SL.bound s5) keep (fun k hk hk' => s3 k hk' hk.1))
 have hroom : i + (n - (i + 1)) ≤ c0 := by omega
 clear hA0 hB hnl0
 clear hW1 hq hg hcs hinl htake hr hone hnl hcsz hcell hA hend b1 b2 b3 hd s5 keep hnews hmn
 have HI0 := Aside0.mk hi0
 have HI1 := Aside0.mk hi1.2.1
 have HROOM := Aside0.mk hroom
 have f1 : (i ≤ c0) = True := eq_true (by omega)
 have f2 : (i ≤ n) = True := eq_true (by omega)
 have f3 : (n ≤ c0) = True := eq_true (by omega)
 have f4 : ((0 : Int) ≤ a2) = True := eq_true (by omega)
 have f5 : (a2 ≤ (n : Int)) = True := eq_true (by omega)
 have f6 : (a2 ≤ (c0 : Int)) = True := eq_true (by omega)
 have f7 : ((i : Int) ≤ a2) = True := eq_true (by omega)
 have f8 : (m ≤ n) = True := eq_true (by omega)
 have f9 : (m ≤ c0) = True := eq_true (by omega)
 have g1 : (n = i) = False := eq_false (by omega)
 have g2 : (c0 = m) = False := eq_false (by omega)
 clear hu hel hm hcc h0 h1 h2 hsz hn hil hm1 hi0 hi1 hroom hnc hzs ho hT hf
 go_enter Try.func34, Try.ntmps34
 go_wp2_with fail
 refine start_ (n := 8) (S := fun _ => True) (ds := []) #[O,O,O,O,O,O,O,O] (by kernel_rfl) rfl rfl trivial ?_
 intro hHeld
 refine pure_ (i := 0) (N := some 20) (v := ?_) (a' := ?_) #[I,O,O,O,O,O,O,O] rfl rfl (by kernel_rfl) (fun _ _ _ h => h) (Or.inl ⟨by rfl, ?_⟩) ?_ ?_; rotate_left; · (intro w'; go_simp; with_reducible rfl)
 rotate_left; · (simp only [Act.put, List.setIfInBounds_toArray, List.set_cons_zero, List.set_cons_succ]; rfl)
 refine pure_ (i := 1) (N := some 21) (v := ?_) (a' := ?_) #[I,I,O,O,O,O,O,O] rfl rfl (by kernel_rfl) (fun _ _ _ h => h) (Or.inl ⟨by rfl, ?_⟩) ?_ ?_; rotate_left; · (intro w'; go_simp; with_reducible rfl)
 rotate_left; · (simp only [Act.put, List.setIfInBounds_toArray, List.set_cons_zero, List.set_cons_succ]; rfl)
 refine pure_ (i := 2) (N := some 22) (v := ?_) (a' := ?_) #[I,I,I,O,O,O,O,O] rfl rfl (by kernel_rfl) (fun _ _ _ h => h) (Or.inl ⟨by rfl, ?_⟩) ?_ ?_; rotate_left; · (intro w'; go_simp; with_reducible rfl)
 rotate_left; · (simp only [Act.put, List.setIfInBounds_toArray, List.set_cons_zero, List.set_cons_succ]; rfl)
 refine pure_ (i := 3) (N := some 23) (v := ?_) (a' := ?_) #[I,I,I,I,O,O,O,O] rfl rfl (by kernel_rfl) (fun _ _ _ h => h) (Or.inl ⟨by rfl, ?_⟩) ?_ ?_; rotate_left; · (intro w'; go_simp; with_reducible rfl)
 rotate_left; · (simp only [Act.put, List.setIfInBounds_toArray, List.set_cons_zero, List.set_cons_succ]; rfl)
 refine pure_ (i := 4) (N := some 24) (v := ?_) (a' := ?_) #[I,I,I,I,I,O,O,O] rfl rfl (by kernel_rfl) (fun _ _ _ h => h) (Or.inl ⟨by rfl, ?_⟩) ?_ ?_; rotate_left; · (intro w'; go_simp; with_reducible rfl)
 rotate_left; · (simp only [Act.put, List.setIfInBounds_toArray, List.set_cons_zero, List.set_cons_succ]; rfl)
 refine pure_ (i := 5) (N := some 25) (v := ?_) (a' := ?_) #[I,I,I,I,I,I,O,O] rfl rfl (by kernel_rfl) (fun _ _ _ h => h) (Or.inl ⟨by rfl, ?_⟩) ?_ ?_; rotate_left; · (intro w'; go_simp; with_reducible rfl)
 rotate_left; · (simp only [Act.put, List.setIfInBounds_toArray, List.set_cons_zero, List.set_cons_succ]; rfl)
 refine one_ (i := 6) (N := some 26) #[I,I,I,I,I,I,I,O] rfl rfl (by kernel_rfl) (by decide) (fun K hK => ?_)
 refine step_append_room rfl (.tmp 22) (.tmp 25) 22 rfl 37 i0 16 Try.underlying22 HI0.out HI1.out g o i c0 (by simp [Act.eval, Act.put, HA0.out]) A (n - (i + 1)) (c0 - (i + 1)) news (by simp [Act.eval, Act.put]) s1'.out hsrc.out s2'.out HROOM.out s3'.out ?_
 rw [← hW.out, hM.out, ← HA0.out]
 refine hK.out _ _ trivial (fun hHeld => ?_)
 clear hK K
 refine norm_ (a' := ?_) ?_ ?_; rotate_left
 ·show Act.put _ (some 26) _ = _
  simp only [Act.put, List.setIfInBounds_toArray, List.set_cons_zero, List.set_cons_succ]
  rfl
 refine pure_ (i := 7) (N := some 0) (v := ?_) (a' := ?_) #[I,I,I,I,I,I,I,I] rfl rfl (by kernel_rfl) (fun _ _ _ h => h) (Or.inl ⟨by rfl, ?_⟩) ?_ ?_; rotate_left; · (intro w'; go_simp; with_reducible rfl)
 rotate_left; · (simp only [Act.put, List.setIfInBounds_toArray, List.set_cons_zero, List.set_cons_succ]; rfl)
 refine done_ (by kernel_rfl) ?_
 go_wp2
 go_ret
 unfold slices_Delete.Post
 exact ⟨A0, c0, by rw [hel2]; rfl, ⟨T, _, s1, fun k hk => s2 k hk.1, fun k hk hk' => s3 k hk hk'.1, (by show Qs _ _ _ _ _ (.slice A0 (l0.eraseIdx i).length c0) _; rw [hel2]; exact HE.out), FAR.out⟩, KP.out.sub s1⟩

end Go.Proofs.Ytiadhonhjnbliaa.XZT
