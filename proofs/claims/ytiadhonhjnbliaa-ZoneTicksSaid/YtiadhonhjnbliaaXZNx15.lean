-- Written by xprint.py (a program of this session) for this claim
import Derived.Test.YtiadhonhjnbliaaXZNx0
namespace Go.Proofs.Ytiadhonhjnbliaa.XZN
open Go.Proofs.YtiadhonhjnbliaaV Go.Proofs.YtiadhonhjnbliaaS
open Go.RowKit Go.Proofs.YtiadhonhjnbliaaW.PrintWords Go.Proofs.YtiadhonhjnbliaaW.PrintLast Go.Proofs.YtiadhonhjnbliaaW.PrintMore
attribute [local go_sem] max2_int min2_int max_two min_two max_three min_three max_four min_four   -- for this text's walks alone
set_option linter.unusedVariables false
set_option linter.unusedSimpArgs false

/-! ### zone_Of: function 22 -/
def zone_Of.l0 : Nat → Int → List Int → List (S37) → Int → Int → Option (List Int)
  | 0, _, _, _, _, _ => none
  | k + 1, x1, x5, x8, x9, x10 => if x10 < x9 then (if 0 ≤ x10 then (if x10 < (x8.length : Int) then (if ((rd_T37 x8 x10).f6) = x1 then (if x5.length < 17592186044416 then (zone_Of.l0 k x1 (x5 ++ [(rd_T37 x8 x10).f0]) x8 x9 (wrap64 (x10 + 1))) else (none)) else (zone_Of.l0 k x1 x5 x8 x9 (wrap64 (x10 + 1)))) else (none)) else (none)) else (some x5)
def zone_Of.f (k : Nat) (l0 : List (S37)) (a1 : Int) : Option (List Int) := zone_Of.l0 k a1 ([] : List Int) l0 (l0.length : Int) 0
theorem zone_Of.mono_l : ∀ k, (∀ y0 y1 y2 y3 y4, LeO (zone_Of.l0 k y0 y1 y2 y3 y4) (zone_Of.l0 (k + 1) y0 y1 y2 y3 y4))
  | 0 => fun _ _ _ _ _ r h => by simp [zone_Of.l0] at h
  | k + 1 => by
    have ih0 := zone_Of.mono_l k
    · intro y0 y1 y2 y3 y4
      unfold zone_Of.l0
      repeat' first
      | (with_reducible exact ih0 _ _ _ _ _)
      | (with_reducible exact LeO.refl _)
      | (with_reducible exact LeO.none _)
      | (with_reducible refine LeO.ite ?_ ?_)
      | (with_reducible refine LeO.bind ?_ (fun _ => ?_))
      | exact ih0 _ _ _ _ _
      | exact LeO.none _
      | refine LeO.ite ?_ ?_
      | refine LeO.bind ?_ (fun _ => ?_)
theorem zone_Of.mono : ∀ a0 a1 k, LeO (zone_Of.f k a0 a1) (zone_Of.f (k + 1) a0 a1) := by
  intro a0 a1 k
  have ih0 := zone_Of.mono_l k
  unfold zone_Of.f
  repeat' first
      | (with_reducible exact ih0 _ _ _ _ _)
      | (with_reducible exact LeO.refl _)
      | (with_reducible exact LeO.none _)
      | (with_reducible refine LeO.ite ?_ ?_)
      | (with_reducible refine LeO.bind ?_ (fun _ => ?_))
      | exact ih0 _ _ _ _ _
      | exact LeO.none _
      | refine LeO.ite ?_ ?_
      | refine LeO.bind ?_ (fun _ => ?_)
set_option maxHeartbeats 8000000 in
set_option maxRecDepth 100000 in
theorem zone_Of.calls (k : Nat) (A0 : Option Addr) (c0 : Nat) (l0 : List (S37)) (a1 : Int) (r : List Int) (w : World) (hr0 : Kd.C k37 w A0 l0.length l0) (hc0 : l0.length ≤ c0) (h : zone_Of.f k l0 a1 = some r) :
    Calls Try.prog 22 #[.slice A0 l0.length c0, .int .i64 a1] w fun e w' => ∃ v0_ : Value, e = .returned (v0_) ∧ Kd.R (Kd.int .i64) 3 w' w.heap.size (fun _ => True) v0_ r ∧ Below w.heap.size w w' := by
  have hu37 := Try.underlying37
  have HR0 := Aside0.mk hr0
  have HC0 := Aside0.mk hc0
  clear hr0 hc0
  have HB := Aside0.mk (Below.refl w.heap.size w)
  have H : (zone_Of.l0 k a1 ([] : List Int) l0 (l0.length : Int) 0) = some r := h
  clear h
  have H' := Aside0.mk H
  clear H
  go_enter Try.func22, Try.ntmps22
  go_wp2
  go_loopg [5, 10] k (fun kq v5 v10 w' => ∃ (x5_1 : List Int) (x10_1 : Int), v10 = .int .i64 x10_1 ∧ Aside0 (zone_Of.l0 kq a1 x5_1 l0 (l0.length : Int) x10_1 = some r) ∧ Aside0 (kq ≤ k) ∧ Aside0 (Kd.R (Kd.int .i64) 3 w' w.heap.size (fun _ => True) v5 x5_1) ∧ Aside0 (Below w.heap.size w w'))
  case atStart => exact ⟨(([] : List Int)), (0), (by first | rfl | (simp; done) | (simp [*]; done)), H', ⟨Nat.le_refl _⟩, ⟨by first | exact Kd.R_nil _ _ _ _ _ | exact Kd.N_nil _ _ _ _ _ | exact Kd.V_nil _ _ _ _ _ | exact Kd.Q_nil _ _ _ _ _ | exact Kd.S_nil _ _ _ _ _⟩, ⟨by repeat (first | (with_reducible first | exact HB.out | apply below_alloc | apply pw_below_drewN | apply below_drew1) | exact HB.out)⟩⟩
  case round =>
    clear H'
    try clear c2
    try clear p2
    obtain ⟨x5_1, x10_1, rfl, HA, HK1, HO_5, HB⟩ := hrel
    cases gk with
    | zero => exact absurd HA.out (by simp [zone_Of.l0])
    | succ k1 =>
      have H := HA.out
      clear HA
      simp only [zone_Of.l0] at H
      by_cases c3 : x10_1 < (l0.length : Int)
      · rw [if_pos c3] at H
        have c3b0 : decide (x10_1 < (l0.length : Int)) = true := decide_eq_true c3
        clear c3
        by_cases c4 : 0 ≤ x10_1
        · rw [if_pos c4] at H
          have c4b0 : decide (0 ≤ x10_1) = true := decide_eq_true c4
          clear c4
          by_cases c5 : x10_1 < (l0.length : Int)
          · rw [if_pos c5] at H
            have c5b0 : decide (x10_1 < (l0.length : Int)) = true := decide_eq_true c5
            clear c5
            by_cases c6 : ((rd_T37 l0 x10_1).f6) = a1
            · rw [if_pos c6] at H
              have c6b0 : (((rd_T37 l0 x10_1).f6) == a1) = true := beq_iff_eq.mpr c6
              have c6b1 : (((rd_T37 l0 x10_1).f6) != a1) = false := bne_eq_false_iff_eq.mpr c6
              clear c6
              by_cases c7 : x5_1.length < 17592186044416
              · rw [if_pos c7] at H
                have LMc7 := Aside0.mk c7
                clear c7
                obtain ⟨y318, hy318⟩ : ∃ y_ : List Int, y_ = (x5_1 ++ [(rd_T37 l0 x10_1).f0]) := ⟨_, rfl⟩
                replace H : (zone_Of.l0 k1 a1 y318 l0 (l0.length : Int) (wrap64 (x10_1 + 1))) = some r := by first | (rw [hy318]; with_reducible exact H) | (have H2_ := (Option.bind_some _ _).symm.trans H; rw [hy318]; with_reducible exact H2_) | (have H2_ := (Option.bind_some _ _).symm.trans H; with_reducible exact H2_) | with_reducible exact H | (rw [hy318]; exact H) | exact H
                have Ny318 := Aside0.mk hy318
                clear hy318
                have H' := Aside0.mk H
                clear H
                have p316 : 0 ≤ (x10_1 : Int) := of_decide_eq_true (by first | (with_reducible assumption) | assumption)
                have q316 : x10_1 < (l0.length : Int) := of_decide_eq_true (by first | (with_reducible assumption) | assumption)
                obtain ⟨ad316, e316, hx316_0, hx316_1, hx316_2, hx316_3, hx316_4, hx316_5, hx316_6, hx316_7, hx316_8, hx316_9, hx316_10, hx316_11, hx316_12, hx316_13, hx316_14, hx316_15⟩ := at_T37 HR0.out x10_1 p316 q316
                cases e316
                replace hx316_0 := (HB.out.cell (World.block_lt_of_cell? w _ hx316_0)).trans hx316_0
                replace hx316_1 := (HB.out.cell (World.block_lt_of_cell? w _ hx316_1)).trans hx316_1
                replace hx316_2 := (HB.out.cell (World.block_lt_of_cell? w _ hx316_2)).trans hx316_2
                replace hx316_3 := (HB.out.cell (World.block_lt_of_cell? w _ hx316_3)).trans hx316_3
                replace hx316_4 := (HB.out.cell (World.block_lt_of_cell? w _ hx316_4)).trans hx316_4
                replace hx316_5 := (HB.out.cell (World.block_lt_of_cell? w _ hx316_5)).trans hx316_5
                replace hx316_6 := (HB.out.cell (World.block_lt_of_cell? w _ hx316_6)).trans hx316_6
                replace hx316_7 := (HB.out.cell (World.block_lt_of_cell? w _ hx316_7)).trans hx316_7
                replace hx316_8 := (HB.out.cell (World.block_lt_of_cell? w _ hx316_8)).trans hx316_8
                replace hx316_9 := (HB.out.cell (World.block_lt_of_cell? w _ hx316_9)).trans hx316_9
                replace hx316_10 := (HB.out.cell (World.block_lt_of_cell? w _ hx316_10)).trans hx316_10
                replace hx316_11 := (HB.out.cell (World.block_lt_of_cell? w _ hx316_11)).trans hx316_11
                replace hx316_12 := (HB.out.cell (World.block_lt_of_cell? w _ hx316_12)).trans hx316_12
                replace hx316_13 := (HB.out.cell (World.block_lt_of_cell? w _ hx316_13)).trans hx316_13
                replace hx316_14 := (HB.out.cell (World.block_lt_of_cell? w _ hx316_14)).trans hx316_14
                replace hx316_15 := (HB.out.cell (World.block_lt_of_cell? w _ hx316_15)).trans hx316_15
                replace p316 := eq_true p316
                replace q316 := eq_true q316
                go_wp2_with (first | ((with_reducible refine gate_dst (N := 7) rfl ?_); refine box_event ?hg (N := 7) ?hd (cs := #[.int .i64 0, .int .i64 0, .int .i64 0, .int .i64 0, .int .i64 0, .int .i64 0, .int .i64 0, .int .i64 0, .int .i64 0, .int .i64 0, .int .i64 0, .int .i64 0, .int .i64 0, .int .i64 0, .int .i64 0, .int .i64 0]) (t := 37) ?hr ?_; (case hd => rfl); (case hg => rfl); (case hr => first | (go_simp; done) | (go_simp; rfl)); intro gb317 hg w8 hbox hb; have n0_ := Aside0.mk (Kd.R_below (by (with_reducible repeat (first | apply Kd.R_alloc | apply Kd.R_drewN | apply Kd.R_drew)); exact HO_5.out) hb); have n1_ := Aside0.mk (below_step (by repeat (first | (with_reducible first | exact HB.out | apply below_alloc | apply pw_below_drewN | apply below_drew1) | exact HB.out)) hb); have n2_ := Aside0.mk (hbox); have n3_ := Aside0.mk ((by rw [hg]; exact (below_size (by repeat (first | (with_reducible first | exact HB.out | apply below_alloc | apply pw_below_drewN | apply below_drew1) | exact HB.out))) : w.heap.size ≤ gb317)); have n4_ := Aside0.mk ((by rw [hg]; exact (below_size (by repeat (first | (with_reducible first | exact HB.out | apply below_alloc | apply pw_below_drewN | apply below_drew1) | exact HB.out))) : w.heap.size ≤ gb317)); clear HO_5; clear HB; have HO_5 := n0_; have HB := n1_; have BK317 := n2_; have GW317 := n3_; have GE317 := n4_; clear n0_ n1_ n2_ n3_ n4_; clear hb hbox hg; have hcz9_0 : w8.cell? ⟨gb317, 0, none⟩ = some (.int .i64 0) := (blk_cell BK317.out 0).trans rfl; have hcz9_1 : w8.cell? ⟨gb317, 1, none⟩ = some (.int .i64 0) := (blk_cell BK317.out 1).trans rfl; have hcz9_2 : w8.cell? ⟨gb317, 2, none⟩ = some (.int .i64 0) := (blk_cell BK317.out 2).trans rfl; have hcz9_3 : w8.cell? ⟨gb317, 3, none⟩ = some (.int .i64 0) := (blk_cell BK317.out 3).trans rfl; have hcz9_4 : w8.cell? ⟨gb317, 4, none⟩ = some (.int .i64 0) := (blk_cell BK317.out 4).trans rfl; have hcz9_5 : w8.cell? ⟨gb317, 5, none⟩ = some (.int .i64 0) := (blk_cell BK317.out 5).trans rfl; have hcz9_6 : w8.cell? ⟨gb317, 6, none⟩ = some (.int .i64 0) := (blk_cell BK317.out 6).trans rfl; have hcz9_7 : w8.cell? ⟨gb317, 7, none⟩ = some (.int .i64 0) := (blk_cell BK317.out 7).trans rfl; have hcz9_8 : w8.cell? ⟨gb317, 8, none⟩ = some (.int .i64 0) := (blk_cell BK317.out 8).trans rfl; have hcz9_9 : w8.cell? ⟨gb317, 9, none⟩ = some (.int .i64 0) := (blk_cell BK317.out 9).trans rfl; have hcz9_10 : w8.cell? ⟨gb317, 10, none⟩ = some (.int .i64 0) := (blk_cell BK317.out 10).trans rfl; have hcz9_11 : w8.cell? ⟨gb317, 11, none⟩ = some (.int .i64 0) := (blk_cell BK317.out 11).trans rfl; have hcz9_12 : w8.cell? ⟨gb317, 12, none⟩ = some (.int .i64 0) := (blk_cell BK317.out 12).trans rfl; have hcz9_13 : w8.cell? ⟨gb317, 13, none⟩ = some (.int .i64 0) := (blk_cell BK317.out 13).trans rfl; have hcz9_14 : w8.cell? ⟨gb317, 14, none⟩ = some (.int .i64 0) := (blk_cell BK317.out 14).trans rfl; have hcz9_15 : w8.cell? ⟨gb317, 15, none⟩ = some (.int .i64 0) := (blk_cell BK317.out 15).trans rfl; have hfz9_0 := blk_frozen BK317.out 0; have hfz9_1 := blk_frozen BK317.out 1; have hfz9_2 := blk_frozen BK317.out 2; have hfz9_3 := blk_frozen BK317.out 3; have hfz9_4 := blk_frozen BK317.out 4; have hfz9_5 := blk_frozen BK317.out 5; have hfz9_6 := blk_frozen BK317.out 6; have hfz9_7 := blk_frozen BK317.out 7; have hfz9_8 := blk_frozen BK317.out 8; have hfz9_9 := blk_frozen BK317.out 9; have hfz9_10 := blk_frozen BK317.out 10; have hfz9_11 := blk_frozen BK317.out 11; have hfz9_12 := blk_frozen BK317.out 12; have hfz9_13 := blk_frozen BK317.out 13; have hfz9_14 := blk_frozen BK317.out 14; have hfz9_15 := blk_frozen BK317.out 15) | ((with_reducible refine gate_builtin (b := .append) (xs := #[.tmp 18, .tmp 21]) rfl ?_); at_builtin; refine Kd.R_append (Kd.int .i64) (w0 := w) w.heap.size rfl (.tmp 18) (.tmp 21) 52 3 (.int .i64 0) 8 rfl Try.underlying52 info3 rfl (by decide) (by omega) u5 x5_1 ((rd_T37 l0 x10_1).f0) [.int .i64 ((rd_T37 l0 x10_1).f0)] (fun _ => True) (fun _ => False) rfl (by first | (go_simp; done) | (go_simp; rfl)) ?aP (fun _ hk => hk.elim) ?aF ?aO ?aB ?aS ?aL ?_; (case aP => exact rfl); (case aB => exact (by repeat (first | (with_reducible first | exact HB.out | apply below_alloc | apply pw_below_drewN | apply below_drew1 | refine below_set ?_ GE317.out) | exact HB.out))); (case aF => exact (fun _ _ => trivial)); (case aO => exact (by (with_reducible repeat (first | apply Kd.R_alloc | apply Kd.R_drewN | apply Kd.R_drew)); exact Kd.R_mono (Kd.R_far (p := ⟨gb317, 15, none⟩) (Kd.R_far (p := ⟨gb317, 14, none⟩) (Kd.R_far (p := ⟨gb317, 13, none⟩) (Kd.R_far (p := ⟨gb317, 12, none⟩) (Kd.R_far (p := ⟨gb317, 11, none⟩) (Kd.R_far (p := ⟨gb317, 10, none⟩) (Kd.R_far (p := ⟨gb317, 9, none⟩) (Kd.R_far (p := ⟨gb317, 8, none⟩) (Kd.R_far (p := ⟨gb317, 7, none⟩) (Kd.R_far (p := ⟨gb317, 6, none⟩) (Kd.R_far (p := ⟨gb317, 5, none⟩) (Kd.R_far (p := ⟨gb317, 4, none⟩) (Kd.R_far (p := ⟨gb317, 3, none⟩) (Kd.R_far (p := ⟨gb317, 2, none⟩) (Kd.R_far (p := ⟨gb317, 1, none⟩) (Kd.R_far (p := ⟨gb317, 0, none⟩) (Kd.R_types HO_5.out BK317.out (by decide)) (fun _ hk => hk.2) (.int .i64 ((rd_T37 l0 x10_1).f0))) (fun _ hk => hk.2) (.int .i64 ((rd_T37 l0 x10_1).f1.f0))) (fun _ hk => hk.2) (.int .i64 ((rd_T37 l0 x10_1).f1.f1.f0))) (fun _ hk => hk.2) (.int .i64 ((rd_T37 l0 x10_1).f1.f1.f1))) (fun _ hk => hk.2) (.int .i64 ((rd_T37 l0 x10_1).f1.f2.f0))) (fun _ hk => hk.2) (.int .i64 ((rd_T37 l0 x10_1).f1.f2.f1))) (fun _ hk => hk.2) (.int .i64 ((rd_T37 l0 x10_1).f1.f3))) (fun _ hk => hk.2) (.int .i64 ((rd_T37 l0 x10_1).f1.f4))) (fun _ hk => hk.2) (.int .i64 ((rd_T37 l0 x10_1).f2))) (fun _ hk => hk.2) (.int .i64 ((rd_T37 l0 x10_1).f3))) (fun _ hk => hk.2) (.int .i64 ((rd_T37 l0 x10_1).f4))) (fun _ hk => hk.2) (.int .i64 ((rd_T37 l0 x10_1).f5.f0))) (fun _ hk => hk.2) (.int .i64 ((rd_T37 l0 x10_1).f5.f1))) (fun _ hk => hk.2) (.int .i64 ((rd_T37 l0 x10_1).f5.f2))) (fun _ hk => hk.2) (.int .i64 ((rd_T37 l0 x10_1).f6))) (fun _ hk => hk.2) (.int .i64 ((rd_T37 l0 x10_1).f7))) (fun _ hk => trivial))); (case aS => exact (below_size (by repeat (first | (with_reducible first | exact HB.out | apply below_alloc | apply pw_below_drewN | apply below_drew1 | refine below_set ?_ GE317.out) | exact HB.out)))); (case aL => have := LMc7.out; omega); intro v319 w10 ho hb hg hat; rw [← Ny318.out] at ho; have n0_ := Aside0.mk (blk_grown (g := gb317) (o := .cells #[.int .i64 ((rd_T37 l0 x10_1).f0), .int .i64 ((rd_T37 l0 x10_1).f1.f0), .int .i64 ((rd_T37 l0 x10_1).f1.f1.f0), .int .i64 ((rd_T37 l0 x10_1).f1.f1.f1), .int .i64 ((rd_T37 l0 x10_1).f1.f2.f0), .int .i64 ((rd_T37 l0 x10_1).f1.f2.f1), .int .i64 ((rd_T37 l0 x10_1).f1.f3), .int .i64 ((rd_T37 l0 x10_1).f1.f4), .int .i64 ((rd_T37 l0 x10_1).f2), .int .i64 ((rd_T37 l0 x10_1).f3), .int .i64 ((rd_T37 l0 x10_1).f4), .int .i64 ((rd_T37 l0 x10_1).f5.f0), .int .i64 ((rd_T37 l0 x10_1).f5.f1), .int .i64 ((rd_T37 l0 x10_1).f5.f2), .int .i64 ((rd_T37 l0 x10_1).f6), .int .i64 ((rd_T37 l0 x10_1).f7)] 37 (0, 0)) (by (with_reducible repeat (first | refine blk_drewN ?_ _ | refine blk_drew ?_ | refine blk_alloc ?_ _)); refine blk_put (cs := #[.int .i64 ((rd_T37 l0 x10_1).f0), .int .i64 ((rd_T37 l0 x10_1).f1.f0), .int .i64 ((rd_T37 l0 x10_1).f1.f1.f0), .int .i64 ((rd_T37 l0 x10_1).f1.f1.f1), .int .i64 ((rd_T37 l0 x10_1).f1.f2.f0), .int .i64 ((rd_T37 l0 x10_1).f1.f2.f1), .int .i64 ((rd_T37 l0 x10_1).f1.f3), .int .i64 ((rd_T37 l0 x10_1).f1.f4), .int .i64 ((rd_T37 l0 x10_1).f2), .int .i64 ((rd_T37 l0 x10_1).f3), .int .i64 ((rd_T37 l0 x10_1).f4), .int .i64 ((rd_T37 l0 x10_1).f5.f0), .int .i64 ((rd_T37 l0 x10_1).f5.f1), .int .i64 ((rd_T37 l0 x10_1).f5.f2), .int .i64 ((rd_T37 l0 x10_1).f6), .int .i64 0]) ?_ 15 _ rfl; (with_reducible repeat (first | refine blk_drewN ?_ _ | refine blk_drew ?_ | refine blk_alloc ?_ _)); refine blk_put (cs := #[.int .i64 ((rd_T37 l0 x10_1).f0), .int .i64 ((rd_T37 l0 x10_1).f1.f0), .int .i64 ((rd_T37 l0 x10_1).f1.f1.f0), .int .i64 ((rd_T37 l0 x10_1).f1.f1.f1), .int .i64 ((rd_T37 l0 x10_1).f1.f2.f0), .int .i64 ((rd_T37 l0 x10_1).f1.f2.f1), .int .i64 ((rd_T37 l0 x10_1).f1.f3), .int .i64 ((rd_T37 l0 x10_1).f1.f4), .int .i64 ((rd_T37 l0 x10_1).f2), .int .i64 ((rd_T37 l0 x10_1).f3), .int .i64 ((rd_T37 l0 x10_1).f4), .int .i64 ((rd_T37 l0 x10_1).f5.f0), .int .i64 ((rd_T37 l0 x10_1).f5.f1), .int .i64 ((rd_T37 l0 x10_1).f5.f2), .int .i64 0, .int .i64 0]) ?_ 14 _ rfl; (with_reducible repeat (first | refine blk_drewN ?_ _ | refine blk_drew ?_ | refine blk_alloc ?_ _)); refine blk_put (cs := #[.int .i64 ((rd_T37 l0 x10_1).f0), .int .i64 ((rd_T37 l0 x10_1).f1.f0), .int .i64 ((rd_T37 l0 x10_1).f1.f1.f0), .int .i64 ((rd_T37 l0 x10_1).f1.f1.f1), .int .i64 ((rd_T37 l0 x10_1).f1.f2.f0), .int .i64 ((rd_T37 l0 x10_1).f1.f2.f1), .int .i64 ((rd_T37 l0 x10_1).f1.f3), .int .i64 ((rd_T37 l0 x10_1).f1.f4), .int .i64 ((rd_T37 l0 x10_1).f2), .int .i64 ((rd_T37 l0 x10_1).f3), .int .i64 ((rd_T37 l0 x10_1).f4), .int .i64 ((rd_T37 l0 x10_1).f5.f0), .int .i64 ((rd_T37 l0 x10_1).f5.f1), .int .i64 0, .int .i64 0, .int .i64 0]) ?_ 13 _ rfl; (with_reducible repeat (first | refine blk_drewN ?_ _ | refine blk_drew ?_ | refine blk_alloc ?_ _)); refine blk_put (cs := #[.int .i64 ((rd_T37 l0 x10_1).f0), .int .i64 ((rd_T37 l0 x10_1).f1.f0), .int .i64 ((rd_T37 l0 x10_1).f1.f1.f0), .int .i64 ((rd_T37 l0 x10_1).f1.f1.f1), .int .i64 ((rd_T37 l0 x10_1).f1.f2.f0), .int .i64 ((rd_T37 l0 x10_1).f1.f2.f1), .int .i64 ((rd_T37 l0 x10_1).f1.f3), .int .i64 ((rd_T37 l0 x10_1).f1.f4), .int .i64 ((rd_T37 l0 x10_1).f2), .int .i64 ((rd_T37 l0 x10_1).f3), .int .i64 ((rd_T37 l0 x10_1).f4), .int .i64 ((rd_T37 l0 x10_1).f5.f0), .int .i64 0, .int .i64 0, .int .i64 0, .int .i64 0]) ?_ 12 _ rfl; (with_reducible repeat (first | refine blk_drewN ?_ _ | refine blk_drew ?_ | refine blk_alloc ?_ _)); refine blk_put (cs := #[.int .i64 ((rd_T37 l0 x10_1).f0), .int .i64 ((rd_T37 l0 x10_1).f1.f0), .int .i64 ((rd_T37 l0 x10_1).f1.f1.f0), .int .i64 ((rd_T37 l0 x10_1).f1.f1.f1), .int .i64 ((rd_T37 l0 x10_1).f1.f2.f0), .int .i64 ((rd_T37 l0 x10_1).f1.f2.f1), .int .i64 ((rd_T37 l0 x10_1).f1.f3), .int .i64 ((rd_T37 l0 x10_1).f1.f4), .int .i64 ((rd_T37 l0 x10_1).f2), .int .i64 ((rd_T37 l0 x10_1).f3), .int .i64 ((rd_T37 l0 x10_1).f4), .int .i64 0, .int .i64 0, .int .i64 0, .int .i64 0, .int .i64 0]) ?_ 11 _ rfl; (with_reducible repeat (first | refine blk_drewN ?_ _ | refine blk_drew ?_ | refine blk_alloc ?_ _)); refine blk_put (cs := #[.int .i64 ((rd_T37 l0 x10_1).f0), .int .i64 ((rd_T37 l0 x10_1).f1.f0), .int .i64 ((rd_T37 l0 x10_1).f1.f1.f0), .int .i64 ((rd_T37 l0 x10_1).f1.f1.f1), .int .i64 ((rd_T37 l0 x10_1).f1.f2.f0), .int .i64 ((rd_T37 l0 x10_1).f1.f2.f1), .int .i64 ((rd_T37 l0 x10_1).f1.f3), .int .i64 ((rd_T37 l0 x10_1).f1.f4), .int .i64 ((rd_T37 l0 x10_1).f2), .int .i64 ((rd_T37 l0 x10_1).f3), .int .i64 0, .int .i64 0, .int .i64 0, .int .i64 0, .int .i64 0, .int .i64 0]) ?_ 10 _ rfl; (with_reducible repeat (first | refine blk_drewN ?_ _ | refine blk_drew ?_ | refine blk_alloc ?_ _)); refine blk_put (cs := #[.int .i64 ((rd_T37 l0 x10_1).f0), .int .i64 ((rd_T37 l0 x10_1).f1.f0), .int .i64 ((rd_T37 l0 x10_1).f1.f1.f0), .int .i64 ((rd_T37 l0 x10_1).f1.f1.f1), .int .i64 ((rd_T37 l0 x10_1).f1.f2.f0), .int .i64 ((rd_T37 l0 x10_1).f1.f2.f1), .int .i64 ((rd_T37 l0 x10_1).f1.f3), .int .i64 ((rd_T37 l0 x10_1).f1.f4), .int .i64 ((rd_T37 l0 x10_1).f2), .int .i64 0, .int .i64 0, .int .i64 0, .int .i64 0, .int .i64 0, .int .i64 0, .int .i64 0]) ?_ 9 _ rfl; (with_reducible repeat (first | refine blk_drewN ?_ _ | refine blk_drew ?_ | refine blk_alloc ?_ _)); refine blk_put (cs := #[.int .i64 ((rd_T37 l0 x10_1).f0), .int .i64 ((rd_T37 l0 x10_1).f1.f0), .int .i64 ((rd_T37 l0 x10_1).f1.f1.f0), .int .i64 ((rd_T37 l0 x10_1).f1.f1.f1), .int .i64 ((rd_T37 l0 x10_1).f1.f2.f0), .int .i64 ((rd_T37 l0 x10_1).f1.f2.f1), .int .i64 ((rd_T37 l0 x10_1).f1.f3), .int .i64 ((rd_T37 l0 x10_1).f1.f4), .int .i64 0, .int .i64 0, .int .i64 0, .int .i64 0, .int .i64 0, .int .i64 0, .int .i64 0, .int .i64 0]) ?_ 8 _ rfl; (with_reducible repeat (first | refine blk_drewN ?_ _ | refine blk_drew ?_ | refine blk_alloc ?_ _)); refine blk_put (cs := #[.int .i64 ((rd_T37 l0 x10_1).f0), .int .i64 ((rd_T37 l0 x10_1).f1.f0), .int .i64 ((rd_T37 l0 x10_1).f1.f1.f0), .int .i64 ((rd_T37 l0 x10_1).f1.f1.f1), .int .i64 ((rd_T37 l0 x10_1).f1.f2.f0), .int .i64 ((rd_T37 l0 x10_1).f1.f2.f1), .int .i64 ((rd_T37 l0 x10_1).f1.f3), .int .i64 0, .int .i64 0, .int .i64 0, .int .i64 0, .int .i64 0, .int .i64 0, .int .i64 0, .int .i64 0, .int .i64 0]) ?_ 7 _ rfl; (with_reducible repeat (first | refine blk_drewN ?_ _ | refine blk_drew ?_ | refine blk_alloc ?_ _)); refine blk_put (cs := #[.int .i64 ((rd_T37 l0 x10_1).f0), .int .i64 ((rd_T37 l0 x10_1).f1.f0), .int .i64 ((rd_T37 l0 x10_1).f1.f1.f0), .int .i64 ((rd_T37 l0 x10_1).f1.f1.f1), .int .i64 ((rd_T37 l0 x10_1).f1.f2.f0), .int .i64 ((rd_T37 l0 x10_1).f1.f2.f1), .int .i64 0, .int .i64 0, .int .i64 0, .int .i64 0, .int .i64 0, .int .i64 0, .int .i64 0, .int .i64 0, .int .i64 0, .int .i64 0]) ?_ 6 _ rfl; (with_reducible repeat (first | refine blk_drewN ?_ _ | refine blk_drew ?_ | refine blk_alloc ?_ _)); refine blk_put (cs := #[.int .i64 ((rd_T37 l0 x10_1).f0), .int .i64 ((rd_T37 l0 x10_1).f1.f0), .int .i64 ((rd_T37 l0 x10_1).f1.f1.f0), .int .i64 ((rd_T37 l0 x10_1).f1.f1.f1), .int .i64 ((rd_T37 l0 x10_1).f1.f2.f0), .int .i64 0, .int .i64 0, .int .i64 0, .int .i64 0, .int .i64 0, .int .i64 0, .int .i64 0, .int .i64 0, .int .i64 0, .int .i64 0, .int .i64 0]) ?_ 5 _ rfl; (with_reducible repeat (first | refine blk_drewN ?_ _ | refine blk_drew ?_ | refine blk_alloc ?_ _)); refine blk_put (cs := #[.int .i64 ((rd_T37 l0 x10_1).f0), .int .i64 ((rd_T37 l0 x10_1).f1.f0), .int .i64 ((rd_T37 l0 x10_1).f1.f1.f0), .int .i64 ((rd_T37 l0 x10_1).f1.f1.f1), .int .i64 0, .int .i64 0, .int .i64 0, .int .i64 0, .int .i64 0, .int .i64 0, .int .i64 0, .int .i64 0, .int .i64 0, .int .i64 0, .int .i64 0, .int .i64 0]) ?_ 4 _ rfl; (with_reducible repeat (first | refine blk_drewN ?_ _ | refine blk_drew ?_ | refine blk_alloc ?_ _)); refine blk_put (cs := #[.int .i64 ((rd_T37 l0 x10_1).f0), .int .i64 ((rd_T37 l0 x10_1).f1.f0), .int .i64 ((rd_T37 l0 x10_1).f1.f1.f0), .int .i64 0, .int .i64 0, .int .i64 0, .int .i64 0, .int .i64 0, .int .i64 0, .int .i64 0, .int .i64 0, .int .i64 0, .int .i64 0, .int .i64 0, .int .i64 0, .int .i64 0]) ?_ 3 _ rfl; (with_reducible repeat (first | refine blk_drewN ?_ _ | refine blk_drew ?_ | refine blk_alloc ?_ _)); refine blk_put (cs := #[.int .i64 ((rd_T37 l0 x10_1).f0), .int .i64 ((rd_T37 l0 x10_1).f1.f0), .int .i64 0, .int .i64 0, .int .i64 0, .int .i64 0, .int .i64 0, .int .i64 0, .int .i64 0, .int .i64 0, .int .i64 0, .int .i64 0, .int .i64 0, .int .i64 0, .int .i64 0, .int .i64 0]) ?_ 2 _ rfl; (with_reducible repeat (first | refine blk_drewN ?_ _ | refine blk_drew ?_ | refine blk_alloc ?_ _)); refine blk_put (cs := #[.int .i64 ((rd_T37 l0 x10_1).f0), .int .i64 0, .int .i64 0, .int .i64 0, .int .i64 0, .int .i64 0, .int .i64 0, .int .i64 0, .int .i64 0, .int .i64 0, .int .i64 0, .int .i64 0, .int .i64 0, .int .i64 0, .int .i64 0, .int .i64 0]) ?_ 1 _ rfl; (with_reducible repeat (first | refine blk_drewN ?_ _ | refine blk_drew ?_ | refine blk_alloc ?_ _)); refine blk_put (cs := #[.int .i64 0, .int .i64 0, .int .i64 0, .int .i64 0, .int .i64 0, .int .i64 0, .int .i64 0, .int .i64 0, .int .i64 0, .int .i64 0, .int .i64 0, .int .i64 0, .int .i64 0, .int .i64 0, .int .i64 0, .int .i64 0]) ?_ 0 _ rfl; (with_reducible repeat (first | refine blk_drewN ?_ _ | refine blk_drew ?_ | refine blk_alloc ?_ _)); exact BK317.out) hg (Kd.R_ne HO_5.out BK317.out (by decide))); have n1_ := Aside0.mk (hb); have n2_ := Aside0.mk (ho); clear BK317; clear HB; clear HO_5; have BK317 := n0_; have HB := n1_; have HO320 := n2_; clear n0_ n1_ n2_; clear ho hb hg hat))
                go_roundg k1
                case measure => have := HK1.out; omega
                case rel => exact ⟨(y318), (wrap64 (x10_1 + 1)), (by first | rfl | (simp; done) | (simp [*]; done)), H', ⟨by have := HK1.out; omega⟩, ⟨by (with_reducible repeat (first | apply Kd.R_alloc | apply Kd.R_drewN | apply Kd.R_drew)); exact HO320.out⟩, ⟨by repeat (first | (with_reducible first | exact HB.out | apply below_alloc | apply pw_below_drewN | apply below_drew1 | refine below_set ?_ GE317.out) | exact HB.out)⟩⟩
              · rw [if_neg c7] at H
                exact absurd H (by simp)
            · rw [if_neg c6] at H
              have c6b0 : (((rd_T37 l0 x10_1).f6) == a1) = false := beq_eq_false_iff_ne.mpr c6
              have c6b1 : (((rd_T37 l0 x10_1).f6) != a1) = true := bne_iff_ne.mpr c6
              have H' := Aside0.mk H
              clear H
              have p316 : 0 ≤ (x10_1 : Int) := of_decide_eq_true (by first | (with_reducible assumption) | assumption)
              have q316 : x10_1 < (l0.length : Int) := of_decide_eq_true (by first | (with_reducible assumption) | assumption)
              obtain ⟨ad316, e316, hx316_0, hx316_1, hx316_2, hx316_3, hx316_4, hx316_5, hx316_6, hx316_7, hx316_8, hx316_9, hx316_10, hx316_11, hx316_12, hx316_13, hx316_14, hx316_15⟩ := at_T37 HR0.out x10_1 p316 q316
              cases e316
              replace hx316_0 := (HB.out.cell (World.block_lt_of_cell? w _ hx316_0)).trans hx316_0
              replace hx316_1 := (HB.out.cell (World.block_lt_of_cell? w _ hx316_1)).trans hx316_1
              replace hx316_2 := (HB.out.cell (World.block_lt_of_cell? w _ hx316_2)).trans hx316_2
              replace hx316_3 := (HB.out.cell (World.block_lt_of_cell? w _ hx316_3)).trans hx316_3
              replace hx316_4 := (HB.out.cell (World.block_lt_of_cell? w _ hx316_4)).trans hx316_4
              replace hx316_5 := (HB.out.cell (World.block_lt_of_cell? w _ hx316_5)).trans hx316_5
              replace hx316_6 := (HB.out.cell (World.block_lt_of_cell? w _ hx316_6)).trans hx316_6
              replace hx316_7 := (HB.out.cell (World.block_lt_of_cell? w _ hx316_7)).trans hx316_7
              replace hx316_8 := (HB.out.cell (World.block_lt_of_cell? w _ hx316_8)).trans hx316_8
              replace hx316_9 := (HB.out.cell (World.block_lt_of_cell? w _ hx316_9)).trans hx316_9
              replace hx316_10 := (HB.out.cell (World.block_lt_of_cell? w _ hx316_10)).trans hx316_10
              replace hx316_11 := (HB.out.cell (World.block_lt_of_cell? w _ hx316_11)).trans hx316_11
              replace hx316_12 := (HB.out.cell (World.block_lt_of_cell? w _ hx316_12)).trans hx316_12
              replace hx316_13 := (HB.out.cell (World.block_lt_of_cell? w _ hx316_13)).trans hx316_13
              replace hx316_14 := (HB.out.cell (World.block_lt_of_cell? w _ hx316_14)).trans hx316_14
              replace hx316_15 := (HB.out.cell (World.block_lt_of_cell? w _ hx316_15)).trans hx316_15
              replace p316 := eq_true p316
              replace q316 := eq_true q316
              go_wp2_with (first | ((with_reducible refine gate_dst (N := 7) rfl ?_); refine box_event ?hg (N := 7) ?hd (cs := #[.int .i64 0, .int .i64 0, .int .i64 0, .int .i64 0, .int .i64 0, .int .i64 0, .int .i64 0, .int .i64 0, .int .i64 0, .int .i64 0, .int .i64 0, .int .i64 0, .int .i64 0, .int .i64 0, .int .i64 0, .int .i64 0]) (t := 37) ?hr ?_; (case hd => rfl); (case hg => rfl); (case hr => first | (go_simp; done) | (go_simp; rfl)); intro gb317 hg w11 hbox hb; have n0_ := Aside0.mk (Kd.R_below (by (with_reducible repeat (first | apply Kd.R_alloc | apply Kd.R_drewN | apply Kd.R_drew)); exact HO_5.out) hb); have n1_ := Aside0.mk (below_step (by repeat (first | (with_reducible first | exact HB.out | apply below_alloc | apply pw_below_drewN | apply below_drew1) | exact HB.out)) hb); have n2_ := Aside0.mk (hbox); have n3_ := Aside0.mk ((by rw [hg]; exact (below_size (by repeat (first | (with_reducible first | exact HB.out | apply below_alloc | apply pw_below_drewN | apply below_drew1) | exact HB.out))) : w.heap.size ≤ gb317)); have n4_ := Aside0.mk ((by rw [hg]; exact (below_size (by repeat (first | (with_reducible first | exact HB.out | apply below_alloc | apply pw_below_drewN | apply below_drew1) | exact HB.out))) : w.heap.size ≤ gb317)); clear HO_5; clear HB; have HO_5 := n0_; have HB := n1_; have BK317 := n2_; have GW317 := n3_; have GE317 := n4_; clear n0_ n1_ n2_ n3_ n4_; clear hb hbox hg; have hcz12_0 : w11.cell? ⟨gb317, 0, none⟩ = some (.int .i64 0) := (blk_cell BK317.out 0).trans rfl; have hcz12_1 : w11.cell? ⟨gb317, 1, none⟩ = some (.int .i64 0) := (blk_cell BK317.out 1).trans rfl; have hcz12_2 : w11.cell? ⟨gb317, 2, none⟩ = some (.int .i64 0) := (blk_cell BK317.out 2).trans rfl; have hcz12_3 : w11.cell? ⟨gb317, 3, none⟩ = some (.int .i64 0) := (blk_cell BK317.out 3).trans rfl; have hcz12_4 : w11.cell? ⟨gb317, 4, none⟩ = some (.int .i64 0) := (blk_cell BK317.out 4).trans rfl; have hcz12_5 : w11.cell? ⟨gb317, 5, none⟩ = some (.int .i64 0) := (blk_cell BK317.out 5).trans rfl; have hcz12_6 : w11.cell? ⟨gb317, 6, none⟩ = some (.int .i64 0) := (blk_cell BK317.out 6).trans rfl; have hcz12_7 : w11.cell? ⟨gb317, 7, none⟩ = some (.int .i64 0) := (blk_cell BK317.out 7).trans rfl; have hcz12_8 : w11.cell? ⟨gb317, 8, none⟩ = some (.int .i64 0) := (blk_cell BK317.out 8).trans rfl; have hcz12_9 : w11.cell? ⟨gb317, 9, none⟩ = some (.int .i64 0) := (blk_cell BK317.out 9).trans rfl; have hcz12_10 : w11.cell? ⟨gb317, 10, none⟩ = some (.int .i64 0) := (blk_cell BK317.out 10).trans rfl; have hcz12_11 : w11.cell? ⟨gb317, 11, none⟩ = some (.int .i64 0) := (blk_cell BK317.out 11).trans rfl; have hcz12_12 : w11.cell? ⟨gb317, 12, none⟩ = some (.int .i64 0) := (blk_cell BK317.out 12).trans rfl; have hcz12_13 : w11.cell? ⟨gb317, 13, none⟩ = some (.int .i64 0) := (blk_cell BK317.out 13).trans rfl; have hcz12_14 : w11.cell? ⟨gb317, 14, none⟩ = some (.int .i64 0) := (blk_cell BK317.out 14).trans rfl; have hcz12_15 : w11.cell? ⟨gb317, 15, none⟩ = some (.int .i64 0) := (blk_cell BK317.out 15).trans rfl; have hfz12_0 := blk_frozen BK317.out 0; have hfz12_1 := blk_frozen BK317.out 1; have hfz12_2 := blk_frozen BK317.out 2; have hfz12_3 := blk_frozen BK317.out 3; have hfz12_4 := blk_frozen BK317.out 4; have hfz12_5 := blk_frozen BK317.out 5; have hfz12_6 := blk_frozen BK317.out 6; have hfz12_7 := blk_frozen BK317.out 7; have hfz12_8 := blk_frozen BK317.out 8; have hfz12_9 := blk_frozen BK317.out 9; have hfz12_10 := blk_frozen BK317.out 10; have hfz12_11 := blk_frozen BK317.out 11; have hfz12_12 := blk_frozen BK317.out 12; have hfz12_13 := blk_frozen BK317.out 13; have hfz12_14 := blk_frozen BK317.out 14; have hfz12_15 := blk_frozen BK317.out 15))
              go_roundg k1
              case measure => have := HK1.out; omega
              case rel => exact ⟨(x5_1), (wrap64 (x10_1 + 1)), (by first | rfl | (simp; done) | (simp [*]; done)), H', ⟨by have := HK1.out; omega⟩, ⟨by (with_reducible repeat (first | apply Kd.R_alloc | apply Kd.R_drewN | apply Kd.R_drew)); exact Kd.R_mono (Kd.R_far (p := ⟨gb317, 15, none⟩) (Kd.R_far (p := ⟨gb317, 14, none⟩) (Kd.R_far (p := ⟨gb317, 13, none⟩) (Kd.R_far (p := ⟨gb317, 12, none⟩) (Kd.R_far (p := ⟨gb317, 11, none⟩) (Kd.R_far (p := ⟨gb317, 10, none⟩) (Kd.R_far (p := ⟨gb317, 9, none⟩) (Kd.R_far (p := ⟨gb317, 8, none⟩) (Kd.R_far (p := ⟨gb317, 7, none⟩) (Kd.R_far (p := ⟨gb317, 6, none⟩) (Kd.R_far (p := ⟨gb317, 5, none⟩) (Kd.R_far (p := ⟨gb317, 4, none⟩) (Kd.R_far (p := ⟨gb317, 3, none⟩) (Kd.R_far (p := ⟨gb317, 2, none⟩) (Kd.R_far (p := ⟨gb317, 1, none⟩) (Kd.R_far (p := ⟨gb317, 0, none⟩) (Kd.R_types HO_5.out BK317.out (by decide)) (fun _ hk => hk.2) (.int .i64 ((rd_T37 l0 x10_1).f0))) (fun _ hk => hk.2) (.int .i64 ((rd_T37 l0 x10_1).f1.f0))) (fun _ hk => hk.2) (.int .i64 ((rd_T37 l0 x10_1).f1.f1.f0))) (fun _ hk => hk.2) (.int .i64 ((rd_T37 l0 x10_1).f1.f1.f1))) (fun _ hk => hk.2) (.int .i64 ((rd_T37 l0 x10_1).f1.f2.f0))) (fun _ hk => hk.2) (.int .i64 ((rd_T37 l0 x10_1).f1.f2.f1))) (fun _ hk => hk.2) (.int .i64 ((rd_T37 l0 x10_1).f1.f3))) (fun _ hk => hk.2) (.int .i64 ((rd_T37 l0 x10_1).f1.f4))) (fun _ hk => hk.2) (.int .i64 ((rd_T37 l0 x10_1).f2))) (fun _ hk => hk.2) (.int .i64 ((rd_T37 l0 x10_1).f3))) (fun _ hk => hk.2) (.int .i64 ((rd_T37 l0 x10_1).f4))) (fun _ hk => hk.2) (.int .i64 ((rd_T37 l0 x10_1).f5.f0))) (fun _ hk => hk.2) (.int .i64 ((rd_T37 l0 x10_1).f5.f1))) (fun _ hk => hk.2) (.int .i64 ((rd_T37 l0 x10_1).f5.f2))) (fun _ hk => hk.2) (.int .i64 ((rd_T37 l0 x10_1).f6))) (fun _ hk => hk.2) (.int .i64 ((rd_T37 l0 x10_1).f7))) (fun _ hk => trivial)⟩, ⟨by repeat (first | (with_reducible first | exact HB.out | apply below_alloc | apply pw_below_drewN | apply below_drew1 | refine below_set ?_ GE317.out) | exact HB.out)⟩⟩
          · rw [if_neg c5] at H
            exact absurd H (by simp)
        · rw [if_neg c4] at H
          exact absurd H (by simp)
      · rw [if_neg c3] at H
        have c3b0 : decide (x10_1 < (l0.length : Int)) = false := decide_eq_false c3
        clear c3
        obtain rfl := Option.some.inj H
        go_wp2
        go_ret
        exact ⟨_, by first | rfl | (simp [errW_none, errW_some] <;> rfl) | (simp [*, errW_none, errW_some] <;> rfl), by (with_reducible repeat (first | apply Kd.R_alloc | apply Kd.R_drewN | apply Kd.R_drew)); exact HO_5.out, by repeat (first | (with_reducible first | exact HB.out | apply below_alloc | apply pw_below_drewN | apply below_drew1) | exact HB.out)⟩

/-! ### barrowref32_ends: function 47 -/
def barrowref32_ends.f (a0 : Int) : Option (Bool) := if a0 ≥ (-256) then (some (decide (a0 ≤ 512))) else (some false)
set_option maxHeartbeats 8000000 in
set_option maxRecDepth 100000 in
theorem barrowref32_ends.calls (a0 : Int) (r : Bool) (w : World) (h : barrowref32_ends.f a0 = some r) :
    Calls Try.prog 47 #[.int .i64 a0] w fun e w' => e = .returned (.bool r) ∧ Drawn0 w w' := by
  have H : (if a0 ≥ (-256) then (some (decide (a0 ≤ 512))) else (some false)) = some r := h
  clear h
  by_cases c2 : a0 ≥ (-256)
  · rw [if_pos c2] at H
    have c2b0 : decide ((-256) ≤ a0) = true := decide_eq_true c2
    clear c2
    obtain rfl := Option.some.inj H
    go_enter Try.func47, Try.ntmps47
    go_wp2
    go_ret
    exact ⟨by first | rfl | (simp; done) | (simp [*]; done), by repeat (first | exact Drawn0.refl _ | apply Drawn0.step)⟩
  · rw [if_neg c2] at H
    have c2b0 : decide ((-256) ≤ a0) = false := decide_eq_false c2
    clear c2
    obtain rfl := Option.some.inj H
    go_enter Try.func47, Try.ntmps47
    go_wp2
    go_ret
    exact ⟨by first | rfl | (simp; done) | (simp [*]; done), by repeat (first | exact Drawn0.refl _ | apply Drawn0.step)⟩

end Go.Proofs.Ytiadhonhjnbliaa.XZN
