-- Written by xprint.py (a program of this session) for this claim
import Derived.Test.YtbhgohomgfjjfaaXCOx0
import Derived.Test.YtbhgohomgfjjfaaXCOx2
namespace Go.Proofs.Ytbhgohomgfjjfaa.XCO
open Go.Proofs.YtbhgohomgfjjfaaV Go.Proofs.YtbhgohomgfjjfaaS
open Go.RowKit Go.Proofs.YtbhgohomgfjjfaaW.PrintWords Go.Proofs.YtbhgohomgfjjfaaW.PrintLast Go.Proofs.YtbhgohomgfjjfaaW.PrintMore
attribute [local go_sem] max2_int min2_int max_two min_two max_three min_three max_four min_four   -- for this text's walks alone
set_option linter.unusedVariables false
set_option linter.unusedSimpArgs false

/-! ### cool_Clean: function 12 -/
def cool_Clean.l0 : Nat → Int → List (S35) → List (S35) → Int → Int → Option ((List (S35)))
  | 0, _, _, _, _, _ => none
  | k + 1, x1, x5, x9, x10, x11 => if x11 < x10 then (if 0 ≤ x11 then (if x11 < (x9.length : Int) then ((cool_above.f k ((rd_T35 x9 x11).f1) x1).bind fun t294 => (if (t294.length : Int) > 0 then (if x5.length < 4398046511104 then (cool_Clean.l0 k x1 (x5 ++ [(⟨(rd_T35 x9 x11).f0, t294⟩ : S35)]) x9 x10 (wrap64 (x11 + 1))) else (none)) else (cool_Clean.l0 k x1 x5 x9 x10 (wrap64 (x11 + 1))))) else (none)) else (none)) else (some x5)
def cool_Clean.f (k : Nat) (l0 : List (S35)) (a1 : Int) : Option ((List (S35))) := cool_Clean.l0 k a1 ([] : List (S35)) l0 (l0.length : Int) 0
theorem cool_Clean.mono_l : ∀ k, (∀ y0 y1 y2 y3 y4, LeO (cool_Clean.l0 k y0 y1 y2 y3 y4) (cool_Clean.l0 (k + 1) y0 y1 y2 y3 y4))
  | 0 => fun _ _ _ _ _ r h => by simp [cool_Clean.l0] at h
  | k + 1 => by
    have ih0 := cool_Clean.mono_l k
    · intro y0 y1 y2 y3 y4
      unfold cool_Clean.l0
      repeat' first
      | (with_reducible exact ih0 _ _ _ _ _)
      | (with_reducible exact cool_above.mono _ _ _)
      | (with_reducible exact LeO.refl _)
      | (with_reducible exact LeO.none _)
      | (with_reducible refine LeO.ite ?_ ?_)
      | (with_reducible refine LeO.bind ?_ (fun _ => ?_))
      | exact ih0 _ _ _ _ _
      | exact cool_above.mono _ _ _
      | exact LeO.none _
      | refine LeO.ite ?_ ?_
      | refine LeO.bind ?_ (fun _ => ?_)
theorem cool_Clean.mono : ∀ a0 a1 k, LeO (cool_Clean.f k a0 a1) (cool_Clean.f (k + 1) a0 a1) := by
  intro a0 a1 k
  have ih0 := cool_Clean.mono_l k
  unfold cool_Clean.f
  repeat' first
      | (with_reducible exact ih0 _ _ _ _ _)
      | (with_reducible exact cool_above.mono _ _ _)
      | (with_reducible exact LeO.refl _)
      | (with_reducible exact LeO.none _)
      | (with_reducible refine LeO.ite ?_ ?_)
      | (with_reducible refine LeO.bind ?_ (fun _ => ?_))
      | exact ih0 _ _ _ _ _
      | exact cool_above.mono _ _ _
      | exact LeO.none _
      | refine LeO.ite ?_ ?_
      | refine LeO.bind ?_ (fun _ => ?_)
set_option maxHeartbeats 8000000 in
set_option maxRecDepth 100000 in
theorem cool_Clean.calls (k : Nat) (A0 : Option Addr) (c0 : Nat) (l0 : List (S35)) (a1 : Int) (r : List (S35)) (w : World) (hr0 : Kd.C k35 w A0 l0.length l0) (hc0 : l0.length ≤ c0) (h : cool_Clean.f k l0 a1 = some r) :
    Calls Try.prog 12 #[.slice A0 l0.length c0, .int .i64 a1] w fun e w' => ∃ v0_ : Value, e = .returned (v0_) ∧ Kd.S k35 35 w' w.heap.size (fun _ => True) v0_ r ∧ Below w.heap.size w w' := by
  have hu35 := Try.underlying35
  have HR0 := Aside0.mk hr0
  have HC0 := Aside0.mk hc0
  clear hr0 hc0
  have HB := Aside0.mk (Below.refl w.heap.size w)
  have H : (cool_Clean.l0 k a1 ([] : List (S35)) l0 (l0.length : Int) 0) = some r := h
  clear h
  have H' := Aside0.mk H
  clear H
  go_enter Try.func12, Try.ntmps12
  go_wp2
  go_loopg [5, 11] k (fun kq v5 v11 w' => ∃ (x5_1 : List (S35)) (x11_1 : Int), v11 = .int .i64 x11_1 ∧ Aside0 (cool_Clean.l0 kq a1 x5_1 l0 (l0.length : Int) x11_1 = some r) ∧ Aside0 (kq ≤ k) ∧ Aside0 (Kd.S k35 35 w' w.heap.size (fun _ => True) v5 x5_1) ∧ Aside0 (Below w.heap.size w w'))
  case atStart => exact ⟨(([] : List (S35))), (0), (by first | rfl | (simp; done) | (simp [*]; done)), H', ⟨Nat.le_refl _⟩, ⟨by first | exact Kd.S_nil _ _ _ _ _ | exact Kd.N_nil _ _ _ _ _ | exact Kd.V_nil _ _ _ _ _ | exact Kd.Q_nil _ _ _ _ _ | exact Kd.R_nil _ _ _ _ _⟩, ⟨by repeat (first | (with_reducible first | exact HB.out | apply below_alloc | apply pw_below_drewN | apply below_drew1) | exact HB.out)⟩⟩
  case round =>
    clear H'
    try clear c1
    try clear p2
    obtain ⟨x5_1, x11_1, rfl, HA, HK1, HO_5, HB⟩ := hrel
    cases gk with
    | zero => exact absurd HA.out (by simp [cool_Clean.l0])
    | succ k1 =>
      have H := HA.out
      clear HA
      simp only [cool_Clean.l0] at H
      by_cases c3 : x11_1 < (l0.length : Int)
      · rw [if_pos c3] at H
        have c3b0 : decide (x11_1 < (l0.length : Int)) = true := decide_eq_true c3
        clear c3
        by_cases c4 : 0 ≤ x11_1
        · rw [if_pos c4] at H
          have c4b0 : decide (0 ≤ x11_1) = true := decide_eq_true c4
          clear c4
          by_cases c5 : x11_1 < (l0.length : Int)
          · rw [if_pos c5] at H
            have c5b0 : decide (x11_1 < (l0.length : Int)) = true := decide_eq_true c5
            clear c5
            replace H := Option.bind_eq_some_iff.mp H
            obtain ⟨t294, A60, H⟩ := H
            replace H : (if (t294.length : Int) > 0 then (if x5_1.length < 4398046511104 then (cool_Clean.l0 k1 a1 (x5_1 ++ [(⟨(rd_T35 l0 x11_1).f0, t294⟩ : S35)]) l0 (l0.length : Int) (wrap64 (x11_1 + 1))) else (none)) else (cool_Clean.l0 k1 a1 x5_1 l0 (l0.length : Int) (wrap64 (x11_1 + 1)))) = some r := H
            have A6 := Aside0.mk A60
            clear A60
            by_cases c7 : (t294.length : Int) > 0
            · rw [if_pos c7] at H
              have c7b0 : decide (0 < (t294.length : Int)) = true := decide_eq_true c7
              have c7b1 : decide (0 < t294.length) = true := decide_eq_true (by omega)
              clear c7
              by_cases c8 : x5_1.length < 4398046511104
              · rw [if_pos c8] at H
                have LMc8 := Aside0.mk c8
                clear c8
                obtain ⟨y297, hy297⟩ : ∃ y_ : List (S35), y_ = (x5_1 ++ [(⟨(rd_T35 l0 x11_1).f0, t294⟩ : S35)]) := ⟨_, rfl⟩
                replace H : (cool_Clean.l0 k1 a1 y297 l0 (l0.length : Int) (wrap64 (x11_1 + 1))) = some r := by first | (rw [hy297]; with_reducible exact H) | (have H2_ := (Option.bind_some _ _).symm.trans H; rw [hy297]; with_reducible exact H2_) | (have H2_ := (Option.bind_some _ _).symm.trans H; with_reducible exact H2_) | with_reducible exact H | (rw [hy297]; exact H) | exact H
                have Ny297 := Aside0.mk hy297
                clear hy297
                have H' := Aside0.mk H
                clear H
                have p292 : 0 ≤ (x11_1 : Int) := of_decide_eq_true (by first | (with_reducible assumption) | assumption)
                have q292 : x11_1 < (l0.length : Int) := of_decide_eq_true (by first | (with_reducible assumption) | assumption)
                obtain ⟨ad292, A292_1, c292_1, e292, hx292_0, hx292_1, hl292_1, hi292_1⟩ := at_T35 HR0.out x11_1 p292 q292
                cases e292
                replace hx292_0 := (HB.out.cell (World.block_lt_of_cell? w _ hx292_0)).trans hx292_0
                replace hx292_1 := (HB.out.cell (World.block_lt_of_cell? w _ hx292_1)).trans hx292_1
                have HR292_1 := Aside0.mk hi292_1
                have HC292_1 := Aside0.mk hl292_1
                clear hi292_1 hl292_1
                replace p292 := eq_true p292
                replace q292 := eq_true q292
                go_wp2_with (first | ((with_reducible refine gate_dst (N := 7) rfl ?_); refine box_event ?hg (N := 7) ?hd (cs := #[.int .i64 0, .slice none 0 0]) (t := 35) ?hr ?_; (case hd => rfl); (case hg => rfl); (case hr => first | (go_simp; done) | (go_simp; rfl)); intro gb293 hg w9 hbox hb; have n0_ := Aside0.mk (Kd.S_below (Kd.S_elderB (by (with_reducible repeat (first | apply Kd.S_alloc | apply Kd.S_drewN | apply Kd.S_drew)); exact HO_5.out) gb293 (Nat.le_of_eq hg.symm)) hb); have n1_ := Aside0.mk (below_step (by repeat (first | (with_reducible first | exact HB.out | apply below_alloc | apply pw_below_drewN | apply below_drew1) | exact HB.out)) hb); have n2_ := Aside0.mk (hbox); have n3_ := Aside0.mk ((by rw [hg]; exact (below_size (by repeat (first | (with_reducible first | exact HB.out | apply below_alloc | apply pw_below_drewN | apply below_drew1) | exact HB.out))) : w.heap.size ≤ gb293)); have n4_ := Aside0.mk ((by rw [hg]; exact (below_size (by repeat (first | (with_reducible first | exact HB.out | apply below_alloc | apply pw_below_drewN | apply below_drew1) | exact HB.out))) : w.heap.size ≤ gb293)); clear HO_5; clear HB; have HO_5 := n0_; have HB := n1_; have BK293 := n2_; have GW293 := n3_; have GE293 := n4_; clear n0_ n1_ n2_ n3_ n4_; clear hb hbox hg; have hcz10_0 : w9.cell? ⟨gb293, 0, none⟩ = some (.int .i64 0) := (blk_cell BK293.out 0).trans rfl; have hcz10_1 : w9.cell? ⟨gb293, 1, none⟩ = some (.slice none 0 0) := (blk_cell BK293.out 1).trans rfl; have hfz10_0 := blk_frozen BK293.out 0; have hfz10_1 := blk_frozen BK293.out 1) | ((with_reducible refine gate_callee (f := 31) rfl ?_); refine goesL_ (some 18) rfl rfl Try.func31 (by kernel_rfl) rfl #[.slice A292_1 ((rd_T35 l0 x11_1).f1).length c292_1, .int .i64 a1] rfl (by (try simp only [List.map_toArray, List.map_cons, List.map_nil]); first | done | rfl | (simp only [List.length_drop, List.length_take]; rfl)) ?_; (with_reducible refine (cool_above.calls k1 _ _ ((rd_T35 l0 x11_1).f1) a1 t294 _ ?side1 ?side2 A6.out).mono ?_); (case side1 => exact Kd.C_below HR292_1.out (by repeat (first | (with_reducible first | exact HB.out | apply below_alloc | apply pw_below_drewN | apply below_drew1 | refine below_set ?_ GE293.out) | exact HB.out))); (case side2 => exact HC292_1.out); rintro e w11 ⟨v295, rfl, ho0, hb⟩; refine ⟨_, rfl, ?_⟩; have n0_ := Aside0.mk (Kd.S_elder' (by (with_reducible repeat (first | apply Kd.S_alloc | apply Kd.S_drewN | apply Kd.S_drew)); exact (Kd.S_mono (Kd.S_far (p := ⟨gb293, 1, none⟩) (Kd.S_far (p := ⟨gb293, 0, none⟩) (Kd.S_mono HO_5.out (fun k_ hk => (⟨hk, hk.2⟩ : _ ∧ k_ ≠ gb293))) (fun _ hk => hk.2) (.int .i64 ((rd_T35 l0 x11_1).f0))) (fun _ hk => hk.2) (.slice A292_1 ((rd_T35 l0 x11_1).f1).length c292_1)) (fun _ h_ => h_.1))) (Kd.R_base ho0) hb); have n1_ := Aside0.mk (Kd.R_lower ho0 (below_size (by repeat (first | (with_reducible first | exact HB.out | apply below_alloc | apply pw_below_drewN | apply below_drew1 | refine below_set ?_ GE293.out) | exact HB.out)))); have n2_ := Aside0.mk (blk_below (g := gb293) (o := .cells #[.int .i64 ((rd_T35 l0 x11_1).f0), .slice A292_1 ((rd_T35 l0 x11_1).f1).length c292_1] 35 (0, 0)) (by (with_reducible repeat (first | refine blk_drewN ?_ _ | refine blk_drew ?_ | refine blk_alloc ?_ _)); refine blk_put (cs := #[.int .i64 ((rd_T35 l0 x11_1).f0), .slice none 0 0]) ?_ 1 _ rfl; (with_reducible repeat (first | refine blk_drewN ?_ _ | refine blk_drew ?_ | refine blk_alloc ?_ _)); refine blk_put (cs := #[.int .i64 0, .slice none 0 0]) ?_ 0 _ rfl; (with_reducible repeat (first | refine blk_drewN ?_ _ | refine blk_drew ?_ | refine blk_alloc ?_ _)); exact BK293.out) hb); have n3_ := Aside0.mk (below_step (by repeat (first | (with_reducible first | exact HB.out | apply below_alloc | apply pw_below_drewN | apply below_drew1 | refine below_set ?_ GE293.out) | exact HB.out)) hb); clear HO_5; clear BK293; clear HB; have HO_5 := n0_; have HO296 := n1_; have BK293 := n2_; have HB := n3_; clear n0_ n1_ n2_ n3_; (try clear hb); (try clear hb2); (try clear hk); (try clear hi); (try clear ho0); obtain ⟨Ao12, co12, eo12⟩ := Kd.R_slice HO296.out; subst eo12; have hcz13_0 : w11.cell? ⟨gb293, 0, none⟩ = some (.int .i64 ((rd_T35 l0 x11_1).f0)) := (blk_cell BK293.out 0).trans rfl; have hcz13_1 : w11.cell? ⟨gb293, 1, none⟩ = some (.slice A292_1 ((rd_T35 l0 x11_1).f1).length c292_1) := (blk_cell BK293.out 1).trans rfl; have hfz13_0 := blk_frozen BK293.out 0; have hfz13_1 := blk_frozen BK293.out 1) | ((with_reducible refine gate_builtin (b := .append) (xs := #[.tmp 22, .tmp 27]) rfl ?_); at_builtin; refine Kd.S_append k35 (w0 := w) w.heap.size rfl (.tmp 22) (.tmp 27) 22 35 (.agg #[(.int .i64 0), (.slice none 0 0)]) 32 rfl Try.underlying22 info35 rfl (by decide) (by omega) u5 x5_1 (⟨(rd_T35 l0 x11_1).f0, t294⟩ : S35) [.int .i64 ((rd_T35 l0 x11_1).f0), .slice Ao12 t294.length co12] (fun k_ => k_ ≠ gb293) (fun k_ => some k_ = (.slice Ao12 t294.length co12 : Value).ownBlock) rfl rfl ?aP (fun k_ hk_ => ((Kd.R_mono (ok' := fun k_ => ((fun k_ => k_ ≠ gb293)) k_ ∧ some k_ ≠ (u5 : Value).ownBlock) (Kd.R_types (Kd.R_apart' (HO296.out) (Kd.S_typed HO_5.out) (by decide)) BK293.out (by decide)) (fun k_ hk => ⟨hk.2, hk.1.2⟩))).1 k_ hk_.symm) ?aF ?aO ?aB ?aS ?aL ?_; (case aP => exact k35_mkM _ _ _ (⟨(rd_T35 l0 x11_1).f0, t294⟩ : S35) (Kd.R_mono (Kd.R_tight rfl (Kd.R_mono (ok' := fun k_ => ((fun k_ => k_ ≠ gb293)) k_ ∧ some k_ ≠ (u5 : Value).ownBlock) (Kd.R_types (Kd.R_apart' (HO296.out) (Kd.S_typed HO_5.out) (by decide)) BK293.out (by decide)) (fun k_ hk => ⟨hk.2, hk.1.2⟩))) (fun _ h_ => h_))); (case aB => exact (by repeat (first | (with_reducible first | exact HB.out | apply below_alloc | apply pw_below_drewN | apply below_drew1 | refine below_set ?_ GE293.out) | exact HB.out))); (case aF => exact (fun k_ hk => Kd.freshB (g := gb293) (o := .cells #[.int .i64 ((rd_T35 l0 x11_1).f0), .slice A292_1 ((rd_T35 l0 x11_1).f1).length c292_1] 35 (0, 0)) (by (with_reducible repeat (first | refine blk_drewN ?_ _ | refine blk_drew ?_ | refine blk_alloc ?_ _)); exact BK293.out) k_ hk)); (case aO => exact (by (with_reducible repeat (first | apply Kd.S_alloc | apply Kd.S_drewN | apply Kd.S_drew)); exact Kd.S_mono HO_5.out (fun k_ hk => ⟨hk.1.2, fun e_ => hk.2 e_⟩))); (case aS => exact (below_size (by repeat (first | (with_reducible first | exact HB.out | apply below_alloc | apply pw_below_drewN | apply below_drew1 | refine below_set ?_ GE293.out) | exact HB.out)))); (case aL => have := LMc8.out; omega); intro v298 w14 ho hb hg hat; rw [← Ny297.out] at ho; have n0_ := Aside0.mk (blk_grown (g := gb293) (o := .cells #[.int .i64 ((rd_T35 l0 x11_1).f0), .slice A292_1 ((rd_T35 l0 x11_1).f1).length c292_1] 35 (0, 0)) (by (with_reducible repeat (first | refine blk_drewN ?_ _ | refine blk_drew ?_ | refine blk_alloc ?_ _)); exact BK293.out) hg (Kd.S_away HO_5.out (fun _ hk => hk.1.2))); have n1_ := Aside0.mk (hb); have n2_ := Aside0.mk (ho); clear BK293; clear HB; clear HO_5; clear HO296; have BK293 := n0_; have HB := n1_; have HO299 := n2_; clear n0_ n1_ n2_; clear ho hb hg hat))
                go_roundg k1
                case measure => have := HK1.out; omega
                case rel => exact ⟨(y297), (wrap64 (x11_1 + 1)), (by first | rfl | (simp; done) | (simp [*]; done)), H', ⟨by have := HK1.out; omega⟩, ⟨by (with_reducible repeat (first | apply Kd.S_alloc | apply Kd.S_drewN | apply Kd.S_drew)); exact Kd.S_mono HO299.out (fun _ hk => trivial)⟩, ⟨by repeat (first | (with_reducible first | exact HB.out | apply below_alloc | apply pw_below_drewN | apply below_drew1 | refine below_set ?_ GE293.out) | exact HB.out)⟩⟩
              · rw [if_neg c8] at H
                exact absurd H (by simp)
            · rw [if_neg c7] at H
              have c7b0 : decide (0 < (t294.length : Int)) = false := decide_eq_false c7
              have c7b1 : decide (0 < t294.length) = false := decide_eq_false (by omega)
              clear c7
              have H' := Aside0.mk H
              clear H
              have p292 : 0 ≤ (x11_1 : Int) := of_decide_eq_true (by first | (with_reducible assumption) | assumption)
              have q292 : x11_1 < (l0.length : Int) := of_decide_eq_true (by first | (with_reducible assumption) | assumption)
              obtain ⟨ad292, A292_1, c292_1, e292, hx292_0, hx292_1, hl292_1, hi292_1⟩ := at_T35 HR0.out x11_1 p292 q292
              cases e292
              replace hx292_0 := (HB.out.cell (World.block_lt_of_cell? w _ hx292_0)).trans hx292_0
              replace hx292_1 := (HB.out.cell (World.block_lt_of_cell? w _ hx292_1)).trans hx292_1
              have HR292_1 := Aside0.mk hi292_1
              have HC292_1 := Aside0.mk hl292_1
              clear hi292_1 hl292_1
              replace p292 := eq_true p292
              replace q292 := eq_true q292
              go_wp2_with (first | ((with_reducible refine gate_dst (N := 7) rfl ?_); refine box_event ?hg (N := 7) ?hd (cs := #[.int .i64 0, .slice none 0 0]) (t := 35) ?hr ?_; (case hd => rfl); (case hg => rfl); (case hr => first | (go_simp; done) | (go_simp; rfl)); intro gb293 hg w15 hbox hb; have n0_ := Aside0.mk (Kd.S_below (Kd.S_elderB (by (with_reducible repeat (first | apply Kd.S_alloc | apply Kd.S_drewN | apply Kd.S_drew)); exact HO_5.out) gb293 (Nat.le_of_eq hg.symm)) hb); have n1_ := Aside0.mk (below_step (by repeat (first | (with_reducible first | exact HB.out | apply below_alloc | apply pw_below_drewN | apply below_drew1) | exact HB.out)) hb); have n2_ := Aside0.mk (hbox); have n3_ := Aside0.mk ((by rw [hg]; exact (below_size (by repeat (first | (with_reducible first | exact HB.out | apply below_alloc | apply pw_below_drewN | apply below_drew1) | exact HB.out))) : w.heap.size ≤ gb293)); have n4_ := Aside0.mk ((by rw [hg]; exact (below_size (by repeat (first | (with_reducible first | exact HB.out | apply below_alloc | apply pw_below_drewN | apply below_drew1) | exact HB.out))) : w.heap.size ≤ gb293)); clear HO_5; clear HB; have HO_5 := n0_; have HB := n1_; have BK293 := n2_; have GW293 := n3_; have GE293 := n4_; clear n0_ n1_ n2_ n3_ n4_; clear hb hbox hg; have hcz16_0 : w15.cell? ⟨gb293, 0, none⟩ = some (.int .i64 0) := (blk_cell BK293.out 0).trans rfl; have hcz16_1 : w15.cell? ⟨gb293, 1, none⟩ = some (.slice none 0 0) := (blk_cell BK293.out 1).trans rfl; have hfz16_0 := blk_frozen BK293.out 0; have hfz16_1 := blk_frozen BK293.out 1) | ((with_reducible refine gate_callee (f := 31) rfl ?_); refine goesL_ (some 18) rfl rfl Try.func31 (by kernel_rfl) rfl #[.slice A292_1 ((rd_T35 l0 x11_1).f1).length c292_1, .int .i64 a1] rfl (by (try simp only [List.map_toArray, List.map_cons, List.map_nil]); first | done | rfl | (simp only [List.length_drop, List.length_take]; rfl)) ?_; (with_reducible refine (cool_above.calls k1 _ _ ((rd_T35 l0 x11_1).f1) a1 t294 _ ?side1 ?side2 A6.out).mono ?_); (case side1 => exact Kd.C_below HR292_1.out (by repeat (first | (with_reducible first | exact HB.out | apply below_alloc | apply pw_below_drewN | apply below_drew1 | refine below_set ?_ GE293.out) | exact HB.out))); (case side2 => exact HC292_1.out); rintro e w17 ⟨v295, rfl, ho0, hb⟩; refine ⟨_, rfl, ?_⟩; have n0_ := Aside0.mk (Kd.S_elder' (by (with_reducible repeat (first | apply Kd.S_alloc | apply Kd.S_drewN | apply Kd.S_drew)); exact (Kd.S_mono (Kd.S_far (p := ⟨gb293, 1, none⟩) (Kd.S_far (p := ⟨gb293, 0, none⟩) (Kd.S_mono HO_5.out (fun k_ hk => (⟨hk, hk.2⟩ : _ ∧ k_ ≠ gb293))) (fun _ hk => hk.2) (.int .i64 ((rd_T35 l0 x11_1).f0))) (fun _ hk => hk.2) (.slice A292_1 ((rd_T35 l0 x11_1).f1).length c292_1)) (fun _ h_ => h_.1))) (Kd.R_base ho0) hb); have n1_ := Aside0.mk (Kd.R_lower ho0 (below_size (by repeat (first | (with_reducible first | exact HB.out | apply below_alloc | apply pw_below_drewN | apply below_drew1 | refine below_set ?_ GE293.out) | exact HB.out)))); have n2_ := Aside0.mk (blk_below (g := gb293) (o := .cells #[.int .i64 ((rd_T35 l0 x11_1).f0), .slice A292_1 ((rd_T35 l0 x11_1).f1).length c292_1] 35 (0, 0)) (by (with_reducible repeat (first | refine blk_drewN ?_ _ | refine blk_drew ?_ | refine blk_alloc ?_ _)); refine blk_put (cs := #[.int .i64 ((rd_T35 l0 x11_1).f0), .slice none 0 0]) ?_ 1 _ rfl; (with_reducible repeat (first | refine blk_drewN ?_ _ | refine blk_drew ?_ | refine blk_alloc ?_ _)); refine blk_put (cs := #[.int .i64 0, .slice none 0 0]) ?_ 0 _ rfl; (with_reducible repeat (first | refine blk_drewN ?_ _ | refine blk_drew ?_ | refine blk_alloc ?_ _)); exact BK293.out) hb); have n3_ := Aside0.mk (below_step (by repeat (first | (with_reducible first | exact HB.out | apply below_alloc | apply pw_below_drewN | apply below_drew1 | refine below_set ?_ GE293.out) | exact HB.out)) hb); clear HO_5; clear BK293; clear HB; have HO_5 := n0_; have HO296 := n1_; have BK293 := n2_; have HB := n3_; clear n0_ n1_ n2_ n3_; (try clear hb); (try clear hb2); (try clear hk); (try clear hi); (try clear ho0); obtain ⟨Ao18, co18, eo18⟩ := Kd.R_slice HO296.out; subst eo18))
              go_roundg k1
              case measure => have := HK1.out; omega
              case rel => exact ⟨(x5_1), (wrap64 (x11_1 + 1)), (by first | rfl | (simp; done) | (simp [*]; done)), H', ⟨by have := HK1.out; omega⟩, ⟨by (with_reducible repeat (first | apply Kd.S_alloc | apply Kd.S_drewN | apply Kd.S_drew)); exact Kd.S_mono HO_5.out (fun _ hk => trivial)⟩, ⟨by repeat (first | (with_reducible first | exact HB.out | apply below_alloc | apply pw_below_drewN | apply below_drew1 | refine below_set ?_ GE293.out) | exact HB.out)⟩⟩
          · rw [if_neg c5] at H
            exact absurd H (by simp)
        · rw [if_neg c4] at H
          exact absurd H (by simp)
      · rw [if_neg c3] at H
        have c3b0 : decide (x11_1 < (l0.length : Int)) = false := decide_eq_false c3
        clear c3
        obtain rfl := Option.some.inj H
        go_wp2
        go_ret
        exact ⟨_, by first | rfl | (simp [errW_none, errW_some] <;> rfl) | (simp [*, errW_none, errW_some] <;> rfl), by (with_reducible repeat (first | apply Kd.S_alloc | apply Kd.S_drewN | apply Kd.S_drew)); exact HO_5.out, by repeat (first | (with_reducible first | exact HB.out | apply below_alloc | apply pw_below_drewN | apply below_drew1) | exact HB.out)⟩

/-! ### barrowref16_Same: function 14 -/
mutual
def barrowref16_Same.l0 : Nat → List (S35) → List (S35) → Int → Option (Bool)
  | 0, _, _, _ => none
  | k + 1, x0, x1, x5 => if x5 < (x0.length : Int) then (if 0 ≤ x5 then (if x5 < (x1.length : Int) then (if ((rd_T35 x0 x5).f0) = ((rd_T35 x1 x5).f0) then (barrowref16_Same.j1 k x0 x1 x5 ((((rd_T35 x0 x5).f1).length : Int) != (((rd_T35 x1 x5).f1).length : Int))) else (barrowref16_Same.j1 k x0 x1 x5 true)) else (none)) else (none)) else (some true)
def barrowref16_Same.j1 : Nat → List (S35) → List (S35) → Int → Bool → Option (Bool)
  | 0, _, _, _, _ => none
  | k + 1, x0, x1, x5, x43 => if x43 = true then (some false) else (barrowref16_Same.l1 k x0 x1 x5 0)
def barrowref16_Same.l1 : Nat → List (S35) → List (S35) → Int → Int → Option (Bool)
  | 0, _, _, _, _ => none
  | k + 1, x0, x1, x5, x6 => if 0 ≤ x5 then (if x5 < (x0.length : Int) then (if x6 < (((rd_T35 x0 x5).f1).length : Int) then (if 0 ≤ x6 then (if x5 < (x1.length : Int) then (if x6 < (((rd_T35 x1 x5).f1).length : Int) then (if (rd ((rd_T35 x0 x5).f1) x6) = (rd ((rd_T35 x1 x5).f1) x6) then (barrowref16_Same.l1 k x0 x1 x5 (wrap64 (x6 + 1))) else (some false)) else (none)) else (none)) else (none)) else (barrowref16_Same.l0 k x0 x1 (wrap64 (x5 + 1)))) else (none)) else (none)
end
def barrowref16_Same.f (k : Nat) (l0 : List (S35)) (l1 : List (S35)) : Option (Bool) := if (l0.length : Int) = (l1.length : Int) then (barrowref16_Same.l0 k l0 l1 0) else (some false)
theorem barrowref16_Same.mono_l : ∀ k, (∀ y0 y1 y2, LeO (barrowref16_Same.l0 k y0 y1 y2) (barrowref16_Same.l0 (k + 1) y0 y1 y2)) ∧ (∀ y0 y1 y2 y3, LeO (barrowref16_Same.j1 k y0 y1 y2 y3) (barrowref16_Same.j1 (k + 1) y0 y1 y2 y3)) ∧ (∀ y0 y1 y2 y3, LeO (barrowref16_Same.l1 k y0 y1 y2 y3) (barrowref16_Same.l1 (k + 1) y0 y1 y2 y3))
  | 0 => ⟨fun _ _ _ r h => by simp [barrowref16_Same.l0] at h, fun _ _ _ _ r h => by simp [barrowref16_Same.j1] at h, fun _ _ _ _ r h => by simp [barrowref16_Same.l1] at h⟩
  | k + 1 => by
    obtain ⟨ih0, ih1, ih2⟩ := barrowref16_Same.mono_l k
    refine ⟨?_, ?_, ?_⟩
    · intro y0 y1 y2
      unfold barrowref16_Same.l0
      repeat' first
      | (with_reducible exact ih0 _ _ _)
      | (with_reducible exact ih1 _ _ _ _)
      | (with_reducible exact ih2 _ _ _ _)
      | (with_reducible exact LeO.refl _)
      | (with_reducible exact LeO.none _)
      | (with_reducible refine LeO.ite ?_ ?_)
      | (with_reducible refine LeO.bind ?_ (fun _ => ?_))
      | exact ih0 _ _ _
      | exact ih1 _ _ _ _
      | exact ih2 _ _ _ _
      | exact LeO.none _
      | refine LeO.ite ?_ ?_
      | refine LeO.bind ?_ (fun _ => ?_)
    · intro y0 y1 y2 y3
      unfold barrowref16_Same.j1
      repeat' first
      | (with_reducible exact ih0 _ _ _)
      | (with_reducible exact ih1 _ _ _ _)
      | (with_reducible exact ih2 _ _ _ _)
      | (with_reducible exact LeO.refl _)
      | (with_reducible exact LeO.none _)
      | (with_reducible refine LeO.ite ?_ ?_)
      | (with_reducible refine LeO.bind ?_ (fun _ => ?_))
      | exact ih0 _ _ _
      | exact ih1 _ _ _ _
      | exact ih2 _ _ _ _
      | exact LeO.none _
      | refine LeO.ite ?_ ?_
      | refine LeO.bind ?_ (fun _ => ?_)
    · intro y0 y1 y2 y3
      unfold barrowref16_Same.l1
      repeat' first
      | (with_reducible exact ih0 _ _ _)
      | (with_reducible exact ih1 _ _ _ _)
      | (with_reducible exact ih2 _ _ _ _)
      | (with_reducible exact LeO.refl _)
      | (with_reducible exact LeO.none _)
      | (with_reducible refine LeO.ite ?_ ?_)
      | (with_reducible refine LeO.bind ?_ (fun _ => ?_))
      | exact ih0 _ _ _
      | exact ih1 _ _ _ _
      | exact ih2 _ _ _ _
      | exact LeO.none _
      | refine LeO.ite ?_ ?_
      | refine LeO.bind ?_ (fun _ => ?_)
theorem barrowref16_Same.mono : ∀ a0 a1 k, LeO (barrowref16_Same.f k a0 a1) (barrowref16_Same.f (k + 1) a0 a1) := by
  intro a0 a1 k
  obtain ⟨ih0, ih1, ih2⟩ := barrowref16_Same.mono_l k
  unfold barrowref16_Same.f
  repeat' first
      | (with_reducible exact ih0 _ _ _)
      | (with_reducible exact ih1 _ _ _ _)
      | (with_reducible exact ih2 _ _ _ _)
      | (with_reducible exact LeO.refl _)
      | (with_reducible exact LeO.none _)
      | (with_reducible refine LeO.ite ?_ ?_)
      | (with_reducible refine LeO.bind ?_ (fun _ => ?_))
      | exact ih0 _ _ _
      | exact ih1 _ _ _ _
      | exact ih2 _ _ _ _
      | exact LeO.none _
      | refine LeO.ite ?_ ?_
      | refine LeO.bind ?_ (fun _ => ?_)
set_option maxHeartbeats 8000000 in
set_option maxRecDepth 100000 in
theorem barrowref16_Same.calls (k : Nat) (A0 : Option Addr) (c0 : Nat) (l0 : List (S35)) (A1 : Option Addr) (c1 : Nat) (l1 : List (S35)) (r : Bool) (w : World) (hr0 : Kd.C k35 w A0 l0.length l0) (hc0 : l0.length ≤ c0) (hr1 : Kd.C k35 w A1 l1.length l1) (hc1 : l1.length ≤ c1) (h : barrowref16_Same.f k l0 l1 = some r) :
    Calls Try.prog 14 #[.slice A0 l0.length c0, .slice A1 l1.length c1] w fun e w' => e = .returned (.bool r) ∧ Drawn0 w w' := by
  have HR0 := Aside0.mk hr0
  have HC0 := Aside0.mk hc0
  clear hr0 hc0
  have HR1 := Aside0.mk hr1
  have HC1 := Aside0.mk hc1
  clear hr1 hc1
  have H : (if (l0.length : Int) = (l1.length : Int) then (barrowref16_Same.l0 k l0 l1 0) else (some false)) = some r := h
  clear h
  by_cases c3 : (l0.length : Int) = (l1.length : Int)
  · rw [if_pos c3] at H
    have c3b0 : ((l0.length : Int) == (l1.length : Int)) = true := beq_iff_eq.mpr c3
    have c3b1 : ((l0.length : Int) != (l1.length : Int)) = false := bne_eq_false_iff_eq.mpr c3
    have c3b2 : (l0.length == l1.length) = true := by first | simpa using c3 | (simp at c3 ⊢; omega)
    clear c3
    have H' := Aside0.mk H
    clear H
    go_enter Try.func14, Try.ntmps14
    go_wp2
    repeat (go_quiet (fail); try go_wp2)
    go_loopg [5] k (fun kq v5 w' => ∃ (x5_1 : Int), v5 = .int .i64 x5_1 ∧ Aside0 (barrowref16_Same.l0 kq l0 l1 x5_1 = some r) ∧ Aside0 (kq ≤ k) ∧ Drawn0 w w')
    case atStart => exact ⟨(0), (by first | rfl | (simp; done) | (simp [*]; done)), H', ⟨Nat.le_refl _⟩, by repeat (first | exact Drawn0.refl _ | apply Drawn0.step)⟩
    case round =>
      clear H'
      try clear c1
      try clear p2
      try clear c3
      try clear c3b0
      try clear c3b1
      try clear c3b2
      obtain ⟨x5_1, rfl, HA, HK1, ⟨m1, rfl⟩⟩ := hrel
      cases gk with
      | zero => exact absurd HA.out (by simp [barrowref16_Same.l0])
      | succ k1 =>
        have H := HA.out
        clear HA
        simp only [barrowref16_Same.l0] at H
        by_cases c4 : x5_1 < (l0.length : Int)
        · rw [if_pos c4] at H
          have c4b0 : decide (x5_1 < (l0.length : Int)) = true := decide_eq_true c4
          clear c4
          have HC5 := Aside0.mk H
          clear H
          go_upto_region 6 with (fail)
          repeat (go_quiet (fail); go_upto_region 6 with (fail))
          go_cut [43] (fun v43 wc => ∃ (kq : Nat) (x43_4 : Bool), v43 = .bool x43_4 ∧ Aside0 (barrowref16_Same.j1 kq l0 l1 x5_1 x43_4 = some r) ∧ Aside0 (kq ≤ k1) ∧ Drawn0 w wc)
          case first =>
            have H := HC5.out
            clear HC5
            by_cases c6 : 0 ≤ x5_1
            · rw [if_pos c6] at H
              have c6b0 : decide (0 ≤ x5_1) = true := decide_eq_true c6
              clear c6
              (first | rw [c6b0] | (simp only [i64_w, i32_w]; rw [c6b0]) | skip)
              by_cases c7 : x5_1 < (l1.length : Int)
              · rw [if_pos c7] at H
                have c7b0 : decide (x5_1 < (l1.length : Int)) = true := decide_eq_true c7
                clear c7
                by_cases c8 : ((rd_T35 l0 x5_1).f0) = ((rd_T35 l1 x5_1).f0)
                · rw [if_pos c8] at H
                  have c8b0 : (((rd_T35 l0 x5_1).f0) == ((rd_T35 l1 x5_1).f0)) = true := beq_iff_eq.mpr c8
                  have c8b1 : (((rd_T35 l0 x5_1).f0) != ((rd_T35 l1 x5_1).f0)) = false := bne_eq_false_iff_eq.mpr c8
                  clear c8
                  have H' := Aside0.mk H
                  clear H
                  have p306 : 0 ≤ (x5_1 : Int) := of_decide_eq_true (by first | (with_reducible assumption) | assumption)
                  have q306 : x5_1 < (l0.length : Int) := of_decide_eq_true (by first | (with_reducible assumption) | assumption)
                  obtain ⟨ad306, A306_1, c306_1, e306, hx306_0, hx306_1, hl306_1, hi306_1⟩ := at_T35 HR0.out x5_1 p306 q306
                  cases e306
                  have HR306_1 := Aside0.mk hi306_1
                  have HC306_1 := Aside0.mk hl306_1
                  clear hi306_1 hl306_1
                  replace p306 := eq_true p306
                  replace q306 := eq_true q306
                  have p307 : 0 ≤ (x5_1 : Int) := of_decide_eq_true (by first | (with_reducible assumption) | assumption)
                  have q307 : x5_1 < (l1.length : Int) := of_decide_eq_true (by first | (with_reducible assumption) | assumption)
                  obtain ⟨ad307, A307_1, c307_1, e307, hx307_0, hx307_1, hl307_1, hi307_1⟩ := at_T35 HR1.out x5_1 p307 q307
                  cases e307
                  have HR307_1 := Aside0.mk hi307_1
                  have HC307_1 := Aside0.mk hl307_1
                  clear hi307_1 hl307_1
                  replace p307 := eq_true p307
                  replace q307 := eq_true q307
                  have p308 : 0 ≤ (x5_1 : Int) := of_decide_eq_true (by first | (with_reducible assumption) | assumption)
                  have q308 : x5_1 < (l0.length : Int) := of_decide_eq_true (by first | (with_reducible assumption) | assumption)
                  obtain ⟨ad308, A308_1, c308_1, e308, hx308_0, hx308_1, hl308_1, hi308_1⟩ := at_T35 HR0.out x5_1 p308 q308
                  obtain rfl : ad306 = ad308 := (by injection e308)
                  have HR308_1 := Aside0.mk hi308_1
                  have HC308_1 := Aside0.mk hl308_1
                  clear hi308_1 hl308_1
                  replace p308 := eq_true p308
                  replace q308 := eq_true q308
                  have ea_ := Option.some.inj (hx306_1.symm.trans hx308_1)
                  injection ea_ with ea_ en_ ec_
                  subst ea_
                  subst ec_
                  clear en_
                  have p309 : 0 ≤ (x5_1 : Int) := of_decide_eq_true (by first | (with_reducible assumption) | assumption)
                  have q309 : x5_1 < (l1.length : Int) := of_decide_eq_true (by first | (with_reducible assumption) | assumption)
                  obtain ⟨ad309, A309_1, c309_1, e309, hx309_0, hx309_1, hl309_1, hi309_1⟩ := at_T35 HR1.out x5_1 p309 q309
                  obtain rfl : ad307 = ad309 := (by injection e309)
                  have HR309_1 := Aside0.mk hi309_1
                  have HC309_1 := Aside0.mk hl309_1
                  clear hi309_1 hl309_1
                  replace p309 := eq_true p309
                  replace q309 := eq_true q309
                  have ea_ := Option.some.inj (hx307_1.symm.trans hx309_1)
                  injection ea_ with ea_ en_ ec_
                  subst ea_
                  subst ec_
                  clear en_
                  go_wp2
                  repeat (go_quiet (fail); try go_wp2)
                  go_meet
                  case rel => exact ⟨_, (((((rd_T35 l0 x5_1).f1).length : Int) != (((rd_T35 l1 x5_1).f1).length : Int))), (by first | rfl | (simp; done) | (simp [*]; done)), H', ⟨by have := HK1.out; first | omega | exact Nat.le_refl _⟩, by repeat (first | exact Drawn0.refl _ | apply Drawn0.step)⟩
                · rw [if_neg c8] at H
                  have c8b0 : (((rd_T35 l0 x5_1).f0) == ((rd_T35 l1 x5_1).f0)) = false := beq_eq_false_iff_ne.mpr c8
                  have c8b1 : (((rd_T35 l0 x5_1).f0) != ((rd_T35 l1 x5_1).f0)) = true := bne_iff_ne.mpr c8
                  have H' := Aside0.mk H
                  clear H
                  have p306 : 0 ≤ (x5_1 : Int) := of_decide_eq_true (by first | (with_reducible assumption) | assumption)
                  have q306 : x5_1 < (l0.length : Int) := of_decide_eq_true (by first | (with_reducible assumption) | assumption)
                  obtain ⟨ad306, A306_1, c306_1, e306, hx306_0, hx306_1, hl306_1, hi306_1⟩ := at_T35 HR0.out x5_1 p306 q306
                  cases e306
                  have HR306_1 := Aside0.mk hi306_1
                  have HC306_1 := Aside0.mk hl306_1
                  clear hi306_1 hl306_1
                  replace p306 := eq_true p306
                  replace q306 := eq_true q306
                  have p307 : 0 ≤ (x5_1 : Int) := of_decide_eq_true (by first | (with_reducible assumption) | assumption)
                  have q307 : x5_1 < (l1.length : Int) := of_decide_eq_true (by first | (with_reducible assumption) | assumption)
                  obtain ⟨ad307, A307_1, c307_1, e307, hx307_0, hx307_1, hl307_1, hi307_1⟩ := at_T35 HR1.out x5_1 p307 q307
                  cases e307
                  have HR307_1 := Aside0.mk hi307_1
                  have HC307_1 := Aside0.mk hl307_1
                  clear hi307_1 hl307_1
                  replace p307 := eq_true p307
                  replace q307 := eq_true q307
                  go_wp2
                  repeat (go_quiet (fail); try go_wp2)
                  go_meet
                  case rel => exact ⟨_, (true), (by first | rfl | (simp; done) | (simp [*]; done)), H', ⟨by have := HK1.out; first | omega | exact Nat.le_refl _⟩, by repeat (first | exact Drawn0.refl _ | apply Drawn0.step)⟩
              · rw [if_neg c7] at H
                exact absurd H (by simp)
            · rw [if_neg c6] at H
              exact absurd H (by simp)
          case rest =>
            clear HC5
            try clear c1
            try clear p2
            try clear c3
            try clear c3b0
            try clear c3b1
            try clear c3b2
            try clear p3
            try clear q3
            try clear hx3
            try clear c4
            try clear c4b0
            try clear c6
            try clear c6b0
            try clear c7
            try clear c7b0
            try clear c8
            try clear c8b0
            try clear c8b1
            try clear hx306_0
            try clear hx306_1
            try clear hx307_0
            try clear hx307_1
            try clear hx308_0
            try clear hx308_1
            try clear hx309_0
            try clear hx309_1
            try clear p2
            try clear p306
            try clear p307
            try clear p308
            try clear p309
            try clear q306
            try clear q307
            try clear q308
            try clear q309
            obtain ⟨kq, x43_4, rfl, HA, HJ4, ⟨mc4, rfl⟩⟩ := hcut
            cases kq with
            | zero => exact absurd HA.out (by simp [barrowref16_Same.j1])
            | succ kj4 =>
              have H := HA.out
              clear HA
              simp only [barrowref16_Same.j1] at H
              by_cases c9 : x43_4 = true
              · subst c9
                have H1 : (some false) = some r := by rw [if_pos rfl] at H; exact H
                clear H
                have H := H1
                clear H1
                obtain rfl := Option.some.inj H
                go_wp2
                repeat (go_quiet (fail); try go_wp2)
                go_ret
                exact ⟨by first | rfl | (simp; done) | (simp [*]; done), by repeat (first | exact Drawn0.refl _ | apply Drawn0.step)⟩
              · replace c9 := Bool.eq_false_iff.mpr c9
                subst c9
                have H1 : (barrowref16_Same.l1 kj4 l0 l1 x5_1 0) = some r := by rw [if_neg (show ¬ (false = true) by decide)] at H; exact H
                clear H
                have H := H1
                clear H1
                have H' := Aside0.mk H
                clear H
                go_wp2
                repeat (go_quiet (fail); try go_wp2)
                go_loopg [6] kj4 (fun kq v6 w' => ∃ (x6_3 : Int), v6 = .int .i64 x6_3 ∧ Aside0 (barrowref16_Same.l1 kq l0 l1 x5_1 x6_3 = some r) ∧ Aside0 (kq ≤ kj4) ∧ Drawn0 w w')
                case atStart => exact ⟨(0), (by first | rfl | (simp; done) | (simp [*]; done)), H', ⟨Nat.le_refl _⟩, by repeat (first | exact Drawn0.refl _ | apply Drawn0.step)⟩
                case round =>
                  clear H'
                  try clear c1
                  try clear p2
                  try clear c3
                  try clear c3b0
                  try clear c3b1
                  try clear c3b2
                  try clear p3
                  try clear q3
                  try clear hx3
                  try clear c4
                  try clear c4b0
                  try clear c6
                  try clear c6b0
                  try clear c7
                  try clear c7b0
                  try clear c8
                  try clear c8b0
                  try clear c8b1
                  try clear c9
                  try clear hx306_0
                  try clear hx306_1
                  try clear hx307_0
                  try clear hx307_1
                  try clear hx308_0
                  try clear hx308_1
                  try clear hx309_0
                  try clear hx309_1
                  try clear p2
                  try clear p3
                  try clear p306
                  try clear p307
                  try clear p308
                  try clear p309
                  try clear q3
                  try clear q306
                  try clear q307
                  try clear q308
                  try clear q309
                  obtain ⟨x6_3, rfl, HA, HK3, ⟨m3, rfl⟩⟩ := hrel
                  cases gk with
                  | zero => exact absurd HA.out (by simp [barrowref16_Same.l1])
                  | succ k3 =>
                    have H := HA.out
                    clear HA
                    simp only [barrowref16_Same.l1] at H
                    by_cases c10 : 0 ≤ x5_1
                    · rw [if_pos c10] at H
                      have c10b0 : decide (0 ≤ x5_1) = true := decide_eq_true c10
                      clear c10
                      by_cases c11 : x5_1 < (l0.length : Int)
                      · rw [if_pos c11] at H
                        have c11b0 : decide (x5_1 < (l0.length : Int)) = true := decide_eq_true c11
                        clear c11
                        by_cases c12 : x6_3 < (((rd_T35 l0 x5_1).f1).length : Int)
                        · rw [if_pos c12] at H
                          have c12b0 : decide (x6_3 < (((rd_T35 l0 x5_1).f1).length : Int)) = true := decide_eq_true c12
                          clear c12
                          by_cases c13 : 0 ≤ x6_3
                          · rw [if_pos c13] at H
                            have c13b0 : decide (0 ≤ x6_3) = true := decide_eq_true c13
                            clear c13
                            by_cases c14 : x5_1 < (l1.length : Int)
                            · rw [if_pos c14] at H
                              have c14b0 : decide (x5_1 < (l1.length : Int)) = true := decide_eq_true c14
                              clear c14
                              by_cases c15 : x6_3 < (((rd_T35 l1 x5_1).f1).length : Int)
                              · rw [if_pos c15] at H
                                have c15b0 : decide (x6_3 < (((rd_T35 l1 x5_1).f1).length : Int)) = true := decide_eq_true c15
                                clear c15
                                by_cases c16 : (rd ((rd_T35 l0 x5_1).f1) x6_3) = (rd ((rd_T35 l1 x5_1).f1) x6_3)
                                · rw [if_pos c16] at H
                                  have c16b0 : ((rd ((rd_T35 l0 x5_1).f1) x6_3) == (rd ((rd_T35 l1 x5_1).f1) x6_3)) = true := beq_iff_eq.mpr c16
                                  have c16b1 : ((rd ((rd_T35 l0 x5_1).f1) x6_3) != (rd ((rd_T35 l1 x5_1).f1) x6_3)) = false := bne_eq_false_iff_eq.mpr c16
                                  clear c16
                                  have H' := Aside0.mk H
                                  clear H
                                  have p310 : 0 ≤ (x5_1 : Int) := of_decide_eq_true (by first | (with_reducible assumption) | assumption)
                                  have q310 : x5_1 < (l0.length : Int) := of_decide_eq_true (by first | (with_reducible assumption) | assumption)
                                  obtain ⟨ad310, A310_1, c310_1, e310, hx310_0, hx310_1, hl310_1, hi310_1⟩ := at_T35 HR0.out x5_1 p310 q310
                                  cases e310
                                  have HR310_1 := Aside0.mk hi310_1
                                  have HC310_1 := Aside0.mk hl310_1
                                  clear hi310_1 hl310_1
                                  replace p310 := eq_true p310
                                  replace q310 := eq_true q310
                                  have p311 : 0 ≤ (x5_1 : Int) := of_decide_eq_true (by first | (with_reducible assumption) | assumption)
                                  have q311 : x5_1 < (l0.length : Int) := of_decide_eq_true (by first | (with_reducible assumption) | assumption)
                                  obtain ⟨ad311, A311_1, c311_1, e311, hx311_0, hx311_1, hl311_1, hi311_1⟩ := at_T35 HR0.out x5_1 p311 q311
                                  obtain rfl : ad310 = ad311 := (by injection e311)
                                  have HR311_1 := Aside0.mk hi311_1
                                  have HC311_1 := Aside0.mk hl311_1
                                  clear hi311_1 hl311_1
                                  replace p311 := eq_true p311
                                  replace q311 := eq_true q311
                                  have ea_ := Option.some.inj (hx310_1.symm.trans hx311_1)
                                  injection ea_ with ea_ en_ ec_
                                  subst ea_
                                  subst ec_
                                  clear en_
                                  have p312 : 0 ≤ (x6_3 : Int) := of_decide_eq_true (by first | (with_reducible assumption) | assumption)
                                  have q312 : x6_3 < (((rd_T35 l0 x5_1).f1).length : Int) := of_decide_eq_true (by first | (with_reducible assumption) | assumption)
                                  obtain ⟨ad312, e312, hx312_0⟩ := Kd.at_int HR311_1.out x6_3 p312 q312
                                  cases e312
                                  replace p312 := eq_true p312
                                  replace q312 := eq_true q312
                                  have p313 : 0 ≤ (x5_1 : Int) := of_decide_eq_true (by first | (with_reducible assumption) | assumption)
                                  have q313 : x5_1 < (l1.length : Int) := of_decide_eq_true (by first | (with_reducible assumption) | assumption)
                                  obtain ⟨ad313, A313_1, c313_1, e313, hx313_0, hx313_1, hl313_1, hi313_1⟩ := at_T35 HR1.out x5_1 p313 q313
                                  cases e313
                                  have HR313_1 := Aside0.mk hi313_1
                                  have HC313_1 := Aside0.mk hl313_1
                                  clear hi313_1 hl313_1
                                  replace p313 := eq_true p313
                                  replace q313 := eq_true q313
                                  have p314 : 0 ≤ (x6_3 : Int) := of_decide_eq_true (by first | (with_reducible assumption) | assumption)
                                  have q314 : x6_3 < (((rd_T35 l1 x5_1).f1).length : Int) := of_decide_eq_true (by first | (with_reducible assumption) | assumption)
                                  obtain ⟨ad314, e314, hx314_0⟩ := Kd.at_int HR313_1.out x6_3 p314 q314
                                  cases e314
                                  replace p314 := eq_true p314
                                  replace q314 := eq_true q314
                                  go_wp2
                                  repeat (go_quiet (fail); try go_wp2)
                                  go_roundg k3
                                  case measure => have := HK1.out; have := HJ4.out; have := HK3.out; omega
                                  case rel => exact ⟨(wrap64 (x6_3 + 1)), (by first | rfl | (simp; done) | (simp [*]; done)), H', ⟨by have := HK1.out; have := HJ4.out; have := HK3.out; omega⟩, by repeat (first | exact Drawn0.refl _ | apply Drawn0.step)⟩
                                · rw [if_neg c16] at H
                                  have c16b0 : ((rd ((rd_T35 l0 x5_1).f1) x6_3) == (rd ((rd_T35 l1 x5_1).f1) x6_3)) = false := beq_eq_false_iff_ne.mpr c16
                                  have c16b1 : ((rd ((rd_T35 l0 x5_1).f1) x6_3) != (rd ((rd_T35 l1 x5_1).f1) x6_3)) = true := bne_iff_ne.mpr c16
                                  obtain rfl := Option.some.inj H
                                  have p310 : 0 ≤ (x5_1 : Int) := of_decide_eq_true (by first | (with_reducible assumption) | assumption)
                                  have q310 : x5_1 < (l0.length : Int) := of_decide_eq_true (by first | (with_reducible assumption) | assumption)
                                  obtain ⟨ad310, A310_1, c310_1, e310, hx310_0, hx310_1, hl310_1, hi310_1⟩ := at_T35 HR0.out x5_1 p310 q310
                                  cases e310
                                  have HR310_1 := Aside0.mk hi310_1
                                  have HC310_1 := Aside0.mk hl310_1
                                  clear hi310_1 hl310_1
                                  replace p310 := eq_true p310
                                  replace q310 := eq_true q310
                                  have p311 : 0 ≤ (x5_1 : Int) := of_decide_eq_true (by first | (with_reducible assumption) | assumption)
                                  have q311 : x5_1 < (l0.length : Int) := of_decide_eq_true (by first | (with_reducible assumption) | assumption)
                                  obtain ⟨ad311, A311_1, c311_1, e311, hx311_0, hx311_1, hl311_1, hi311_1⟩ := at_T35 HR0.out x5_1 p311 q311
                                  obtain rfl : ad310 = ad311 := (by injection e311)
                                  have HR311_1 := Aside0.mk hi311_1
                                  have HC311_1 := Aside0.mk hl311_1
                                  clear hi311_1 hl311_1
                                  replace p311 := eq_true p311
                                  replace q311 := eq_true q311
                                  have ea_ := Option.some.inj (hx310_1.symm.trans hx311_1)
                                  injection ea_ with ea_ en_ ec_
                                  subst ea_
                                  subst ec_
                                  clear en_
                                  have p312 : 0 ≤ (x6_3 : Int) := of_decide_eq_true (by first | (with_reducible assumption) | assumption)
                                  have q312 : x6_3 < (((rd_T35 l0 x5_1).f1).length : Int) := of_decide_eq_true (by first | (with_reducible assumption) | assumption)
                                  obtain ⟨ad312, e312, hx312_0⟩ := Kd.at_int HR311_1.out x6_3 p312 q312
                                  cases e312
                                  replace p312 := eq_true p312
                                  replace q312 := eq_true q312
                                  have p313 : 0 ≤ (x5_1 : Int) := of_decide_eq_true (by first | (with_reducible assumption) | assumption)
                                  have q313 : x5_1 < (l1.length : Int) := of_decide_eq_true (by first | (with_reducible assumption) | assumption)
                                  obtain ⟨ad313, A313_1, c313_1, e313, hx313_0, hx313_1, hl313_1, hi313_1⟩ := at_T35 HR1.out x5_1 p313 q313
                                  cases e313
                                  have HR313_1 := Aside0.mk hi313_1
                                  have HC313_1 := Aside0.mk hl313_1
                                  clear hi313_1 hl313_1
                                  replace p313 := eq_true p313
                                  replace q313 := eq_true q313
                                  have p314 : 0 ≤ (x6_3 : Int) := of_decide_eq_true (by first | (with_reducible assumption) | assumption)
                                  have q314 : x6_3 < (((rd_T35 l1 x5_1).f1).length : Int) := of_decide_eq_true (by first | (with_reducible assumption) | assumption)
                                  obtain ⟨ad314, e314, hx314_0⟩ := Kd.at_int HR313_1.out x6_3 p314 q314
                                  cases e314
                                  replace p314 := eq_true p314
                                  replace q314 := eq_true q314
                                  go_wp2
                                  repeat (go_quiet (fail); try go_wp2)
                                  go_ret
                                  exact ⟨by first | rfl | (simp; done) | (simp [*]; done), by repeat (first | exact Drawn0.refl _ | apply Drawn0.step)⟩
                              · rw [if_neg c15] at H
                                exact absurd H (by simp)
                            · rw [if_neg c14] at H
                              exact absurd H (by simp)
                          · rw [if_neg c13] at H
                            exact absurd H (by simp)
                        · rw [if_neg c12] at H
                          have c12b0 : decide (x6_3 < (((rd_T35 l0 x5_1).f1).length : Int)) = false := decide_eq_false c12
                          clear c12
                          have H' := Aside0.mk H
                          clear H
                          have p310 : 0 ≤ (x5_1 : Int) := of_decide_eq_true (by first | (with_reducible assumption) | assumption)
                          have q310 : x5_1 < (l0.length : Int) := of_decide_eq_true (by first | (with_reducible assumption) | assumption)
                          obtain ⟨ad310, A310_1, c310_1, e310, hx310_0, hx310_1, hl310_1, hi310_1⟩ := at_T35 HR0.out x5_1 p310 q310
                          cases e310
                          have HR310_1 := Aside0.mk hi310_1
                          have HC310_1 := Aside0.mk hl310_1
                          clear hi310_1 hl310_1
                          replace p310 := eq_true p310
                          replace q310 := eq_true q310
                          go_wp2
                          repeat (go_quiet (fail); try go_wp2)
                          go_roundg k3
                          case measure => have := HK1.out; have := HJ4.out; have := HK3.out; omega
                          case rel => exact ⟨(wrap64 (x5_1 + 1)), (by first | rfl | (simp; done) | (simp [*]; done)), H', ⟨by have := HK1.out; have := HJ4.out; have := HK3.out; omega⟩, by repeat (first | exact Drawn0.refl _ | apply Drawn0.step)⟩
                      · rw [if_neg c11] at H
                        exact absurd H (by simp)
                    · rw [if_neg c10] at H
                      exact absurd H (by simp)
        · rw [if_neg c4] at H
          have c4b0 : decide (x5_1 < (l0.length : Int)) = false := decide_eq_false c4
          clear c4
          obtain rfl := Option.some.inj H
          go_wp2
          repeat (go_quiet (fail); try go_wp2)
          go_ret
          exact ⟨by first | rfl | (simp; done) | (simp [*]; done), by repeat (first | exact Drawn0.refl _ | apply Drawn0.step)⟩
  · rw [if_neg c3] at H
    have c3b0 : ((l0.length : Int) == (l1.length : Int)) = false := beq_eq_false_iff_ne.mpr c3
    have c3b1 : ((l0.length : Int) != (l1.length : Int)) = true := bne_iff_ne.mpr c3
    have c3b2 : (l0.length == l1.length) = false := by first | simpa using c3 | (simp at c3 ⊢; omega)
    obtain rfl := Option.some.inj H
    go_enter Try.func14, Try.ntmps14
    go_wp2
    repeat (go_quiet (fail); try go_wp2)
    go_ret
    exact ⟨by first | rfl | (simp; done) | (simp [*]; done), by repeat (first | exact Drawn0.refl _ | apply Drawn0.step)⟩

end Go.Proofs.Ytbhgohomgfjjfaa.XCO
