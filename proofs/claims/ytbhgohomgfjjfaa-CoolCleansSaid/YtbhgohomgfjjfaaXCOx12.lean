-- Written by xprint.py (a program of this session) for this claim
import Derived.Test.YtbhgohomgfjjfaaXCOx0
import Derived.Test.YtbhgohomgfjjfaaXCOx2
import Derived.Test.YtbhgohomgfjjfaaXCOx3
import Derived.Test.YtbhgohomgfjjfaaXCOx7
import Derived.Test.YtbhgohomgfjjfaaXCOx9
import Derived.Test.YtbhgohomgfjjfaaXCOx11
namespace Go.Proofs.Ytbhgohomgfjjfaa.XCO
open Go.Proofs.YtbhgohomgfjjfaaV Go.Proofs.YtbhgohomgfjjfaaS
open Go.RowKit Go.Proofs.YtbhgohomgfjjfaaW.PrintWords Go.Proofs.YtbhgohomgfjjfaaW.PrintLast Go.Proofs.YtbhgohomgfjjfaaW.PrintMore
attribute [local go_sem] max2_int min2_int max_two min_two max_three min_three max_four min_four   -- for this text's walks alone
set_option linter.unusedVariables false
set_option linter.unusedSimpArgs false

/-! ### barrowlaw16_CoolCleans: function 6 -/
def barrowlaw16_CoolCleans.j0 : Nat → List (S35) → Int → Int → Bool → Bool → Int → Int → Int → Int → Int → Int → Bool → List (S76) → Option (Bool)
  | 0, _, _, _, _, _, _, _, _, _, _, _, _, _ => none
  | k + 1, x0, x2, x3, x9, x26, x361000, x361001, x361002, x361003, x361004, x361005, x361006, x361007 => if x26 = true then (some x9) else ((cool_Clean.f k x0 x2).bind fun t364 => (if x9 = true then ((cool_Right.f k t364).bind fun t367 => (if t367 = true then ((cool_Ready.f k t364 x361000 x361001 x361002 x361003 x361004 x361005 x361006 x361007 x2).bind fun t368 => ((cool_Ready.f k x0 x361000 x361001 x361002 x361003 x361004 x361005 x361006 x361007 x2).bind fun t369 => (if t368 = t369 then ((cool_Ready.f k t364 x361000 x361001 x361002 x361003 x361004 x361005 x361006 x361007 x3).bind fun t370 => ((cool_Ready.f k x0 x361000 x361001 x361002 x361003 x361004 x361005 x361006 x361007 x3).bind fun t371 => (if t370 = t371 then ((cool_Clean.f k t364 x3).bind fun t372 => ((cool_Clean.f k x0 x3).bind fun t375 => ((barrowref16_Same.f k t372 t375).bind fun t378 => (if t378 = true then (some (decide ((t364.length : Int) ≤ (x0.length : Int)))) else (none))))) else (none)))) else (none)))) else (none))) else (none)))
def barrowlaw16_CoolCleans.f (k : Nat) (l0 : List (S35)) (a1_0 : Int) (a1_1 : Int) (a1_2 : Int) (a1_3 : Int) (a1_4 : Int) (a1_5 : Int) (a1_6 : Bool) (l1_7 : List (S76)) (a2 : Int) (a3 : Int) : Option (Bool) := (barrowlaw16_small.f k).bind fun t361 => ((barrowlaw16_few.f k l0).bind fun t362 => (if t362 = true then ((cool_Right.f k l0).bind fun t363 => (if t363 = true then (barrowlaw16_CoolCleans.j0 k l0 a2 a3 t361 (decide (a3 < a2)) a1_0 a1_1 a1_2 a1_3 a1_4 a1_5 a1_6 l1_7) else (barrowlaw16_CoolCleans.j0 k l0 a2 a3 t361 true a1_0 a1_1 a1_2 a1_3 a1_4 a1_5 a1_6 l1_7))) else (barrowlaw16_CoolCleans.j0 k l0 a2 a3 t361 true a1_0 a1_1 a1_2 a1_3 a1_4 a1_5 a1_6 l1_7)))
theorem barrowlaw16_CoolCleans.mono_l : ∀ k, (∀ y0 y1 y2 y3 y4 y5 y6 y7 y8 y9 y10 y11 y12, LeO (barrowlaw16_CoolCleans.j0 k y0 y1 y2 y3 y4 y5 y6 y7 y8 y9 y10 y11 y12) (barrowlaw16_CoolCleans.j0 (k + 1) y0 y1 y2 y3 y4 y5 y6 y7 y8 y9 y10 y11 y12))
  | 0 => fun _ _ _ _ _ _ _ _ _ _ _ _ _ r h => by simp [barrowlaw16_CoolCleans.j0] at h
  | k + 1 => by
    have ih0 := barrowlaw16_CoolCleans.mono_l k
    · intro y0 y1 y2 y3 y4 y5 y6 y7 y8 y9 y10 y11 y12
      unfold barrowlaw16_CoolCleans.j0
      repeat' first
      | (with_reducible exact ih0 _ _ _ _ _ _ _ _ _ _ _ _ _)
      | (with_reducible exact barrowlaw16_few.mono _ _)
      | (with_reducible exact barrowlaw16_small.mono _)
      | (with_reducible exact barrowref16_Same.mono _ _ _)
      | (with_reducible exact cool_Clean.mono _ _ _)
      | (with_reducible exact cool_Ready.mono _ _ _ _ _ _ _ _ _ _ _)
      | (with_reducible exact cool_Right.mono _ _)
      | (with_reducible exact LeO.refl _)
      | (with_reducible exact LeO.none _)
      | (with_reducible refine LeO.ite ?_ ?_)
      | (with_reducible refine LeO.bind ?_ (fun _ => ?_))
      | exact ih0 _ _ _ _ _ _ _ _ _ _ _ _ _
      | exact barrowlaw16_few.mono _ _
      | exact barrowlaw16_small.mono _
      | exact barrowref16_Same.mono _ _ _
      | exact cool_Clean.mono _ _ _
      | exact cool_Ready.mono _ _ _ _ _ _ _ _ _ _ _
      | exact cool_Right.mono _ _
      | exact LeO.none _
      | refine LeO.ite ?_ ?_
      | refine LeO.bind ?_ (fun _ => ?_)
theorem barrowlaw16_CoolCleans.mono : ∀ a0 a1 a2 a3 a4 a5 a6 a7 a8 a9 a10 k, LeO (barrowlaw16_CoolCleans.f k a0 a1 a2 a3 a4 a5 a6 a7 a8 a9 a10) (barrowlaw16_CoolCleans.f (k + 1) a0 a1 a2 a3 a4 a5 a6 a7 a8 a9 a10) := by
  intro a0 a1 a2 a3 a4 a5 a6 a7 a8 a9 a10 k
  have ih0 := barrowlaw16_CoolCleans.mono_l k
  unfold barrowlaw16_CoolCleans.f
  repeat' first
      | (with_reducible exact ih0 _ _ _ _ _ _ _ _ _ _ _ _ _)
      | (with_reducible exact barrowlaw16_few.mono _ _)
      | (with_reducible exact barrowlaw16_small.mono _)
      | (with_reducible exact barrowref16_Same.mono _ _ _)
      | (with_reducible exact cool_Clean.mono _ _ _)
      | (with_reducible exact cool_Ready.mono _ _ _ _ _ _ _ _ _ _ _)
      | (with_reducible exact cool_Right.mono _ _)
      | (with_reducible exact LeO.refl _)
      | (with_reducible exact LeO.none _)
      | (with_reducible refine LeO.ite ?_ ?_)
      | (with_reducible refine LeO.bind ?_ (fun _ => ?_))
      | exact ih0 _ _ _ _ _ _ _ _ _ _ _ _ _
      | exact barrowlaw16_few.mono _ _
      | exact barrowlaw16_small.mono _
      | exact barrowref16_Same.mono _ _ _
      | exact cool_Clean.mono _ _ _
      | exact cool_Ready.mono _ _ _ _ _ _ _ _ _ _ _
      | exact cool_Right.mono _ _
      | exact LeO.none _
      | refine LeO.ite ?_ ?_
      | refine LeO.bind ?_ (fun _ => ?_)
def barrowlaw16_CoolCleans.T6 : Bool × List (List Nat × List Nat) := (true, [([], []), ([0], [0]), ([1], [1]), ([2, 1, 1], [1, 2]), ([1, 3], [1, 3]), ([4, 3], [4]), ([5], [5]), ([5], [5]), ([5], [5]), ([6, 7, 8, 5, 5], [5, 6, 7, 8]), ([5], [5]), ([5], [5]), ([5], [5]), ([10, 11, 12, 9, 5], [5, 10, 11, 12]), ([9, 13, 5], [5, 9, 13]), ([5, 14], [5, 14]), ([15, 13], [15]), ([16], [16]), ([16], [16]), ([16], [16]), ([17, 18, 19, 16, 16], [16, 17, 18, 19]), ([16], [16]), ([16], [16]), ([16], [16]), ([21, 22, 23, 20, 16], [16, 21, 22, 23]), ([20, 24, 16], [16, 20, 24]), ([16, 25], [16, 25]), ([26, 24], [26]), ([27], [27]), ([27], [27]), ([28, 29, 27, 27], [27, 28, 29]), ([27], [27]), ([27], [27]), ([31, 32, 30, 27], [27, 31, 32]), ([30, 33, 33, 27], [27, 30, 33]), ([27, 34], [27, 34]), ([35, 34], [35]), ([36], [36]), ([37, 36], [36, 37]), ([36], [36]), ([39, 36], [36, 39]), ([38, 40, 36], [36, 38, 40]), ([36, 41], [36, 41]), ([42, 36, 0, 1, 2, 3, 4, 5, 6, 7, 8, 9, 10, 11, 12, 13, 14, 15, 16, 17, 18, 19, 20, 21, 22, 23, 24, 25, 26, 27, 28, 29, 30, 31, 32, 33, 34, 35, 36, 37, 38, 39, 40, 41, 42], [42])])
def barrowlaw16_CoolCleans.B6 : List Nat := [0, 1, 3, 7, 15, 31, 63, 63, 63, 511, 63, 63, 63, 8191, 16383, 32767, 65535, 131071, 131071, 131071, 1048575, 131071, 131071, 131071, 16777215, 33554431, 67108863, 134217727, 268435455, 268435455, 1073741823, 268435455, 268435455, 8589934591, 17179869183, 34359738367, 68719476735, 137438953471, 274877906943, 137438953471, 687194767359, 2199023255551, 4398046511103, 8796093022207]
theorem barrowlaw16_CoolCleans.tab6 : rtab .any (opsOf Try.f6 6) = barrowlaw16_CoolCleans.T6 := by kernel_rfl
theorem barrowlaw16_CoolCleans.bits6 : waitsOk barrowlaw16_CoolCleans.T6.2 barrowlaw16_CoolCleans.B6 = true := by kernel_rfl
set_option maxHeartbeats 8000000 in
set_option maxRecDepth 100000 in
theorem barrowlaw16_CoolCleans.calls (k : Nat) (A0 : Option Addr) (c0 : Nat) (l0 : List (S35)) (a1_0 : Int) (a1_1 : Int) (a1_2 : Int) (a1_3 : Int) (a1_4 : Int) (a1_5 : Int) (a1_6 : Bool) (A1_7 : Option Addr) (c1_7 : Nat) (l1_7 : List (S76)) (a2 : Int) (a3 : Int) (r : Bool) (w : World) (hr0 : Kd.C k35 w A0 l0.length l0) (hc0 : l0.length ≤ c0) (hr1_7 : Kd.C k76 w A1_7 l1_7.length l1_7) (hc1_7 : l1_7.length ≤ c1_7) (h : barrowlaw16_CoolCleans.f k l0 a1_0 a1_1 a1_2 a1_3 a1_4 a1_5 a1_6 l1_7 a2 a3 = some r) :
    Calls Try.prog 6 #[.slice A0 l0.length c0, .agg #[.int .i64 a1_0, .int .i64 a1_1, .int .i64 a1_2, .int .i64 a1_3, .int .i64 a1_4, .int .i64 a1_5, .bool a1_6, .slice A1_7 l1_7.length c1_7], .int .i64 a2, .int .i64 a3] w fun e w' => e = .returned (.bool r) ∧ Below w.heap.size w w' := by
  have hu25 := Try.underlying25
  have HR0 := Aside0.mk hr0
  have HC0 := Aside0.mk hc0
  clear hr0 hc0
  have HR1_7 := Aside0.mk hr1_7
  have HC1_7 := Aside0.mk hc1_7
  clear hr1_7 hc1_7
  have HB := Aside0.mk (Below.refl w.heap.size w)
  have H : ((barrowlaw16_small.f k).bind fun t361 => ((barrowlaw16_few.f k l0).bind fun t362 => (if t362 = true then ((cool_Right.f k l0).bind fun t363 => (if t363 = true then (barrowlaw16_CoolCleans.j0 k l0 a2 a3 t361 (decide (a3 < a2)) a1_0 a1_1 a1_2 a1_3 a1_4 a1_5 a1_6 l1_7) else (barrowlaw16_CoolCleans.j0 k l0 a2 a3 t361 true a1_0 a1_1 a1_2 a1_3 a1_4 a1_5 a1_6 l1_7))) else (barrowlaw16_CoolCleans.j0 k l0 a2 a3 t361 true a1_0 a1_1 a1_2 a1_3 a1_4 a1_5 a1_6 l1_7)))) = some r := h
  clear h
  replace H := Option.bind_eq_some_iff.mp H
  obtain ⟨t361, A50, H⟩ := H
  replace H : ((barrowlaw16_few.f k l0).bind fun t362 => (if t362 = true then ((cool_Right.f k l0).bind fun t363 => (if t363 = true then (barrowlaw16_CoolCleans.j0 k l0 a2 a3 t361 (decide (a3 < a2)) a1_0 a1_1 a1_2 a1_3 a1_4 a1_5 a1_6 l1_7) else (barrowlaw16_CoolCleans.j0 k l0 a2 a3 t361 true a1_0 a1_1 a1_2 a1_3 a1_4 a1_5 a1_6 l1_7))) else (barrowlaw16_CoolCleans.j0 k l0 a2 a3 t361 true a1_0 a1_1 a1_2 a1_3 a1_4 a1_5 a1_6 l1_7))) = some r := H
  have A5 := Aside0.mk A50
  clear A50
  replace H := Option.bind_eq_some_iff.mp H
  obtain ⟨t362, A60, H⟩ := H
  replace H : (if t362 = true then ((cool_Right.f k l0).bind fun t363 => (if t363 = true then (barrowlaw16_CoolCleans.j0 k l0 a2 a3 t361 (decide (a3 < a2)) a1_0 a1_1 a1_2 a1_3 a1_4 a1_5 a1_6 l1_7) else (barrowlaw16_CoolCleans.j0 k l0 a2 a3 t361 true a1_0 a1_1 a1_2 a1_3 a1_4 a1_5 a1_6 l1_7))) else (barrowlaw16_CoolCleans.j0 k l0 a2 a3 t361 true a1_0 a1_1 a1_2 a1_3 a1_4 a1_5 a1_6 l1_7)) = some r := H
  have A6 := Aside0.mk A60
  clear A60
  have HC7 := Aside0.mk H
  clear H
  go_enter Try.func6, Try.ntmps6
  go_upto_region 3 with (first | ((with_reducible refine gate_dst (N := 5) rfl ?_); (try (refine gate_guard (by rfl) ?_; dsimp only)); refine box_event ?hg (N := 5) ?hd (cs := #[.int .i64 a1_0, .int .i64 a1_1, .int .i64 a1_2, .int .i64 a1_3, .int .i64 a1_4, .int .i64 a1_5, .bool a1_6, .slice A1_7 l1_7.length c1_7]) (t := 25) ?hr ?_; (case hd => rfl); (case hg => rfl); (case hr => first | (go_simp; done) | (go_simp; rfl)); intro gb360 hg w8 hbox hb; have n0_ := Aside0.mk (below_step (by repeat (first | (with_reducible first | exact HB.out | apply below_alloc | apply pw_below_drewN | apply below_drew1) | exact HB.out)) hb); have n1_ := Aside0.mk (hbox); have n2_ := Aside0.mk ((by rw [hg]; exact (below_size (by repeat (first | (with_reducible first | exact HB.out | apply below_alloc | apply pw_below_drewN | apply below_drew1) | exact HB.out))) : w.heap.size ≤ gb360)); have n3_ := Aside0.mk ((by rw [hg]; exact (below_size (by repeat (first | (with_reducible first | exact HB.out | apply below_alloc | apply pw_below_drewN | apply below_drew1) | exact HB.out))) : w.heap.size ≤ gb360)); clear HB; have HB := n0_; have BK360 := n1_; have GW360 := n2_; have GE360 := n3_; clear n0_ n1_ n2_ n3_; clear hb hbox hg) | ((with_reducible refine gate_callee (f := 7) rfl ?_); refine goesL_ (some 12) rfl rfl Try.func7 (by kernel_rfl) rfl #[] rfl (by (try simp only [List.map_toArray, List.map_cons, List.map_nil]); first | done | rfl | (simp only [List.length_drop, List.length_take]; rfl)) ?_; (with_reducible refine (barrowlaw16_small.calls k  t361 _ A5.out).mono ?_); rintro e w9 ⟨rfl, hb⟩; refine ⟨_, rfl, ?_⟩; have n0_ := Aside0.mk (blk_below (g := gb360) (o := .cells #[.int .i64 a1_0, .int .i64 a1_1, .int .i64 a1_2, .int .i64 a1_3, .int .i64 a1_4, .int .i64 a1_5, .bool a1_6, .slice A1_7 l1_7.length c1_7] 25 (0, 0)) (by (with_reducible repeat (first | refine blk_drewN ?_ _ | refine blk_drew ?_ | refine blk_alloc ?_ _)); exact BK360.out) hb); have n1_ := Aside0.mk (below_step (by repeat (first | (with_reducible first | exact HB.out | apply below_alloc | apply pw_below_drewN | apply below_drew1 | refine below_set ?_ GE360.out) | exact HB.out)) hb); clear BK360; clear HB; have BK360 := n0_; have HB := n1_; clear n0_ n1_; (try clear hb); (try clear hb2); (try clear hk); (try clear hi)) | ((with_reducible refine gate_callee (f := 8) rfl ?_); refine goesL_ (some 14) rfl rfl Try.func8 (by kernel_rfl) rfl #[.slice A0 l0.length c0] rfl (by (try simp only [List.map_toArray, List.map_cons, List.map_nil]); first | done | rfl | (simp only [List.length_drop, List.length_take]; rfl)) ?_; (with_reducible refine (barrowlaw16_few.calls k _ _ l0 t362 _ ?side1 ?side2 A6.out).mono ?_); (case side1 => repeat (first | exact (Kd.C_below HR0.out HB.out) | (with_reducible refine Kd.C_alloc ?_ _) | (with_reducible refine Kd.C_drewN ?_ _) | (with_reducible refine Kd.C_drew ?_))); (case side2 => exact HC0.out); rintro e w' ⟨rfl, ⟨nd, rfl⟩⟩; refine ⟨_, rfl, ?_⟩))
  (try simp only [Act.put, sT, sZ, sS])
  go_cut [26, 9, 10] (fun v26 v9 v10 wc => ∃ (kq : Nat) (x26_6 : Bool), v26 = .bool x26_6 ∧ v9 = .bool t361 ∧ v10 = .bool t362 ∧ Aside0 (barrowlaw16_CoolCleans.j0 kq l0 a2 a3 t361 x26_6 a1_0 a1_1 a1_2 a1_3 a1_4 a1_5 a1_6 l1_7 = some r) ∧ Aside0 (kq ≤ k) ∧ Aside0 (wc.heap[gb360]? = some (.cells #[.int .i64 a1_0, .int .i64 a1_1, .int .i64 a1_2, .int .i64 a1_3, .int .i64 a1_4, .int .i64 a1_5, .bool a1_6, (.slice A1_7 l1_7.length c1_7)] 25 (0, 0))) ∧ Aside0 (Below w.heap.size w wc))
  case first =>
    have H := HC7.out
    clear HC7
    by_cases c10 : t362 = true
    · subst c10
      have H1 : ((cool_Right.f k l0).bind fun t363 => (if t363 = true then (barrowlaw16_CoolCleans.j0 k l0 a2 a3 t361 (decide (a3 < a2)) a1_0 a1_1 a1_2 a1_3 a1_4 a1_5 a1_6 l1_7) else (barrowlaw16_CoolCleans.j0 k l0 a2 a3 t361 true a1_0 a1_1 a1_2 a1_3 a1_4 a1_5 a1_6 l1_7))) = some r := by rw [if_pos rfl] at H; exact H
      clear H
      have H := H1
      clear H1
      replace H := Option.bind_eq_some_iff.mp H
      obtain ⟨t363, A110, H⟩ := H
      replace H : (if t363 = true then (barrowlaw16_CoolCleans.j0 k l0 a2 a3 t361 (decide (a3 < a2)) a1_0 a1_1 a1_2 a1_3 a1_4 a1_5 a1_6 l1_7) else (barrowlaw16_CoolCleans.j0 k l0 a2 a3 t361 true a1_0 a1_1 a1_2 a1_3 a1_4 a1_5 a1_6 l1_7)) = some r := H
      have A11 := Aside0.mk A110
      clear A110
      by_cases c12 : t363 = true
      · subst c12
        have H1 : (barrowlaw16_CoolCleans.j0 k l0 a2 a3 t361 (decide (a3 < a2)) a1_0 a1_1 a1_2 a1_3 a1_4 a1_5 a1_6 l1_7) = some r := by rw [if_pos rfl] at H; exact H
        clear H
        have H := H1
        clear H1
        have H' := Aside0.mk H
        clear H
        go_wp2_with (first | (go_at_call 17; (with_reducible refine (cool_Right.calls k _ _ l0 true _ ?side1 ?side2 A11.out).mono ?_); (case side1 => repeat (first | exact (Kd.C_below HR0.out HB.out) | (with_reducible refine Kd.C_alloc ?_ _) | (with_reducible refine Kd.C_drewN ?_ _) | (with_reducible refine Kd.C_drew ?_))); (case side2 => exact HC0.out); rintro e w13 ⟨rfl, hb⟩; have n0_ := Aside0.mk (blk_below (g := gb360) (o := .cells #[.int .i64 a1_0, .int .i64 a1_1, .int .i64 a1_2, .int .i64 a1_3, .int .i64 a1_4, .int .i64 a1_5, .bool a1_6, .slice A1_7 l1_7.length c1_7] 25 (0, 0)) (by (with_reducible repeat (first | refine blk_drewN ?_ _ | refine blk_drew ?_ | refine blk_alloc ?_ _)); exact BK360.out) hb); have n1_ := Aside0.mk (below_step (by repeat (first | (with_reducible first | exact HB.out | apply below_alloc | apply pw_below_drewN | apply below_drew1 | refine below_set ?_ GE360.out) | exact HB.out)) hb); clear BK360; clear HB; have BK360 := n0_; have HB := n1_; clear n0_ n1_; (try clear hb); (try clear hb2); (try clear hk); (try clear hi)))
        go_meet
        case rel => exact ⟨_, (decide (a3 < a2)), (by first | rfl | (simp; done) | (simp [*]; done)), (by first | rfl | (simp; done) | (simp [*]; done)), (by first | rfl | (simp; done) | (simp [*]; done)), H', ⟨by first | omega | exact Nat.le_refl _⟩, ⟨by (with_reducible repeat (first | refine blk_drewN ?_ _ | refine blk_drew ?_ | refine blk_alloc ?_ _)); exact BK360.out⟩, ⟨by repeat (first | (with_reducible first | exact HB.out | apply below_alloc | apply pw_below_drewN | apply below_drew1 | refine below_set ?_ GE360.out) | exact HB.out)⟩⟩
      · replace c12 := Bool.eq_false_iff.mpr c12
        subst c12
        have H1 : (barrowlaw16_CoolCleans.j0 k l0 a2 a3 t361 true a1_0 a1_1 a1_2 a1_3 a1_4 a1_5 a1_6 l1_7) = some r := by rw [if_neg (show ¬ (false = true) by decide)] at H; exact H
        clear H
        have H := H1
        clear H1
        have H' := Aside0.mk H
        clear H
        go_wp2_with (first | (go_at_call 17; (with_reducible refine (cool_Right.calls k _ _ l0 false _ ?side1 ?side2 A11.out).mono ?_); (case side1 => repeat (first | exact (Kd.C_below HR0.out HB.out) | (with_reducible refine Kd.C_alloc ?_ _) | (with_reducible refine Kd.C_drewN ?_ _) | (with_reducible refine Kd.C_drew ?_))); (case side2 => exact HC0.out); rintro e w14 ⟨rfl, hb⟩; have n0_ := Aside0.mk (blk_below (g := gb360) (o := .cells #[.int .i64 a1_0, .int .i64 a1_1, .int .i64 a1_2, .int .i64 a1_3, .int .i64 a1_4, .int .i64 a1_5, .bool a1_6, .slice A1_7 l1_7.length c1_7] 25 (0, 0)) (by (with_reducible repeat (first | refine blk_drewN ?_ _ | refine blk_drew ?_ | refine blk_alloc ?_ _)); exact BK360.out) hb); have n1_ := Aside0.mk (below_step (by repeat (first | (with_reducible first | exact HB.out | apply below_alloc | apply pw_below_drewN | apply below_drew1 | refine below_set ?_ GE360.out) | exact HB.out)) hb); clear BK360; clear HB; have BK360 := n0_; have HB := n1_; clear n0_ n1_; (try clear hb); (try clear hb2); (try clear hk); (try clear hi)))
        go_meet
        case rel => exact ⟨_, (true), (by first | rfl | (simp; done) | (simp [*]; done)), (by first | rfl | (simp; done) | (simp [*]; done)), (by first | rfl | (simp; done) | (simp [*]; done)), H', ⟨by first | omega | exact Nat.le_refl _⟩, ⟨by (with_reducible repeat (first | refine blk_drewN ?_ _ | refine blk_drew ?_ | refine blk_alloc ?_ _)); exact BK360.out⟩, ⟨by repeat (first | (with_reducible first | exact HB.out | apply below_alloc | apply pw_below_drewN | apply below_drew1 | refine below_set ?_ GE360.out) | exact HB.out)⟩⟩
    · replace c10 := Bool.eq_false_iff.mpr c10
      subst c10
      have H1 : (barrowlaw16_CoolCleans.j0 k l0 a2 a3 t361 true a1_0 a1_1 a1_2 a1_3 a1_4 a1_5 a1_6 l1_7) = some r := by rw [if_neg (show ¬ (false = true) by decide)] at H; exact H
      clear H
      have H := H1
      clear H1
      have H' := Aside0.mk H
      clear H
      go_wp2
      go_meet
      case rel => exact ⟨_, (true), (by first | rfl | (simp; done) | (simp [*]; done)), (by first | rfl | (simp; done) | (simp [*]; done)), (by first | rfl | (simp; done) | (simp [*]; done)), H', ⟨by first | omega | exact Nat.le_refl _⟩, ⟨by (with_reducible repeat (first | refine blk_drewN ?_ _ | refine blk_drew ?_ | refine blk_alloc ?_ _)); exact BK360.out⟩, ⟨by repeat (first | (with_reducible first | exact HB.out | apply below_alloc | apply pw_below_drewN | apply below_drew1 | refine below_set ?_ GE360.out) | exact HB.out)⟩⟩
  case rest =>
    clear HC7
    try clear c1
    try clear p2
    try clear c6
    try clear c7
    try clear c8
    try clear c10
    try clear c12
    obtain ⟨kq, x26_6, rfl, rfl, rfl, HA, HJ6, BK360, HB⟩ := hcut
    cases kq with
    | zero => exact absurd HA.out (by simp [barrowlaw16_CoolCleans.j0])
    | succ kj6 =>
      have H := HA.out
      clear HA
      simp only [barrowlaw16_CoolCleans.j0] at H
      by_cases c15 : x26_6 = true
      · subst c15
        have H1 : (some t361) = some r := by rw [if_pos rfl] at H; exact H
        clear H
        have H := H1
        clear H1
        obtain rfl := Option.some.inj H
        go_wp2
        go_ret
        exact ⟨by first | rfl | (simp [errW_none, errW_some] <;> rfl) | (simp [*, errW_none, errW_some] <;> rfl), by repeat (first | (with_reducible first | exact HB.out | apply below_alloc | apply pw_below_drewN | apply below_drew1 | refine below_set ?_ GE360.out) | exact HB.out)⟩
      · replace c15 := Bool.eq_false_iff.mpr c15
        subst c15
        have H1 : ((cool_Clean.f kj6 l0 a2).bind fun t364 => (if t361 = true then ((cool_Right.f kj6 t364).bind fun t367 => (if t367 = true then ((cool_Ready.f kj6 t364 a1_0 a1_1 a1_2 a1_3 a1_4 a1_5 a1_6 l1_7 a2).bind fun t368 => ((cool_Ready.f kj6 l0 a1_0 a1_1 a1_2 a1_3 a1_4 a1_5 a1_6 l1_7 a2).bind fun t369 => (if t368 = t369 then ((cool_Ready.f kj6 t364 a1_0 a1_1 a1_2 a1_3 a1_4 a1_5 a1_6 l1_7 a3).bind fun t370 => ((cool_Ready.f kj6 l0 a1_0 a1_1 a1_2 a1_3 a1_4 a1_5 a1_6 l1_7 a3).bind fun t371 => (if t370 = t371 then ((cool_Clean.f kj6 t364 a3).bind fun t372 => ((cool_Clean.f kj6 l0 a3).bind fun t375 => ((barrowref16_Same.f kj6 t372 t375).bind fun t378 => (if t378 = true then (some (decide ((t364.length : Int) ≤ (l0.length : Int)))) else (none))))) else (none)))) else (none)))) else (none))) else (none))) = some r := by rw [if_neg (show ¬ (false = true) by decide)] at H; exact H
        clear H
        have H := H1
        clear H1
        replace H := Option.bind_eq_some_iff.mp H
        obtain ⟨t364, A160, H⟩ := H
        replace H : (if t361 = true then ((cool_Right.f kj6 t364).bind fun t367 => (if t367 = true then ((cool_Ready.f kj6 t364 a1_0 a1_1 a1_2 a1_3 a1_4 a1_5 a1_6 l1_7 a2).bind fun t368 => ((cool_Ready.f kj6 l0 a1_0 a1_1 a1_2 a1_3 a1_4 a1_5 a1_6 l1_7 a2).bind fun t369 => (if t368 = t369 then ((cool_Ready.f kj6 t364 a1_0 a1_1 a1_2 a1_3 a1_4 a1_5 a1_6 l1_7 a3).bind fun t370 => ((cool_Ready.f kj6 l0 a1_0 a1_1 a1_2 a1_3 a1_4 a1_5 a1_6 l1_7 a3).bind fun t371 => (if t370 = t371 then ((cool_Clean.f kj6 t364 a3).bind fun t372 => ((cool_Clean.f kj6 l0 a3).bind fun t375 => ((barrowref16_Same.f kj6 t372 t375).bind fun t378 => (if t378 = true then (some (decide ((t364.length : Int) ≤ (l0.length : Int)))) else (none))))) else (none)))) else (none)))) else (none))) else (none)) = some r := H
        have A16 := Aside0.mk A160
        clear A160
        by_cases c17 : t361 = true
        · subst c17
          have H1 : ((cool_Right.f kj6 t364).bind fun t367 => (if t367 = true then ((cool_Ready.f kj6 t364 a1_0 a1_1 a1_2 a1_3 a1_4 a1_5 a1_6 l1_7 a2).bind fun t368 => ((cool_Ready.f kj6 l0 a1_0 a1_1 a1_2 a1_3 a1_4 a1_5 a1_6 l1_7 a2).bind fun t369 => (if t368 = t369 then ((cool_Ready.f kj6 t364 a1_0 a1_1 a1_2 a1_3 a1_4 a1_5 a1_6 l1_7 a3).bind fun t370 => ((cool_Ready.f kj6 l0 a1_0 a1_1 a1_2 a1_3 a1_4 a1_5 a1_6 l1_7 a3).bind fun t371 => (if t370 = t371 then ((cool_Clean.f kj6 t364 a3).bind fun t372 => ((cool_Clean.f kj6 l0 a3).bind fun t375 => ((barrowref16_Same.f kj6 t372 t375).bind fun t378 => (if t378 = true then (some (decide ((t364.length : Int) ≤ (l0.length : Int)))) else (none))))) else (none)))) else (none)))) else (none))) = some r := by rw [if_pos rfl] at H; exact H
          clear H
          have H := H1
          clear H1
          replace H := Option.bind_eq_some_iff.mp H
          obtain ⟨t367, A180, H⟩ := H
          replace H : (if t367 = true then ((cool_Ready.f kj6 t364 a1_0 a1_1 a1_2 a1_3 a1_4 a1_5 a1_6 l1_7 a2).bind fun t368 => ((cool_Ready.f kj6 l0 a1_0 a1_1 a1_2 a1_3 a1_4 a1_5 a1_6 l1_7 a2).bind fun t369 => (if t368 = t369 then ((cool_Ready.f kj6 t364 a1_0 a1_1 a1_2 a1_3 a1_4 a1_5 a1_6 l1_7 a3).bind fun t370 => ((cool_Ready.f kj6 l0 a1_0 a1_1 a1_2 a1_3 a1_4 a1_5 a1_6 l1_7 a3).bind fun t371 => (if t370 = t371 then ((cool_Clean.f kj6 t364 a3).bind fun t372 => ((cool_Clean.f kj6 l0 a3).bind fun t375 => ((barrowref16_Same.f kj6 t372 t375).bind fun t378 => (if t378 = true then (some (decide ((t364.length : Int) ≤ (l0.length : Int)))) else (none))))) else (none)))) else (none)))) else (none)) = some r := H
          have A18 := Aside0.mk A180
          clear A180
          by_cases c19 : t367 = true
          · subst c19
            have H1 : ((cool_Ready.f kj6 t364 a1_0 a1_1 a1_2 a1_3 a1_4 a1_5 a1_6 l1_7 a2).bind fun t368 => ((cool_Ready.f kj6 l0 a1_0 a1_1 a1_2 a1_3 a1_4 a1_5 a1_6 l1_7 a2).bind fun t369 => (if t368 = t369 then ((cool_Ready.f kj6 t364 a1_0 a1_1 a1_2 a1_3 a1_4 a1_5 a1_6 l1_7 a3).bind fun t370 => ((cool_Ready.f kj6 l0 a1_0 a1_1 a1_2 a1_3 a1_4 a1_5 a1_6 l1_7 a3).bind fun t371 => (if t370 = t371 then ((cool_Clean.f kj6 t364 a3).bind fun t372 => ((cool_Clean.f kj6 l0 a3).bind fun t375 => ((barrowref16_Same.f kj6 t372 t375).bind fun t378 => (if t378 = true then (some (decide ((t364.length : Int) ≤ (l0.length : Int)))) else (none))))) else (none)))) else (none)))) = some r := by rw [if_pos rfl] at H; exact H
            clear H
            have H := H1
            clear H1
            replace H := Option.bind_eq_some_iff.mp H
            obtain ⟨t368, A200, H⟩ := H
            replace H : ((cool_Ready.f kj6 l0 a1_0 a1_1 a1_2 a1_3 a1_4 a1_5 a1_6 l1_7 a2).bind fun t369 => (if t368 = t369 then ((cool_Ready.f kj6 t364 a1_0 a1_1 a1_2 a1_3 a1_4 a1_5 a1_6 l1_7 a3).bind fun t370 => ((cool_Ready.f kj6 l0 a1_0 a1_1 a1_2 a1_3 a1_4 a1_5 a1_6 l1_7 a3).bind fun t371 => (if t370 = t371 then ((cool_Clean.f kj6 t364 a3).bind fun t372 => ((cool_Clean.f kj6 l0 a3).bind fun t375 => ((barrowref16_Same.f kj6 t372 t375).bind fun t378 => (if t378 = true then (some (decide ((t364.length : Int) ≤ (l0.length : Int)))) else (none))))) else (none)))) else (none))) = some r := H
            have A20 := Aside0.mk A200
            clear A200
            replace H := Option.bind_eq_some_iff.mp H
            obtain ⟨t369, A210, H⟩ := H
            replace H : (if t368 = t369 then ((cool_Ready.f kj6 t364 a1_0 a1_1 a1_2 a1_3 a1_4 a1_5 a1_6 l1_7 a3).bind fun t370 => ((cool_Ready.f kj6 l0 a1_0 a1_1 a1_2 a1_3 a1_4 a1_5 a1_6 l1_7 a3).bind fun t371 => (if t370 = t371 then ((cool_Clean.f kj6 t364 a3).bind fun t372 => ((cool_Clean.f kj6 l0 a3).bind fun t375 => ((barrowref16_Same.f kj6 t372 t375).bind fun t378 => (if t378 = true then (some (decide ((t364.length : Int) ≤ (l0.length : Int)))) else (none))))) else (none)))) else (none)) = some r := H
            have A21 := Aside0.mk A210
            clear A210
            by_cases c22 : t368 = t369
            · rw [if_pos c22] at H
              have c22b0 : (t368 == t369) = true := beq_iff_eq.mpr c22
              have c22b1 : (t368 != t369) = false := bne_eq_false_iff_eq.mpr c22
              clear c22
              replace H := Option.bind_eq_some_iff.mp H
              obtain ⟨t370, A230, H⟩ := H
              replace H : ((cool_Ready.f kj6 l0 a1_0 a1_1 a1_2 a1_3 a1_4 a1_5 a1_6 l1_7 a3).bind fun t371 => (if t370 = t371 then ((cool_Clean.f kj6 t364 a3).bind fun t372 => ((cool_Clean.f kj6 l0 a3).bind fun t375 => ((barrowref16_Same.f kj6 t372 t375).bind fun t378 => (if t378 = true then (some (decide ((t364.length : Int) ≤ (l0.length : Int)))) else (none))))) else (none))) = some r := H
              have A23 := Aside0.mk A230
              clear A230
              replace H := Option.bind_eq_some_iff.mp H
              obtain ⟨t371, A240, H⟩ := H
              replace H : (if t370 = t371 then ((cool_Clean.f kj6 t364 a3).bind fun t372 => ((cool_Clean.f kj6 l0 a3).bind fun t375 => ((barrowref16_Same.f kj6 t372 t375).bind fun t378 => (if t378 = true then (some (decide ((t364.length : Int) ≤ (l0.length : Int)))) else (none))))) else (none)) = some r := H
              have A24 := Aside0.mk A240
              clear A240
              by_cases c25 : t370 = t371
              · rw [if_pos c25] at H
                have c25b0 : (t370 == t371) = true := beq_iff_eq.mpr c25
                have c25b1 : (t370 != t371) = false := bne_eq_false_iff_eq.mpr c25
                clear c25
                replace H := Option.bind_eq_some_iff.mp H
                obtain ⟨t372, A260, H⟩ := H
                replace H : ((cool_Clean.f kj6 l0 a3).bind fun t375 => ((barrowref16_Same.f kj6 t372 t375).bind fun t378 => (if t378 = true then (some (decide ((t364.length : Int) ≤ (l0.length : Int)))) else (none)))) = some r := H
                have A26 := Aside0.mk A260
                clear A260
                replace H := Option.bind_eq_some_iff.mp H
                obtain ⟨t375, A270, H⟩ := H
                replace H : ((barrowref16_Same.f kj6 t372 t375).bind fun t378 => (if t378 = true then (some (decide ((t364.length : Int) ≤ (l0.length : Int)))) else (none))) = some r := H
                have A27 := Aside0.mk A270
                clear A270
                replace H := Option.bind_eq_some_iff.mp H
                obtain ⟨t378, A280, H⟩ := H
                replace H : (if t378 = true then (some (decide ((t364.length : Int) ≤ (l0.length : Int)))) else (none)) = some r := H
                have A28 := Aside0.mk A280
                clear A280
                by_cases c29 : t378 = true
                · subst c29
                  have H1 : (some (decide ((t364.length : Int) ≤ (l0.length : Int)))) = some r := by rw [if_pos rfl] at H; exact H
                  clear H
                  have H := H1
                  clear H1
                  obtain rfl := Option.some.inj H
                  try go_wp2_with (first | ((with_reducible refine gate_callee (f := 12) rfl ?_); refine goesL_ (some 30) rfl rfl Try.func12 (by kernel_rfl) rfl #[.slice A0 l0.length c0, .int .i64 a2] rfl (by (try simp only [List.map_toArray, List.map_cons, List.map_nil]); first | done | rfl | (simp only [List.length_drop, List.length_take]; rfl)) ?_; (with_reducible refine (cool_Clean.calls kj6 _ _ l0 a2 t364 _ ?side1 ?side2 A16.out).mono ?_); (case side1 => repeat (first | exact (Kd.C_below HR0.out HB.out) | (with_reducible refine Kd.C_alloc ?_ _) | (with_reducible refine Kd.C_drewN ?_ _) | (with_reducible refine Kd.C_drew ?_))); (case side2 => exact HC0.out); rintro e w30 ⟨v365, rfl, ho0, hb⟩; refine ⟨_, rfl, ?_⟩; have n0_ := Aside0.mk (Kd.S_lower ho0 (below_size (by repeat (first | (with_reducible first | exact HB.out | apply below_alloc | apply pw_below_drewN | apply below_drew1 | refine below_set ?_ GE360.out) | exact HB.out)))); have n1_ := Aside0.mk (blk_below (g := gb360) (o := .cells #[.int .i64 a1_0, .int .i64 a1_1, .int .i64 a1_2, .int .i64 a1_3, .int .i64 a1_4, .int .i64 a1_5, .bool a1_6, .slice A1_7 l1_7.length c1_7] 25 (0, 0)) (by (with_reducible repeat (first | refine blk_drewN ?_ _ | refine blk_drew ?_ | refine blk_alloc ?_ _)); exact BK360.out) hb); have n2_ := Aside0.mk (below_step (by repeat (first | (with_reducible first | exact HB.out | apply below_alloc | apply pw_below_drewN | apply below_drew1 | refine below_set ?_ GE360.out) | exact HB.out)) hb); clear BK360; clear HB; have HO366 := n0_; have BK360 := n1_; have HB := n2_; clear n0_ n1_ n2_; (try clear hb); (try clear hb2); (try clear hk); (try clear hi); (try clear ho0)))
                  have n0_ := Aside0.mk (Kd.S_drew HO366.out)
                  have n1_ := Aside0.mk (blk_drew BK360.out)
                  have n2_ := Aside0.mk (below_drew1 HB.out)
                  clear HO366
                  clear BK360
                  clear HB
                  have HO366 := n0_
                  have BK360 := n1_
                  have HB := n2_
                  clear n0_ n1_ n2_
                  obtain ⟨Ao32, co32, eo32⟩ := Kd.S_slice HO366.out
                  (first | subst eo32 | (injection eo32 with f1_ f2_ f3_; have f4_ := f1_.symm; have f5_ := f3_.symm; clear f1_ f2_ f3_; subst f4_; subst f5_))
                  refine start_ (n := 44) (S := fun w' => w'.cell? ⟨gb360, 0, none⟩ = some (.int .i64 a1_0) ∧ w'.cell? ⟨gb360, 1, none⟩ = some (.int .i64 a1_1) ∧ w'.cell? ⟨gb360, 2, none⟩ = some (.int .i64 a1_2) ∧ w'.cell? ⟨gb360, 3, none⟩ = some (.int .i64 a1_3) ∧ w'.cell? ⟨gb360, 4, none⟩ = some (.int .i64 a1_4) ∧ w'.cell? ⟨gb360, 5, none⟩ = some (.int .i64 a1_5) ∧ w'.cell? ⟨gb360, 6, none⟩ = some (.bool a1_6) ∧ w'.cell? ⟨gb360, 7, none⟩ = some (.slice A1_7 l1_7.length c1_7)) (ds := []) #[false, false, false, false, false, false, false, false, false, false, false, false, false, false, false, false, false, false, false, false, false, false, false, false, false, false, false, false, false, false, false, false, false, false, false, false, false, false, false, false, false, false, false, false] (by kernel_rfl) rfl rfl ⟨(blk_cell BK360.out 0).trans rfl, (blk_cell BK360.out 1).trans rfl, (blk_cell BK360.out 2).trans rfl, (blk_cell BK360.out 3).trans rfl, (blk_cell BK360.out 4).trans rfl, (blk_cell BK360.out 5).trans rfl, (blk_cell BK360.out 6).trans rfl, (blk_cell BK360.out 7).trans rfl⟩ (fun hHeld => ?_); refine with_tabW barrowlaw16_CoolCleans.tab6 barrowlaw16_CoolCleans.bits6 (fun HT_ HW_ => ?_)
                  generalize w30.drew = w31 at HO366 BK360 HB hHeld ⊢
                  refine pure_ (i := 0) (N := some 31) (v := ?_) (a' := ?_) #[true, false, false, false, false, false, false, false, false, false, false, false, false, false, false, false, false, false, false, false, false, false, false, false, false, false, false, false, false, false, false, false, false, false, false, false, false, false, false, false, false, false, false, false] rfl rfl (any_of HT_.out (by kernel_rfl)) (fun _ _ _ h => h) (Or.inl ⟨by rfl, ?_⟩) ?_ ?_; rotate_left; · (intro w'; go_simp; with_reducible rfl)
                  rotate_left; · (simp only [Act.put, sT, sZ, sS, i64_w, i32_w]; rfl)
                  refine pure_ (i := 1) (N := some 32) (v := ?_) (a' := ?_) #[true, true, false, false, false, false, false, false, false, false, false, false, false, false, false, false, false, false, false, false, false, false, false, false, false, false, false, false, false, false, false, false, false, false, false, false, false, false, false, false, false, false, false, false] rfl rfl (any_of HT_.out (by kernel_rfl)) (fun _ _ _ h => h) (Or.inl ⟨by rfl, ?_⟩) ?_ ?_; rotate_left; · (intro w'; go_simp; with_reducible rfl)
                  rotate_left; · (simp only [Act.put, sT, sZ, sS, i64_w, i32_w]; rfl)
                  refine pure_ (i := 2) (N := some 33) (v := ?_) (a' := ?_) #[true, true, true, false, false, false, false, false, false, false, false, false, false, false, false, false, false, false, false, false, false, false, false, false, false, false, false, false, false, false, false, false, false, false, false, false, false, false, false, false, false, false, false, false] rfl rfl (any_of HT_.out (by kernel_rfl)) (fun _ _ _ h => h) (Or.inl ⟨by rfl, ?_⟩) ?_ ?_; rotate_left; · (intro w'; go_simp; with_reducible rfl)
                  rotate_left; · (simp only [Act.put, sT, sZ, sS, i64_w, i32_w]; rfl)
                  refine one_ (i := 3) (N := some 34) #[true, true, true, true, false, false, false, false, false, false, false, false, false, false, false, false, false, false, false, false, false, false, false, false, false, false, false, false, false, false, false, false, false, false, false, false, false, false, false, false, false, false, false, false] rfl rfl (one_of HT_.out (by kernel_rfl)) (by decide) (fun K hK => ?_)
                  refine goes_ Try.func17 (by kernel_rfl) rfl #[.slice Ao32 t364.length co32] (by rfl) rfl rfl (by (try simp only [List.map_toArray, List.map_cons, List.map_nil]); first | done | rfl | (simp only [List.length_drop, List.length_take]; rfl)) ?_
                  with_reducible refine (cool_Right.calls kj6 _ _ t364 true _ ?side1 ?side2 A18.out).mono ?_
                  (case side1 => repeat (first | exact (Kd.S_reads' HO366.out).2.2 | (with_reducible refine Kd.C_alloc ?_ _) | (with_reducible refine Kd.C_drewN ?_ _) | (with_reducible refine Kd.C_drew ?_)))
                  (case side2 => exact (Kd.S_reads' HO366.out).2.1)
                  rintro e w33 ⟨rfl, hb⟩
                  refine ⟨_, rfl, ?_⟩
                  have n0_ := Aside0.mk (Kd.S_below (by (with_reducible repeat (first | apply Kd.S_alloc | apply Kd.S_drewN | apply Kd.S_drew)); exact HO366.out) hb)
                  have n1_ := Aside0.mk (blk_below (g := gb360) (o := .cells #[.int .i64 a1_0, .int .i64 a1_1, .int .i64 a1_2, .int .i64 a1_3, .int .i64 a1_4, .int .i64 a1_5, .bool a1_6, .slice A1_7 l1_7.length c1_7] 25 (0, 0)) (by (with_reducible repeat (first | refine blk_drewN ?_ _ | refine blk_drew ?_ | refine blk_alloc ?_ _)); exact BK360.out) hb)
                  have n2_ := Aside0.mk (below_step (by repeat (first | (with_reducible first | exact HB.out | apply below_alloc | apply pw_below_drewN | apply below_drew1 | refine below_set ?_ GE360.out) | exact HB.out)) hb)
                  clear HO366
                  clear BK360
                  clear HB
                  have HO366 := n0_
                  have BK360 := n1_
                  have HB := n2_
                  clear n0_ n1_ n2_
                  (try clear hb)
                  (try clear hb2)
                  (try clear hk)
                  (try clear hi)
                  refine hK.out _ _ ⟨(blk_cell BK360.out 0).trans rfl, (blk_cell BK360.out 1).trans rfl, (blk_cell BK360.out 2).trans rfl, (blk_cell BK360.out 3).trans rfl, (blk_cell BK360.out 4).trans rfl, (blk_cell BK360.out 5).trans rfl, (blk_cell BK360.out 6).trans rfl, (blk_cell BK360.out 7).trans rfl⟩ (fun hHeld => ?_)
                  clear hK K
                  refine norm_ (a' := ?_) ?_ ?_; rotate_left
                  · show Act.put _ (some 34) _ = _
                    simp only [Act.put, sT, sZ, sS, i64_w, i32_w]
                    rfl
                  refine pure_ (i := 4) (N := some 35) (v := ?_) (a' := ?_) #[true, true, true, true, true, false, false, false, false, false, false, false, false, false, false, false, false, false, false, false, false, false, false, false, false, false, false, false, false, false, false, false, false, false, false, false, false, false, false, false, false, false, false, false] rfl rfl (any_of HT_.out (by kernel_rfl)) (fun _ _ _ h => h) (Or.inl ⟨by rfl, ?_⟩) ?_ ?_; rotate_left; · (intro w'; go_simp; with_reducible rfl)
                  rotate_left; · (simp only [Act.put, sT, sZ, sS, i64_w, i32_w]; rfl)
                  refine pure_ (i := 5) (N := some 36) (v := ?_) (a' := ?_) #[true, true, true, true, true, true, false, false, false, false, false, false, false, false, false, false, false, false, false, false, false, false, false, false, false, false, false, false, false, false, false, false, false, false, false, false, false, false, false, false, false, false, false, false] rfl rfl (any_of HT_.out (by kernel_rfl)) (fun _ _ _ h => h) (Or.inl ⟨by rfl, ?_⟩) ?_ ?_; rotate_left; · (intro w'; go_simp; with_reducible rfl)
                  rotate_left; · (simp only [Act.put, sT, sZ, sS, i64_w, i32_w]; rfl)
                  refine pure_ (i := 6) (N := some 37) (v := ?_) (a' := ?_) #[true, true, true, true, true, true, true, false, false, false, false, false, false, false, false, false, false, false, false, false, false, false, false, false, false, false, false, false, false, false, false, false, false, false, false, false, false, false, false, false, false, false, false, false] rfl rfl (any_of HT_.out (by kernel_rfl)) (fun _ _ _ h => h) (Or.inl ⟨by rfl, ?_⟩) ?_ ?_; rotate_left; · (intro w'; go_simp; with_reducible rfl)
                  rotate_left; · (simp only [Act.put, sT, sZ, sS, i64_w, i32_w]; rfl)
                  refine pure_ (i := 8) (N := some 39) (v := ?_) (a' := ?_) #[true, true, true, true, true, true, true, false, true, false, false, false, false, false, false, false, false, false, false, false, false, false, false, false, false, false, false, false, false, false, false, false, false, false, false, false, false, false, false, false, false, false, false, false] rfl rfl (any_of HT_.out (by kernel_rfl)) (fun _ _ _ h => h) (Or.inl ⟨by rfl, ?_⟩) ?_ ?_; rotate_left; · (intro w'; go_simp; with_reducible rfl)
                  rotate_left; · (simp only [Act.put, sT, sZ, sS, i64_w, i32_w]; rfl)
                  refine pure_ (i := 10) (N := some 41) (v := ?_) (a' := ?_) #[true, true, true, true, true, true, true, false, true, false, true, false, false, false, false, false, false, false, false, false, false, false, false, false, false, false, false, false, false, false, false, false, false, false, false, false, false, false, false, false, false, false, false, false] rfl rfl (any_of HT_.out (by kernel_rfl)) (fun _ _ _ h => h) (Or.inl ⟨by rfl, ?_⟩) ?_ ?_; rotate_left; · (intro w'; go_simp; with_reducible rfl)
                  rotate_left; · (simp only [Act.put, sT, sZ, sS, i64_w, i32_w]; rfl)
                  refine pure_ (i := 12) (N := some 43) (v := ?_) (a' := ?_) #[true, true, true, true, true, true, true, false, true, false, true, false, true, false, false, false, false, false, false, false, false, false, false, false, false, false, false, false, false, false, false, false, false, false, false, false, false, false, false, false, false, false, false, false] rfl rfl (any_of HT_.out (by kernel_rfl)) (fun _ _ _ h => h) (Or.inl ⟨by rfl, ?_⟩) ?_ ?_; rotate_left; · (intro w'; go_simp; with_reducible rfl)
                  rotate_left; · (simp only [Act.put, sT, sZ, sS, i64_w, i32_w]; rfl)
                  refine take_ (i := 7) (N := some 38) (v := ?_) (a' := ?_) #[true, true, true, true, true, true, true, true, true, false, true, false, true, false, false, false, false, false, false, false, false, false, false, false, false, false, false, false, false, false, false, false, false, false, false, false, false, false, false, false, false, false, false, false] rfl rfl (take_ofW HT_.out HW_.out (by kernel_rfl)) (fun _ _ _ h => h) (Or.inl ⟨by rfl, ?_⟩) hHeld ?_ ?_; rotate_left
                  · rintro w' ⟨s0, s1, s2, s3, s4, s5, s6, s7⟩
                    go_simp
                    with_reducible rfl
                  rotate_left; · (simp only [Act.put, sT, sZ, sS, i64_w, i32_w]; rfl)
                  refine take_ (i := 11) (N := some 42) (v := ?_) (a' := ?_) #[true, true, true, true, true, true, true, true, true, false, true, true, true, false, false, false, false, false, false, false, false, false, false, false, false, false, false, false, false, false, false, false, false, false, false, false, false, false, false, false, false, false, false, false] rfl rfl (take_ofW HT_.out HW_.out (by kernel_rfl)) (fun _ _ _ h => h) (Or.inl ⟨by rfl, ?_⟩) hHeld ?_ ?_; rotate_left
                  · rintro w' ⟨s0, s1, s2, s3, s4, s5, s6, s7⟩
                    go_simp
                    with_reducible rfl
                  rotate_left; · (simp only [Act.put, sT, sZ, sS, i64_w, i32_w]; rfl)
                  refine one_ (i := 9) (N := some 40) #[true, true, true, true, true, true, true, true, true, true, true, true, true, false, false, false, false, false, false, false, false, false, false, false, false, false, false, false, false, false, false, false, false, false, false, false, false, false, false, false, false, false, false, false] rfl rfl (one_of HT_.out (by kernel_rfl)) (by decide) (fun K hK => ?_)
                  refine goes_ Try.func19 (by kernel_rfl) rfl #[.slice Ao32 t364.length co32, .agg #[.int .i64 a1_0, .int .i64 a1_1, .int .i64 a1_2, .int .i64 a1_3, .int .i64 a1_4, .int .i64 a1_5, .bool a1_6, .slice A1_7 l1_7.length c1_7], .int .i64 a2] (by rfl) rfl rfl (by (try simp only [List.map_toArray, List.map_cons, List.map_nil]); first | done | rfl | (simp only [List.length_drop, List.length_take]; rfl)) ?_
                  with_reducible refine (cool_Ready.calls kj6 _ _ t364 a1_0 a1_1 a1_2 a1_3 a1_4 a1_5 a1_6 _ _ l1_7 a2 t368 _ ?side1 ?side2 ?side3 ?side4 A20.out).mono ?_
                  (case side1 => repeat (first | exact (Kd.S_reads' HO366.out).2.2 | (with_reducible refine Kd.C_alloc ?_ _) | (with_reducible refine Kd.C_drewN ?_ _) | (with_reducible refine Kd.C_drew ?_)))
                  (case side2 => exact (Kd.S_reads' HO366.out).2.1)
                  (case side3 => repeat (first | exact (Kd.C_below HR1_7.out HB.out) | (with_reducible refine Kd.C_alloc ?_ _) | (with_reducible refine Kd.C_drewN ?_ _) | (with_reducible refine Kd.C_drew ?_)))
                  (case side4 => exact HC1_7.out)
                  rintro e w34 ⟨rfl, hb⟩
                  refine ⟨_, rfl, ?_⟩
                  have n0_ := Aside0.mk (Kd.S_below (by (with_reducible repeat (first | apply Kd.S_alloc | apply Kd.S_drewN | apply Kd.S_drew)); exact HO366.out) hb)
                  have n1_ := Aside0.mk (blk_below (g := gb360) (o := .cells #[.int .i64 a1_0, .int .i64 a1_1, .int .i64 a1_2, .int .i64 a1_3, .int .i64 a1_4, .int .i64 a1_5, .bool a1_6, .slice A1_7 l1_7.length c1_7] 25 (0, 0)) (by (with_reducible repeat (first | refine blk_drewN ?_ _ | refine blk_drew ?_ | refine blk_alloc ?_ _)); exact BK360.out) hb)
                  have n2_ := Aside0.mk (below_step (by repeat (first | (with_reducible first | exact HB.out | apply below_alloc | apply pw_below_drewN | apply below_drew1 | refine below_set ?_ GE360.out) | exact HB.out)) hb)
                  clear HO366
                  clear BK360
                  clear HB
                  have HO366 := n0_
                  have BK360 := n1_
                  have HB := n2_
                  clear n0_ n1_ n2_
                  (try clear hb)
                  (try clear hb2)
                  (try clear hk)
                  (try clear hi)
                  refine hK.out _ _ ⟨(blk_cell BK360.out 0).trans rfl, (blk_cell BK360.out 1).trans rfl, (blk_cell BK360.out 2).trans rfl, (blk_cell BK360.out 3).trans rfl, (blk_cell BK360.out 4).trans rfl, (blk_cell BK360.out 5).trans rfl, (blk_cell BK360.out 6).trans rfl, (blk_cell BK360.out 7).trans rfl⟩ (fun hHeld => ?_)
                  clear hK K
                  refine norm_ (a' := ?_) ?_ ?_; rotate_left
                  · show Act.put _ (some 40) _ = _
                    simp only [Act.put, sT, sZ, sS, i64_w, i32_w]
                    rfl
                  refine one_ (i := 13) (N := some 44) #[true, true, true, true, true, true, true, true, true, true, true, true, true, true, false, false, false, false, false, false, false, false, false, false, false, false, false, false, false, false, false, false, false, false, false, false, false, false, false, false, false, false, false, false] rfl rfl (one_of HT_.out (by kernel_rfl)) (by decide) (fun K hK => ?_)
                  refine goes_ Try.func19 (by kernel_rfl) rfl #[.slice A0 l0.length c0, .agg #[.int .i64 a1_0, .int .i64 a1_1, .int .i64 a1_2, .int .i64 a1_3, .int .i64 a1_4, .int .i64 a1_5, .bool a1_6, .slice A1_7 l1_7.length c1_7], .int .i64 a2] (by rfl) rfl rfl (by (try simp only [List.map_toArray, List.map_cons, List.map_nil]); first | done | rfl | (simp only [List.length_drop, List.length_take]; rfl)) ?_
                  with_reducible refine (cool_Ready.calls kj6 _ _ l0 a1_0 a1_1 a1_2 a1_3 a1_4 a1_5 a1_6 _ _ l1_7 a2 t369 _ ?side1 ?side2 ?side3 ?side4 A21.out).mono ?_
                  (case side1 => repeat (first | exact (Kd.C_below HR0.out HB.out) | (with_reducible refine Kd.C_alloc ?_ _) | (with_reducible refine Kd.C_drewN ?_ _) | (with_reducible refine Kd.C_drew ?_)))
                  (case side2 => exact HC0.out)
                  (case side3 => repeat (first | exact (Kd.C_below HR1_7.out HB.out) | (with_reducible refine Kd.C_alloc ?_ _) | (with_reducible refine Kd.C_drewN ?_ _) | (with_reducible refine Kd.C_drew ?_)))
                  (case side4 => exact HC1_7.out)
                  rintro e w35 ⟨rfl, hb⟩
                  refine ⟨_, rfl, ?_⟩
                  have n0_ := Aside0.mk (Kd.S_below (by (with_reducible repeat (first | apply Kd.S_alloc | apply Kd.S_drewN | apply Kd.S_drew)); exact HO366.out) hb)
                  have n1_ := Aside0.mk (blk_below (g := gb360) (o := .cells #[.int .i64 a1_0, .int .i64 a1_1, .int .i64 a1_2, .int .i64 a1_3, .int .i64 a1_4, .int .i64 a1_5, .bool a1_6, .slice A1_7 l1_7.length c1_7] 25 (0, 0)) (by (with_reducible repeat (first | refine blk_drewN ?_ _ | refine blk_drew ?_ | refine blk_alloc ?_ _)); exact BK360.out) hb)
                  have n2_ := Aside0.mk (below_step (by repeat (first | (with_reducible first | exact HB.out | apply below_alloc | apply pw_below_drewN | apply below_drew1 | refine below_set ?_ GE360.out) | exact HB.out)) hb)
                  clear HO366
                  clear BK360
                  clear HB
                  have HO366 := n0_
                  have BK360 := n1_
                  have HB := n2_
                  clear n0_ n1_ n2_
                  (try clear hb)
                  (try clear hb2)
                  (try clear hk)
                  (try clear hi)
                  refine hK.out _ _ ⟨(blk_cell BK360.out 0).trans rfl, (blk_cell BK360.out 1).trans rfl, (blk_cell BK360.out 2).trans rfl, (blk_cell BK360.out 3).trans rfl, (blk_cell BK360.out 4).trans rfl, (blk_cell BK360.out 5).trans rfl, (blk_cell BK360.out 6).trans rfl, (blk_cell BK360.out 7).trans rfl⟩ (fun hHeld => ?_)
                  clear hK K
                  refine norm_ (a' := ?_) ?_ ?_; rotate_left
                  · show Act.put _ (some 44) _ = _
                    simp only [Act.put, sT, sZ, sS, i64_w, i32_w]
                    rfl
                  refine pure_ (i := 14) (N := some 45) (v := ?_) (a' := ?_) #[true, true, true, true, true, true, true, true, true, true, true, true, true, true, true, false, false, false, false, false, false, false, false, false, false, false, false, false, false, false, false, false, false, false, false, false, false, false, false, false, false, false, false, false] rfl rfl (any_of HT_.out (by kernel_rfl)) (fun _ _ _ h => h) (Or.inl ⟨by rfl, ?_⟩) ?_ ?_; rotate_left; · (intro w'; go_simp; with_reducible rfl)
                  rotate_left; · (simp only [Act.put, sT, sZ, sS, i64_w, i32_w]; rfl)
                  refine pure_ (i := 15) (N := some 46) (v := ?_) (a' := ?_) #[true, true, true, true, true, true, true, true, true, true, true, true, true, true, true, true, false, false, false, false, false, false, false, false, false, false, false, false, false, false, false, false, false, false, false, false, false, false, false, false, false, false, false, false] rfl rfl (any_of HT_.out (by kernel_rfl)) (fun _ _ _ h => h) (Or.inl ⟨by rfl, ?_⟩) ?_ ?_; rotate_left; · (intro w'; go_simp; with_reducible rfl)
                  rotate_left; · (simp only [Act.put, sT, sZ, sS, i64_w, i32_w]; rfl)
                  refine pure_ (i := 16) (N := some 47) (v := ?_) (a' := ?_) #[true, true, true, true, true, true, true, true, true, true, true, true, true, true, true, true, true, false, false, false, false, false, false, false, false, false, false, false, false, false, false, false, false, false, false, false, false, false, false, false, false, false, false, false] rfl rfl (any_of HT_.out (by kernel_rfl)) (fun _ _ _ h => h) (Or.inl ⟨by rfl, ?_⟩) ?_ ?_; rotate_left; · (intro w'; go_simp; with_reducible rfl)
                  rotate_left; · (simp only [Act.put, sT, sZ, sS, i64_w, i32_w]; rfl)
                  refine pure_ (i := 17) (N := some 48) (v := ?_) (a' := ?_) #[true, true, true, true, true, true, true, true, true, true, true, true, true, true, true, true, true, true, false, false, false, false, false, false, false, false, false, false, false, false, false, false, false, false, false, false, false, false, false, false, false, false, false, false] rfl rfl (any_of HT_.out (by kernel_rfl)) (fun _ _ _ h => h) (Or.inl ⟨by rfl, ?_⟩) ?_ ?_; rotate_left; · (intro w'; go_simp; with_reducible rfl)
                  rotate_left; · (simp only [Act.put, sT, sZ, sS, i64_w, i32_w]; rfl)
                  refine pure_ (i := 19) (N := some 50) (v := ?_) (a' := ?_) #[true, true, true, true, true, true, true, true, true, true, true, true, true, true, true, true, true, true, false, true, false, false, false, false, false, false, false, false, false, false, false, false, false, false, false, false, false, false, false, false, false, false, false, false] rfl rfl (any_of HT_.out (by kernel_rfl)) (fun _ _ _ h => h) (Or.inl ⟨by rfl, ?_⟩) ?_ ?_; rotate_left; · (intro w'; go_simp; with_reducible rfl)
                  rotate_left; · (simp only [Act.put, sT, sZ, sS, i64_w, i32_w]; rfl)
                  refine pure_ (i := 21) (N := some 52) (v := ?_) (a' := ?_) #[true, true, true, true, true, true, true, true, true, true, true, true, true, true, true, true, true, true, false, true, false, true, false, false, false, false, false, false, false, false, false, false, false, false, false, false, false, false, false, false, false, false, false, false] rfl rfl (any_of HT_.out (by kernel_rfl)) (fun _ _ _ h => h) (Or.inl ⟨by rfl, ?_⟩) ?_ ?_; rotate_left; · (intro w'; go_simp; with_reducible rfl)
                  rotate_left; · (simp only [Act.put, sT, sZ, sS, i64_w, i32_w]; rfl)
                  refine pure_ (i := 23) (N := some 54) (v := ?_) (a' := ?_) #[true, true, true, true, true, true, true, true, true, true, true, true, true, true, true, true, true, true, false, true, false, true, false, true, false, false, false, false, false, false, false, false, false, false, false, false, false, false, false, false, false, false, false, false] rfl rfl (any_of HT_.out (by kernel_rfl)) (fun _ _ _ h => h) (Or.inl ⟨by rfl, ?_⟩) ?_ ?_; rotate_left; · (intro w'; go_simp; with_reducible rfl)
                  rotate_left; · (simp only [Act.put, sT, sZ, sS, i64_w, i32_w]; rfl)
                  refine take_ (i := 18) (N := some 49) (v := ?_) (a' := ?_) #[true, true, true, true, true, true, true, true, true, true, true, true, true, true, true, true, true, true, true, true, false, true, false, true, false, false, false, false, false, false, false, false, false, false, false, false, false, false, false, false, false, false, false, false] rfl rfl (take_ofW HT_.out HW_.out (by kernel_rfl)) (fun _ _ _ h => h) (Or.inl ⟨by rfl, ?_⟩) hHeld ?_ ?_; rotate_left
                  · rintro w' ⟨s0, s1, s2, s3, s4, s5, s6, s7⟩
                    go_simp
                    with_reducible rfl
                  rotate_left; · (simp only [Act.put, sT, sZ, sS, i64_w, i32_w]; rfl)
                  refine take_ (i := 22) (N := some 53) (v := ?_) (a' := ?_) #[true, true, true, true, true, true, true, true, true, true, true, true, true, true, true, true, true, true, true, true, false, true, true, true, false, false, false, false, false, false, false, false, false, false, false, false, false, false, false, false, false, false, false, false] rfl rfl (take_ofW HT_.out HW_.out (by kernel_rfl)) (fun _ _ _ h => h) (Or.inl ⟨by rfl, ?_⟩) hHeld ?_ ?_; rotate_left
                  · rintro w' ⟨s0, s1, s2, s3, s4, s5, s6, s7⟩
                    go_simp
                    with_reducible rfl
                  rotate_left; · (simp only [Act.put, sT, sZ, sS, i64_w, i32_w]; rfl)
                  refine one_ (i := 20) (N := some 51) #[true, true, true, true, true, true, true, true, true, true, true, true, true, true, true, true, true, true, true, true, true, true, true, true, false, false, false, false, false, false, false, false, false, false, false, false, false, false, false, false, false, false, false, false] rfl rfl (one_of HT_.out (by kernel_rfl)) (by decide) (fun K hK => ?_)
                  refine goes_ Try.func19 (by kernel_rfl) rfl #[.slice Ao32 t364.length co32, .agg #[.int .i64 a1_0, .int .i64 a1_1, .int .i64 a1_2, .int .i64 a1_3, .int .i64 a1_4, .int .i64 a1_5, .bool a1_6, .slice A1_7 l1_7.length c1_7], .int .i64 a3] (by rfl) rfl rfl (by (try simp only [List.map_toArray, List.map_cons, List.map_nil]); first | done | rfl | (simp only [List.length_drop, List.length_take]; rfl)) ?_
                  with_reducible refine (cool_Ready.calls kj6 _ _ t364 a1_0 a1_1 a1_2 a1_3 a1_4 a1_5 a1_6 _ _ l1_7 a3 t370 _ ?side1 ?side2 ?side3 ?side4 A23.out).mono ?_
                  (case side1 => repeat (first | exact (Kd.S_reads' HO366.out).2.2 | (with_reducible refine Kd.C_alloc ?_ _) | (with_reducible refine Kd.C_drewN ?_ _) | (with_reducible refine Kd.C_drew ?_)))
                  (case side2 => exact (Kd.S_reads' HO366.out).2.1)
                  (case side3 => repeat (first | exact (Kd.C_below HR1_7.out HB.out) | (with_reducible refine Kd.C_alloc ?_ _) | (with_reducible refine Kd.C_drewN ?_ _) | (with_reducible refine Kd.C_drew ?_)))
                  (case side4 => exact HC1_7.out)
                  rintro e w36 ⟨rfl, hb⟩
                  refine ⟨_, rfl, ?_⟩
                  have n0_ := Aside0.mk (Kd.S_below (by (with_reducible repeat (first | apply Kd.S_alloc | apply Kd.S_drewN | apply Kd.S_drew)); exact HO366.out) hb)
                  have n1_ := Aside0.mk (blk_below (g := gb360) (o := .cells #[.int .i64 a1_0, .int .i64 a1_1, .int .i64 a1_2, .int .i64 a1_3, .int .i64 a1_4, .int .i64 a1_5, .bool a1_6, .slice A1_7 l1_7.length c1_7] 25 (0, 0)) (by (with_reducible repeat (first | refine blk_drewN ?_ _ | refine blk_drew ?_ | refine blk_alloc ?_ _)); exact BK360.out) hb)
                  have n2_ := Aside0.mk (below_step (by repeat (first | (with_reducible first | exact HB.out | apply below_alloc | apply pw_below_drewN | apply below_drew1 | refine below_set ?_ GE360.out) | exact HB.out)) hb)
                  clear HO366
                  clear BK360
                  clear HB
                  have HO366 := n0_
                  have BK360 := n1_
                  have HB := n2_
                  clear n0_ n1_ n2_
                  (try clear hb)
                  (try clear hb2)
                  (try clear hk)
                  (try clear hi)
                  refine hK.out _ _ ⟨(blk_cell BK360.out 0).trans rfl, (blk_cell BK360.out 1).trans rfl, (blk_cell BK360.out 2).trans rfl, (blk_cell BK360.out 3).trans rfl, (blk_cell BK360.out 4).trans rfl, (blk_cell BK360.out 5).trans rfl, (blk_cell BK360.out 6).trans rfl, (blk_cell BK360.out 7).trans rfl⟩ (fun hHeld => ?_)
                  clear hK K
                  refine norm_ (a' := ?_) ?_ ?_; rotate_left
                  · show Act.put _ (some 51) _ = _
                    simp only [Act.put, sT, sZ, sS, i64_w, i32_w]
                    rfl
                  refine one_ (i := 24) (N := some 55) #[true, true, true, true, true, true, true, true, true, true, true, true, true, true, true, true, true, true, true, true, true, true, true, true, true, false, false, false, false, false, false, false, false, false, false, false, false, false, false, false, false, false, false, false] rfl rfl (one_of HT_.out (by kernel_rfl)) (by decide) (fun K hK => ?_)
                  refine goes_ Try.func19 (by kernel_rfl) rfl #[.slice A0 l0.length c0, .agg #[.int .i64 a1_0, .int .i64 a1_1, .int .i64 a1_2, .int .i64 a1_3, .int .i64 a1_4, .int .i64 a1_5, .bool a1_6, .slice A1_7 l1_7.length c1_7], .int .i64 a3] (by rfl) rfl rfl (by (try simp only [List.map_toArray, List.map_cons, List.map_nil]); first | done | rfl | (simp only [List.length_drop, List.length_take]; rfl)) ?_
                  with_reducible refine (cool_Ready.calls kj6 _ _ l0 a1_0 a1_1 a1_2 a1_3 a1_4 a1_5 a1_6 _ _ l1_7 a3 t371 _ ?side1 ?side2 ?side3 ?side4 A24.out).mono ?_
                  (case side1 => repeat (first | exact (Kd.C_below HR0.out HB.out) | (with_reducible refine Kd.C_alloc ?_ _) | (with_reducible refine Kd.C_drewN ?_ _) | (with_reducible refine Kd.C_drew ?_)))
                  (case side2 => exact HC0.out)
                  (case side3 => repeat (first | exact (Kd.C_below HR1_7.out HB.out) | (with_reducible refine Kd.C_alloc ?_ _) | (with_reducible refine Kd.C_drewN ?_ _) | (with_reducible refine Kd.C_drew ?_)))
                  (case side4 => exact HC1_7.out)
                  rintro e w37 ⟨rfl, hb⟩
                  refine ⟨_, rfl, ?_⟩
                  have n0_ := Aside0.mk (Kd.S_below (by (with_reducible repeat (first | apply Kd.S_alloc | apply Kd.S_drewN | apply Kd.S_drew)); exact HO366.out) hb)
                  have n1_ := Aside0.mk (blk_below (g := gb360) (o := .cells #[.int .i64 a1_0, .int .i64 a1_1, .int .i64 a1_2, .int .i64 a1_3, .int .i64 a1_4, .int .i64 a1_5, .bool a1_6, .slice A1_7 l1_7.length c1_7] 25 (0, 0)) (by (with_reducible repeat (first | refine blk_drewN ?_ _ | refine blk_drew ?_ | refine blk_alloc ?_ _)); exact BK360.out) hb)
                  have n2_ := Aside0.mk (below_step (by repeat (first | (with_reducible first | exact HB.out | apply below_alloc | apply pw_below_drewN | apply below_drew1 | refine below_set ?_ GE360.out) | exact HB.out)) hb)
                  clear HO366
                  clear BK360
                  clear HB
                  have HO366 := n0_
                  have BK360 := n1_
                  have HB := n2_
                  clear n0_ n1_ n2_
                  (try clear hb)
                  (try clear hb2)
                  (try clear hk)
                  (try clear hi)
                  refine hK.out _ _ ⟨(blk_cell BK360.out 0).trans rfl, (blk_cell BK360.out 1).trans rfl, (blk_cell BK360.out 2).trans rfl, (blk_cell BK360.out 3).trans rfl, (blk_cell BK360.out 4).trans rfl, (blk_cell BK360.out 5).trans rfl, (blk_cell BK360.out 6).trans rfl, (blk_cell BK360.out 7).trans rfl⟩ (fun hHeld => ?_)
                  clear hK K
                  refine norm_ (a' := ?_) ?_ ?_; rotate_left
                  · show Act.put _ (some 55) _ = _
                    simp only [Act.put, sT, sZ, sS, i64_w, i32_w]
                    rfl
                  refine pure_ (i := 25) (N := some 56) (v := ?_) (a' := ?_) #[true, true, true, true, true, true, true, true, true, true, true, true, true, true, true, true, true, true, true, true, true, true, true, true, true, true, false, false, false, false, false, false, false, false, false, false, false, false, false, false, false, false, false, false] rfl rfl (any_of HT_.out (by kernel_rfl)) (fun _ _ _ h => h) (Or.inl ⟨by rfl, ?_⟩) ?_ ?_; rotate_left; · (intro w'; go_simp; with_reducible rfl)
                  rotate_left; · (simp only [Act.put, sT, sZ, sS, i64_w, i32_w]; rfl)
                  refine pure_ (i := 26) (N := some 57) (v := ?_) (a' := ?_) #[true, true, true, true, true, true, true, true, true, true, true, true, true, true, true, true, true, true, true, true, true, true, true, true, true, true, true, false, false, false, false, false, false, false, false, false, false, false, false, false, false, false, false, false] rfl rfl (any_of HT_.out (by kernel_rfl)) (fun _ _ _ h => h) (Or.inl ⟨by rfl, ?_⟩) ?_ ?_; rotate_left; · (intro w'; go_simp; with_reducible rfl)
                  rotate_left; · (simp only [Act.put, sT, sZ, sS, i64_w, i32_w]; rfl)
                  refine pure_ (i := 27) (N := some 58) (v := ?_) (a' := ?_) #[true, true, true, true, true, true, true, true, true, true, true, true, true, true, true, true, true, true, true, true, true, true, true, true, true, true, true, true, false, false, false, false, false, false, false, false, false, false, false, false, false, false, false, false] rfl rfl (any_of HT_.out (by kernel_rfl)) (fun _ _ _ h => h) (Or.inl ⟨by rfl, ?_⟩) ?_ ?_; rotate_left; · (intro w'; go_simp; with_reducible rfl)
                  rotate_left; · (simp only [Act.put, sT, sZ, sS, i64_w, i32_w]; rfl)
                  refine pure_ (i := 28) (N := some 59) (v := ?_) (a' := ?_) #[true, true, true, true, true, true, true, true, true, true, true, true, true, true, true, true, true, true, true, true, true, true, true, true, true, true, true, true, true, false, false, false, false, false, false, false, false, false, false, false, false, false, false, false] rfl rfl (any_of HT_.out (by kernel_rfl)) (fun _ _ _ h => h) (Or.inl ⟨by rfl, ?_⟩) ?_ ?_; rotate_left; · (intro w'; go_simp; with_reducible rfl)
                  rotate_left; · (simp only [Act.put, sT, sZ, sS, i64_w, i32_w]; rfl)
                  refine pure_ (i := 29) (N := some 60) (v := ?_) (a' := ?_) #[true, true, true, true, true, true, true, true, true, true, true, true, true, true, true, true, true, true, true, true, true, true, true, true, true, true, true, true, true, true, false, false, false, false, false, false, false, false, false, false, false, false, false, false] rfl rfl (any_of HT_.out (by kernel_rfl)) (fun _ _ _ h => h) (Or.inl ⟨by rfl, ?_⟩) ?_ ?_; rotate_left; · (intro w'; go_simp; with_reducible rfl)
                  rotate_left; · (simp only [Act.put, sT, sZ, sS, i64_w, i32_w]; rfl)
                  refine pure_ (i := 31) (N := some 62) (v := ?_) (a' := ?_) #[true, true, true, true, true, true, true, true, true, true, true, true, true, true, true, true, true, true, true, true, true, true, true, true, true, true, true, true, true, true, false, true, false, false, false, false, false, false, false, false, false, false, false, false] rfl rfl (any_of HT_.out (by kernel_rfl)) (fun _ _ _ h => h) (Or.inl ⟨by rfl, ?_⟩) ?_ ?_; rotate_left; · (intro w'; go_simp; with_reducible rfl)
                  rotate_left; · (simp only [Act.put, sT, sZ, sS, i64_w, i32_w]; rfl)
                  refine pure_ (i := 32) (N := some 63) (v := ?_) (a' := ?_) #[true, true, true, true, true, true, true, true, true, true, true, true, true, true, true, true, true, true, true, true, true, true, true, true, true, true, true, true, true, true, false, true, true, false, false, false, false, false, false, false, false, false, false, false] rfl rfl (any_of HT_.out (by kernel_rfl)) (fun _ _ _ h => h) (Or.inl ⟨by rfl, ?_⟩) ?_ ?_; rotate_left; · (intro w'; go_simp; with_reducible rfl)
                  rotate_left; · (simp only [Act.put, sT, sZ, sS, i64_w, i32_w]; rfl)
                  refine one_ (i := 30) (N := some 61) #[true, true, true, true, true, true, true, true, true, true, true, true, true, true, true, true, true, true, true, true, true, true, true, true, true, true, true, true, true, true, true, true, true, false, false, false, false, false, false, false, false, false, false, false] rfl rfl (one_of HT_.out (by kernel_rfl)) (by decide) (fun K hK => ?_)
                  refine goes_ Try.func12 (by kernel_rfl) rfl #[.slice Ao32 t364.length co32, .int .i64 a3] (by rfl) rfl rfl (by (try simp only [List.map_toArray, List.map_cons, List.map_nil]); first | done | rfl | (simp only [List.length_drop, List.length_take]; rfl)) ?_
                  with_reducible refine (cool_Clean.calls kj6 _ _ t364 a3 t372 _ ?side1 ?side2 A26.out).mono ?_
                  (case side1 => repeat (first | exact (Kd.S_reads' HO366.out).2.2 | (with_reducible refine Kd.C_alloc ?_ _) | (with_reducible refine Kd.C_drewN ?_ _) | (with_reducible refine Kd.C_drew ?_)))
                  (case side2 => exact (Kd.S_reads' HO366.out).2.1)
                  rintro e w38 ⟨v373, rfl, ho0, hb⟩
                  refine ⟨_, rfl, ?_⟩
                  have n0_ := Aside0.mk (Kd.S_elder' (by (with_reducible repeat (first | apply Kd.S_alloc | apply Kd.S_drewN | apply Kd.S_drew)); exact HO366.out) (Kd.S_base ho0) hb)
                  have n1_ := Aside0.mk (Kd.S_lower (Kd.S_new' ho0 (Kd.S_lt (by (with_reducible repeat (first | apply Kd.S_alloc | apply Kd.S_drewN | apply Kd.S_drew)); exact HO366.out))) (below_size (by repeat (first | (with_reducible first | exact HB.out | apply below_alloc | apply pw_below_drewN | apply below_drew1 | refine below_set ?_ GE360.out) | exact HB.out))))
                  have n2_ := Aside0.mk (blk_below (g := gb360) (o := .cells #[.int .i64 a1_0, .int .i64 a1_1, .int .i64 a1_2, .int .i64 a1_3, .int .i64 a1_4, .int .i64 a1_5, .bool a1_6, .slice A1_7 l1_7.length c1_7] 25 (0, 0)) (by (with_reducible repeat (first | refine blk_drewN ?_ _ | refine blk_drew ?_ | refine blk_alloc ?_ _)); exact BK360.out) hb)
                  have n3_ := Aside0.mk (below_step (by repeat (first | (with_reducible first | exact HB.out | apply below_alloc | apply pw_below_drewN | apply below_drew1 | refine below_set ?_ GE360.out) | exact HB.out)) hb)
                  clear HO366
                  clear BK360
                  clear HB
                  have HO366 := n0_
                  have HO374 := n1_
                  have BK360 := n2_
                  have HB := n3_
                  clear n0_ n1_ n2_ n3_
                  (try clear hb)
                  (try clear hb2)
                  (try clear hk)
                  (try clear hi)
                  (try clear ho0)
                  refine hK.out _ _ ⟨(blk_cell BK360.out 0).trans rfl, (blk_cell BK360.out 1).trans rfl, (blk_cell BK360.out 2).trans rfl, (blk_cell BK360.out 3).trans rfl, (blk_cell BK360.out 4).trans rfl, (blk_cell BK360.out 5).trans rfl, (blk_cell BK360.out 6).trans rfl, (blk_cell BK360.out 7).trans rfl⟩ (fun hHeld => ?_)
                  clear hK K
                  refine norm_ (a' := ?_) ?_ ?_; rotate_left
                  · show Act.put _ (some 61) _ = _
                    simp only [Act.put, sT, sZ, sS, i64_w, i32_w]
                    rfl
                  refine one_ (i := 33) (N := some 64) #[true, true, true, true, true, true, true, true, true, true, true, true, true, true, true, true, true, true, true, true, true, true, true, true, true, true, true, true, true, true, true, true, true, true, false, false, false, false, false, false, false, false, false, false] rfl rfl (one_of HT_.out (by kernel_rfl)) (by decide) (fun K hK => ?_)
                  refine goes_ Try.func12 (by kernel_rfl) rfl #[.slice A0 l0.length c0, .int .i64 a3] (by rfl) rfl rfl (by (try simp only [List.map_toArray, List.map_cons, List.map_nil]); first | done | rfl | (simp only [List.length_drop, List.length_take]; rfl)) ?_
                  with_reducible refine (cool_Clean.calls kj6 _ _ l0 a3 t375 _ ?side1 ?side2 A27.out).mono ?_
                  (case side1 => repeat (first | exact (Kd.C_below HR0.out HB.out) | (with_reducible refine Kd.C_alloc ?_ _) | (with_reducible refine Kd.C_drewN ?_ _) | (with_reducible refine Kd.C_drew ?_)))
                  (case side2 => exact HC0.out)
                  rintro e w39 ⟨v376, rfl, ho0, hb⟩
                  refine ⟨_, rfl, ?_⟩
                  have n0_ := Aside0.mk (Kd.S_elder' (by (with_reducible repeat (first | apply Kd.S_alloc | apply Kd.S_drewN | apply Kd.S_drew)); exact HO366.out) (Kd.S_base ho0) hb)
                  have n1_ := Aside0.mk (Kd.S_elder' (by (with_reducible repeat (first | apply Kd.S_alloc | apply Kd.S_drewN | apply Kd.S_drew)); exact HO374.out) (Kd.S_base ho0) hb)
                  have n2_ := Aside0.mk (Kd.S_lower (Kd.S_new' (Kd.S_new' ho0 (Kd.S_lt (by (with_reducible repeat (first | apply Kd.S_alloc | apply Kd.S_drewN | apply Kd.S_drew)); exact HO366.out))) (Kd.S_lt (by (with_reducible repeat (first | apply Kd.S_alloc | apply Kd.S_drewN | apply Kd.S_drew)); exact HO374.out))) (below_size (by repeat (first | (with_reducible first | exact HB.out | apply below_alloc | apply pw_below_drewN | apply below_drew1 | refine below_set ?_ GE360.out) | exact HB.out))))
                  have n3_ := Aside0.mk (blk_below (g := gb360) (o := .cells #[.int .i64 a1_0, .int .i64 a1_1, .int .i64 a1_2, .int .i64 a1_3, .int .i64 a1_4, .int .i64 a1_5, .bool a1_6, .slice A1_7 l1_7.length c1_7] 25 (0, 0)) (by (with_reducible repeat (first | refine blk_drewN ?_ _ | refine blk_drew ?_ | refine blk_alloc ?_ _)); exact BK360.out) hb)
                  have n4_ := Aside0.mk (below_step (by repeat (first | (with_reducible first | exact HB.out | apply below_alloc | apply pw_below_drewN | apply below_drew1 | refine below_set ?_ GE360.out) | exact HB.out)) hb)
                  clear HO366
                  clear HO374
                  clear BK360
                  clear HB
                  have HO366 := n0_
                  have HO374 := n1_
                  have HO377 := n2_
                  have BK360 := n3_
                  have HB := n4_
                  clear n0_ n1_ n2_ n3_ n4_
                  (try clear hb)
                  (try clear hb2)
                  (try clear hk)
                  (try clear hi)
                  (try clear ho0)
                  obtain ⟨Ao40, co40, eo40⟩ := Kd.S_slice HO374.out
                  (first | subst eo40 | (injection eo40 with f1_ f2_ f3_; have f4_ := f1_.symm; have f5_ := f3_.symm; clear f1_ f2_ f3_; subst f4_; subst f5_))
                  obtain ⟨Ao41, co41, eo41⟩ := Kd.S_slice HO377.out
                  (first | subst eo41 | (injection eo41 with f1_ f2_ f3_; have f4_ := f1_.symm; have f5_ := f3_.symm; clear f1_ f2_ f3_; subst f4_; subst f5_))
                  refine hK.out _ _ ⟨(blk_cell BK360.out 0).trans rfl, (blk_cell BK360.out 1).trans rfl, (blk_cell BK360.out 2).trans rfl, (blk_cell BK360.out 3).trans rfl, (blk_cell BK360.out 4).trans rfl, (blk_cell BK360.out 5).trans rfl, (blk_cell BK360.out 6).trans rfl, (blk_cell BK360.out 7).trans rfl⟩ (fun hHeld => ?_)
                  clear hK K
                  refine norm_ (a' := ?_) ?_ ?_; rotate_left
                  · show Act.put _ (some 64) _ = _
                    simp only [Act.put, sT, sZ, sS, i64_w, i32_w]
                    rfl
                  refine one_ (i := 34) (N := some 65) #[true, true, true, true, true, true, true, true, true, true, true, true, true, true, true, true, true, true, true, true, true, true, true, true, true, true, true, true, true, true, true, true, true, true, true, false, false, false, false, false, false, false, false, false] rfl rfl (one_of HT_.out (by kernel_rfl)) (by decide) (fun K hK => ?_)
                  refine goes_ Try.func14 (by kernel_rfl) rfl #[.slice Ao40 t372.length co40, .slice Ao41 t375.length co41] (by rfl) rfl rfl (by (try simp only [List.map_toArray, List.map_cons, List.map_nil]); first | done | rfl | (simp only [List.length_drop, List.length_take]; rfl)) ?_
                  with_reducible refine (barrowref16_Same.calls kj6 _ _ t372 _ _ t375 true _ ?side1 ?side2 ?side3 ?side4 A28.out).mono ?_
                  (case side1 => repeat (first | exact (Kd.S_reads' HO374.out).2.2 | (with_reducible refine Kd.C_alloc ?_ _) | (with_reducible refine Kd.C_drewN ?_ _) | (with_reducible refine Kd.C_drew ?_)))
                  (case side2 => exact (Kd.S_reads' HO374.out).2.1)
                  (case side3 => repeat (first | exact (Kd.S_reads' HO377.out).2.2 | (with_reducible refine Kd.C_alloc ?_ _) | (with_reducible refine Kd.C_drewN ?_ _) | (with_reducible refine Kd.C_drew ?_)))
                  (case side4 => exact (Kd.S_reads' HO377.out).2.1)
                  rintro e w' ⟨rfl, ⟨nd, rfl⟩⟩
                  refine ⟨_, rfl, ?_⟩
                  refine hK.out _ _ ⟨(blk_cell BK360.out 0).trans rfl, (blk_cell BK360.out 1).trans rfl, (blk_cell BK360.out 2).trans rfl, (blk_cell BK360.out 3).trans rfl, (blk_cell BK360.out 4).trans rfl, (blk_cell BK360.out 5).trans rfl, (blk_cell BK360.out 6).trans rfl, (blk_cell BK360.out 7).trans rfl⟩ (fun hHeld => ?_)
                  clear hK K
                  refine norm_ (a' := ?_) ?_ ?_; rotate_left
                  · show Act.put _ (some 65) _ = _
                    simp only [Act.put, sT, sZ, sS, i64_w, i32_w]
                    rfl
                  refine pure_ (i := 35) (N := some 66) (v := ?_) (a' := ?_) #[true, true, true, true, true, true, true, true, true, true, true, true, true, true, true, true, true, true, true, true, true, true, true, true, true, true, true, true, true, true, true, true, true, true, true, true, false, false, false, false, false, false, false, false] rfl rfl (any_of HT_.out (by kernel_rfl)) (fun _ _ _ h => h) (Or.inl ⟨by rfl, ?_⟩) ?_ ?_; rotate_left; · (intro w'; go_simp; with_reducible rfl)
                  rotate_left; · (simp only [Act.put, sT, sZ, sS, i64_w, i32_w]; rfl)
                  refine pure_ (i := 36) (N := some 67) (v := ?_) (a' := ?_) #[true, true, true, true, true, true, true, true, true, true, true, true, true, true, true, true, true, true, true, true, true, true, true, true, true, true, true, true, true, true, true, true, true, true, true, true, true, false, false, false, false, false, false, false] rfl rfl (any_of HT_.out (by kernel_rfl)) (fun _ _ _ h => h) (Or.inl ⟨by rfl, ?_⟩) ?_ ?_; rotate_left; · (intro w'; go_simp; with_reducible rfl)
                  rotate_left; · (simp only [Act.put, sT, sZ, sS, i64_w, i32_w]; rfl)
                  refine pure_ (i := 37) (N := some 68) (v := ?_) (a' := ?_) #[true, true, true, true, true, true, true, true, true, true, true, true, true, true, true, true, true, true, true, true, true, true, true, true, true, true, true, true, true, true, true, true, true, true, true, true, true, true, false, false, false, false, false, false] rfl rfl (any_of HT_.out (by kernel_rfl)) (fun _ _ _ h => h) (Or.inl ⟨by rfl, ?_⟩) ?_ ?_; rotate_left; · (intro w'; go_simp; with_reducible rfl)
                  rotate_left; · (simp only [Act.put, sT, sZ, sS, i64_w, i32_w]; rfl)
                  refine pure_ (i := 38) (N := some 69) (v := ?_) (a' := ?_) #[true, true, true, true, true, true, true, true, true, true, true, true, true, true, true, true, true, true, true, true, true, true, true, true, true, true, true, true, true, true, true, true, true, true, true, true, true, true, true, false, false, false, false, false] rfl rfl (any_of HT_.out (by kernel_rfl)) (fun _ _ _ h => h) (Or.inl ⟨by rfl, ?_⟩) ?_ ?_; rotate_left; · (intro w'; go_simp; with_reducible rfl)
                  rotate_left; · (simp only [Act.put, sT, sZ, sS, i64_w, i32_w]; rfl)
                  refine pure_ (i := 39) (N := some 70) (v := ?_) (a' := ?_) #[true, true, true, true, true, true, true, true, true, true, true, true, true, true, true, true, true, true, true, true, true, true, true, true, true, true, true, true, true, true, true, true, true, true, true, true, true, true, true, true, false, false, false, false] rfl rfl (any_of HT_.out (by kernel_rfl)) (fun _ _ _ h => h) (Or.inl ⟨by rfl, ?_⟩) ?_ ?_; rotate_left; · (intro w'; go_simp; with_reducible rfl)
                  rotate_left; · (simp only [Act.put, sT, sZ, sS, i64_w, i32_w]; rfl)
                  refine pure_ (i := 40) (N := some 71) (v := ?_) (a' := ?_) #[true, true, true, true, true, true, true, true, true, true, true, true, true, true, true, true, true, true, true, true, true, true, true, true, true, true, true, true, true, true, true, true, true, true, true, true, true, true, true, true, true, false, false, false] rfl rfl (any_of HT_.out (by kernel_rfl)) (fun _ _ _ h => h) (Or.inl ⟨by rfl, ?_⟩) ?_ ?_; rotate_left; · (intro w'; go_simp; with_reducible rfl)
                  rotate_left; · (simp only [Act.put, sT, sZ, sS, i64_w, i32_w]; rfl)
                  refine pure_ (i := 41) (N := some 72) (v := ?_) (a' := ?_) #[true, true, true, true, true, true, true, true, true, true, true, true, true, true, true, true, true, true, true, true, true, true, true, true, true, true, true, true, true, true, true, true, true, true, true, true, true, true, true, true, true, true, false, false] rfl rfl (any_of HT_.out (by kernel_rfl)) (fun _ _ _ h => h) (Or.inl ⟨by rfl, ?_⟩) ?_ ?_; rotate_left; · (intro w'; go_simp; with_reducible rfl)
                  rotate_left; · (simp only [Act.put, sT, sZ, sS, i64_w, i32_w]; rfl)
                  refine pure_ (i := 42) (N := some 73) (v := ?_) (a' := ?_) #[true, true, true, true, true, true, true, true, true, true, true, true, true, true, true, true, true, true, true, true, true, true, true, true, true, true, true, true, true, true, true, true, true, true, true, true, true, true, true, true, true, true, true, false] rfl rfl (any_of HT_.out (by kernel_rfl)) (fun _ _ _ h => h) (Or.inl ⟨by rfl, ?_⟩) ?_ ?_; rotate_left; · (intro w'; go_simp; with_reducible rfl)
                  rotate_left; · (simp only [Act.put, sT, sZ, sS, i64_w, i32_w]; rfl)
                  refine pure_ (i := 43) (N := some 8) (v := ?_) (a' := ?_) #[true, true, true, true, true, true, true, true, true, true, true, true, true, true, true, true, true, true, true, true, true, true, true, true, true, true, true, true, true, true, true, true, true, true, true, true, true, true, true, true, true, true, true, true] rfl rfl (any_of HT_.out (by kernel_rfl)) (fun _ _ _ h => h) (Or.inl ⟨by rfl, ?_⟩) ?_ ?_; rotate_left; · (intro w'; go_simp; with_reducible rfl)
                  rotate_left; · (simp only [Act.put, sT, sZ, sS, i64_w, i32_w]; rfl)
                  refine done_ (done_of HT_.out (by kernel_rfl)) ?_
                  try go_wp2
                  go_ret
                  exact ⟨by first | rfl | (simp [errW_none, errW_some] <;> rfl) | (simp [*, errW_none, errW_some] <;> rfl), by repeat (first | (with_reducible first | exact HB.out | apply below_alloc | apply pw_below_drewN | apply below_drew1 | refine below_set ?_ GE360.out) | exact HB.out)⟩
                · replace c29 := Bool.eq_false_iff.mpr c29
                  subst c29
                  have H1 : (none) = some r := by rw [if_neg (show ¬ (false = true) by decide)] at H; exact H
                  clear H
                  have H := H1
                  clear H1
                  exact absurd H (by simp)
              · rw [if_neg c25] at H
                have c25b0 : (t370 == t371) = false := beq_eq_false_iff_ne.mpr c25
                have c25b1 : (t370 != t371) = true := bne_iff_ne.mpr c25
                exact absurd H (by simp)
            · rw [if_neg c22] at H
              have c22b0 : (t368 == t369) = false := beq_eq_false_iff_ne.mpr c22
              have c22b1 : (t368 != t369) = true := bne_iff_ne.mpr c22
              exact absurd H (by simp)
          · replace c19 := Bool.eq_false_iff.mpr c19
            subst c19
            have H1 : (none) = some r := by rw [if_neg (show ¬ (false = true) by decide)] at H; exact H
            clear H
            have H := H1
            clear H1
            exact absurd H (by simp)
        · replace c17 := Bool.eq_false_iff.mpr c17
          subst c17
          have H1 : (none) = some r := by rw [if_neg (show ¬ (false = true) by decide)] at H; exact H
          clear H
          have H := H1
          clear H1
          exact absurd H (by simp)

/-- THE ONE PURE STATEMENT of barrowlaw16_CoolCleans. -/
def barrowlaw16_CoolCleans.Pure : Prop := ∀ (l0 : List (S35)) (a1_0 : Int) (a1_1 : Int) (a1_2 : Int) (a1_3 : Int) (a1_4 : Int) (a1_5 : Int) (a1_6 : Bool) (l1_7 : List (S76)) (a2 : Int) (a3 : Int), (l0.length ≤ maxLen ∧ l0.length * 32 ≤ 140737488351232 ∧ ∀ x379_ ∈ l0, ((Lit.int .i64 x379_.f0).wf = true) ∧ (x379_.f1.length ≤ maxLen ∧ x379_.f1.length * 8 ≤ 140737488351232 ∧ ∀ x380_ ∈ x379_.f1, (Lit.int .i64 x380_).wf = true)) → ((Lit.int .i64 a1_0).wf = true) → ((Lit.int .i64 a1_1).wf = true) → ((Lit.int .i64 a1_2).wf = true) → ((Lit.int .i64 a1_3).wf = true) → ((Lit.int .i64 a1_4).wf = true) → ((Lit.int .i64 a1_5).wf = true) → (l1_7.length ≤ maxLen ∧ l1_7.length * 24 ≤ 140737488351232 ∧ ∀ x381_ ∈ l1_7, ((Lit.int .i64 x381_.f0).wf = true) ∧ ((Lit.int .i64 x381_.f1).wf = true) ∧ ((Lit.int .i64 x381_.f2).wf = true)) → ((Lit.int .i64 a2).wf = true) → ((Lit.int .i64 a3).wf = true) → ∃ k, barrowlaw16_CoolCleans.f k l0 a1_0 a1_1 a1_2 a1_3 a1_4 a1_5 a1_6 l1_7 a2 a3 = some true

end Go.Proofs.Ytbhgohomgfjjfaa.XCO
