-- Written by xprint.py (a program of this session) for this claim
import Derived.Test.YtgffgmkfafdjjaaXSatx0
import Derived.Test.YtgffgmkfafdjjaaXSatx1
namespace Go.Proofs.Ytgffgmkfafdjjaa.XSat
open Go.Proofs.YtgffgmkfafdjjaaV
open Go.RowKit Go.Proofs.YtgffgmkfafdjjaaW.PrintWords Go.Proofs.YtgffgmkfafdjjaaW.PrintLast Go.Proofs.YtgffgmkfafdjjaaW.PrintMore
attribute [local go_sem] max2_int min2_int max_two min_two max_three min_three max_four min_four   -- for this text's walks alone
set_option linter.unusedVariables false
set_option linter.unusedSimpArgs false

/-! ### barrowlaw01_SatShares: function 7 -/
mutual
def barrowlaw01_SatShares.j0 : Nat → Int → Int → Int → Bool → Bool → Option (Bool)
  | 0, _, _, _, _, _ => none
  | k + 1, x0, x1, x2, x7, x44 => if x44 = true then (some false) else (if x0 < 0 then (barrowlaw01_SatShares.j1 k x0 x1 x2 x7 true) else (if x0 > 2147483647 then (barrowlaw01_SatShares.j1 k x0 x1 x2 x7 true) else (if x1 < 0 then (barrowlaw01_SatShares.j1 k x0 x1 x2 x7 true) else (if x1 > x2 then (barrowlaw01_SatShares.j1 k x0 x1 x2 x7 true) else (if x2 > 2147483647 then (barrowlaw01_SatShares.j1 k x0 x1 x2 x7 true) else (barrowlaw01_SatShares.j1 k x0 x1 x2 x7 (decide (x2 < 1))))))))
def barrowlaw01_SatShares.j1 : Nat → Int → Int → Int → Bool → Bool → Option (Bool)
  | 0, _, _, _, _, _ => none
  | k + 1, x0, x1, x2, x7, x67 => if x67 = true then (some x7) else ((sat_Part.f x0 x1 x2).bind fun t159 => ((sat_Part.f x0 (wrap64 (x2 - x1)) x2).bind fun t160 => ((sat_Root.f k x0).bind fun t161 => (if x7 = true then (if t159 ≥ 0 then (if t159 ≤ x0 then (if (wrap64 (t159 + t160)) ≤ x0 then (if (wrap64 (t159 + t160)) ≥ (wrap64 (x0 - 1)) then ((sat_Part.f (wrap64 (-x0)) x1 x2).bind fun t162 => (if t162 = (wrap64 (-t159)) then (if (wrap64 (t161 * t161)) ≤ x0 then (some (decide ((wrap64 ((wrap64 (t161 + 1)) * (wrap64 (t161 + 1)))) > x0))) else (some false)) else (some false))) else (some false)) else (some false)) else (some false)) else (some false)) else (some false)))))
end
def barrowlaw01_SatShares.f (k : Nat) (a0 : Int) (a1 : Int) (a2 : Int) : Option (Bool) := (barrowlaw01_small.f k).bind fun t157 => ((sat_Clamp.f a0 a1 a2).bind fun t158 => (if a1 ≤ a2 then (if t158 < a1 then (barrowlaw01_SatShares.j0 k a0 a1 a2 t157 true) else (if t158 > a2 then (barrowlaw01_SatShares.j0 k a0 a1 a2 t157 true) else (if a0 ≥ a1 then (if a0 ≤ a2 then (barrowlaw01_SatShares.j0 k a0 a1 a2 t157 (t158 != a0)) else (barrowlaw01_SatShares.j0 k a0 a1 a2 t157 false)) else (barrowlaw01_SatShares.j0 k a0 a1 a2 t157 false)))) else (barrowlaw01_SatShares.j0 k a0 a1 a2 t157 false)))
theorem barrowlaw01_SatShares.mono_l : ∀ k, (∀ y0 y1 y2 y3 y4, LeO (barrowlaw01_SatShares.j0 k y0 y1 y2 y3 y4) (barrowlaw01_SatShares.j0 (k + 1) y0 y1 y2 y3 y4)) ∧ (∀ y0 y1 y2 y3 y4, LeO (barrowlaw01_SatShares.j1 k y0 y1 y2 y3 y4) (barrowlaw01_SatShares.j1 (k + 1) y0 y1 y2 y3 y4))
  | 0 => ⟨fun _ _ _ _ _ r h => by simp [barrowlaw01_SatShares.j0] at h, fun _ _ _ _ _ r h => by simp [barrowlaw01_SatShares.j1] at h⟩
  | k + 1 => by
    obtain ⟨ih0, ih1⟩ := barrowlaw01_SatShares.mono_l k
    refine ⟨?_, ?_⟩
    · intro y0 y1 y2 y3 y4
      unfold barrowlaw01_SatShares.j0
      repeat' first
      | (with_reducible exact ih0 _ _ _ _ _)
      | (with_reducible exact ih1 _ _ _ _ _)
      | (with_reducible exact barrowlaw01_small.mono _)
      | (with_reducible exact sat_Root.mono _ _)
      | (with_reducible exact LeO.refl _)
      | (with_reducible exact LeO.none _)
      | (with_reducible refine LeO.ite ?_ ?_)
      | (with_reducible refine LeO.bind ?_ (fun _ => ?_))
      | exact ih0 _ _ _ _ _
      | exact ih1 _ _ _ _ _
      | exact barrowlaw01_small.mono _
      | exact sat_Root.mono _ _
      | exact LeO.none _
      | refine LeO.ite ?_ ?_
      | refine LeO.bind ?_ (fun _ => ?_)
    · intro y0 y1 y2 y3 y4
      unfold barrowlaw01_SatShares.j1
      repeat' first
      | (with_reducible exact ih0 _ _ _ _ _)
      | (with_reducible exact ih1 _ _ _ _ _)
      | (with_reducible exact barrowlaw01_small.mono _)
      | (with_reducible exact sat_Root.mono _ _)
      | (with_reducible exact LeO.refl _)
      | (with_reducible exact LeO.none _)
      | (with_reducible refine LeO.ite ?_ ?_)
      | (with_reducible refine LeO.bind ?_ (fun _ => ?_))
      | exact ih0 _ _ _ _ _
      | exact ih1 _ _ _ _ _
      | exact barrowlaw01_small.mono _
      | exact sat_Root.mono _ _
      | exact LeO.none _
      | refine LeO.ite ?_ ?_
      | refine LeO.bind ?_ (fun _ => ?_)
theorem barrowlaw01_SatShares.mono : ∀ a0 a1 a2 k, LeO (barrowlaw01_SatShares.f k a0 a1 a2) (barrowlaw01_SatShares.f (k + 1) a0 a1 a2) := by
  intro a0 a1 a2 k
  obtain ⟨ih0, ih1⟩ := barrowlaw01_SatShares.mono_l k
  unfold barrowlaw01_SatShares.f
  repeat' first
      | (with_reducible exact ih0 _ _ _ _ _)
      | (with_reducible exact ih1 _ _ _ _ _)
      | (with_reducible exact barrowlaw01_small.mono _)
      | (with_reducible exact sat_Root.mono _ _)
      | (with_reducible exact LeO.refl _)
      | (with_reducible exact LeO.none _)
      | (with_reducible refine LeO.ite ?_ ?_)
      | (with_reducible refine LeO.bind ?_ (fun _ => ?_))
      | exact ih0 _ _ _ _ _
      | exact ih1 _ _ _ _ _
      | exact barrowlaw01_small.mono _
      | exact sat_Root.mono _ _
      | exact LeO.none _
      | refine LeO.ite ?_ ?_
      | refine LeO.bind ?_ (fun _ => ?_)
set_option maxHeartbeats 8000000 in
set_option maxRecDepth 100000 in
theorem barrowlaw01_SatShares.calls (k : Nat) (a0 : Int) (a1 : Int) (a2 : Int) (r : Bool) (w : World) (h : barrowlaw01_SatShares.f k a0 a1 a2 = some r) :
    Calls Try.prog 7 #[.int .i64 a0, .int .i64 a1, .int .i64 a2] w fun e w' => e = .returned (.bool r) ∧ Below w.heap.size w w' := by
  have HB := Aside0.mk (Below.refl w.heap.size w)
  have H : ((barrowlaw01_small.f k).bind fun t157 => ((sat_Clamp.f a0 a1 a2).bind fun t158 => (if a1 ≤ a2 then (if t158 < a1 then (barrowlaw01_SatShares.j0 k a0 a1 a2 t157 true) else (if t158 > a2 then (barrowlaw01_SatShares.j0 k a0 a1 a2 t157 true) else (if a0 ≥ a1 then (if a0 ≤ a2 then (barrowlaw01_SatShares.j0 k a0 a1 a2 t157 (t158 != a0)) else (barrowlaw01_SatShares.j0 k a0 a1 a2 t157 false)) else (barrowlaw01_SatShares.j0 k a0 a1 a2 t157 false)))) else (barrowlaw01_SatShares.j0 k a0 a1 a2 t157 false)))) = some r := h
  clear h
  replace H := Option.bind_eq_some_iff.mp H
  obtain ⟨t157, A40, H⟩ := H
  replace H : ((sat_Clamp.f a0 a1 a2).bind fun t158 => (if a1 ≤ a2 then (if t158 < a1 then (barrowlaw01_SatShares.j0 k a0 a1 a2 t157 true) else (if t158 > a2 then (barrowlaw01_SatShares.j0 k a0 a1 a2 t157 true) else (if a0 ≥ a1 then (if a0 ≤ a2 then (barrowlaw01_SatShares.j0 k a0 a1 a2 t157 (t158 != a0)) else (barrowlaw01_SatShares.j0 k a0 a1 a2 t157 false)) else (barrowlaw01_SatShares.j0 k a0 a1 a2 t157 false)))) else (barrowlaw01_SatShares.j0 k a0 a1 a2 t157 false))) = some r := H
  have A4 := Aside0.mk A40
  clear A40
  replace H := Option.bind_eq_some_iff.mp H
  obtain ⟨t158, A50, H⟩ := H
  replace H : (if a1 ≤ a2 then (if t158 < a1 then (barrowlaw01_SatShares.j0 k a0 a1 a2 t157 true) else (if t158 > a2 then (barrowlaw01_SatShares.j0 k a0 a1 a2 t157 true) else (if a0 ≥ a1 then (if a0 ≤ a2 then (barrowlaw01_SatShares.j0 k a0 a1 a2 t157 (t158 != a0)) else (barrowlaw01_SatShares.j0 k a0 a1 a2 t157 false)) else (barrowlaw01_SatShares.j0 k a0 a1 a2 t157 false)))) else (barrowlaw01_SatShares.j0 k a0 a1 a2 t157 false)) = some r := H
  have A5 := Aside0.mk A50
  clear A50
  have HC6 := Aside0.mk H
  clear H
  go_enter Try.func7, Try.ntmps7
  go_upto_region 3 with (first | ((with_reducible refine gate_callee (f := 8) rfl ?_); refine goesL_ (some 12) rfl rfl Try.func8 (by kernel_rfl) rfl #[] rfl (by (try simp only [List.map_toArray, List.map_cons, List.map_nil]); first | done | rfl | (simp only [List.length_drop, List.length_take]; rfl)) ?_; (with_reducible refine (barrowlaw01_small.calls k  t157 _ A4.out).mono ?_); rintro e w7 ⟨rfl, hb⟩; refine ⟨_, rfl, ?_⟩; have n0_ := Aside0.mk (below_step (by repeat (first | (with_reducible first | exact HB.out | apply below_alloc | apply pw_below_drewN | apply below_drew1) | exact HB.out)) hb); clear HB; have HB := n0_; clear n0_; (try clear hb); (try clear hb2); (try clear hk); (try clear hi)) | ((with_reducible refine gate_callee (f := 15) rfl ?_); refine goesL_ (some 16) rfl rfl Try.func15 (by kernel_rfl) rfl #[.int .i64 a0, .int .i64 a1, .int .i64 a2] rfl (by (try simp only [List.map_toArray, List.map_cons, List.map_nil]); first | done | rfl | (simp only [List.length_drop, List.length_take]; rfl)) ?_; (with_reducible refine (sat_Clamp.calls a0 a1 a2 t158 _ A5.out).mono ?_); rintro e w8 ⟨rfl, hb⟩; refine ⟨_, rfl, ?_⟩; have n0_ := Aside0.mk (below_step (by repeat (first | (with_reducible first | exact HB.out | apply below_alloc | apply pw_below_drewN | apply below_drew1) | exact HB.out)) hb); clear HB; have HB := n0_; clear n0_; (try clear hb); (try clear hb2); (try clear hk); (try clear hi)))
  (try simp only [Act.put, List.setIfInBounds_toArray, List.set_cons_zero, List.set_cons_succ])
  go_cut [44] (fun v44 wc => ∃ (kq : Nat) (x44_5 : Bool), v44 = .bool x44_5 ∧ Aside0 (barrowlaw01_SatShares.j0 kq a0 a1 a2 t157 x44_5 = some r) ∧ Aside0 (kq ≤ k) ∧ Aside0 (Below w.heap.size w wc))
  case first =>
    have H := HC6.out
    clear HC6
    by_cases c9 : a1 ≤ a2
    · rw [if_pos c9] at H
      have c9b0 : decide (a1 ≤ a2) = true := decide_eq_true c9
      clear c9
      (first | rw [c9b0] | (simp only [i64_w, i32_w]; rw [c9b0]) | skip)
      by_cases c10 : t158 < a1
      · rw [if_pos c10] at H
        have c10b0 : decide (t158 < a1) = true := decide_eq_true c10
        clear c10
        have H' := Aside0.mk H
        clear H
        go_wp2
        go_meet
        case rel => exact ⟨_, (true), (by first | rfl | (simp; done) | (simp [*]; done)), H', ⟨by first | omega | exact Nat.le_refl _⟩, ⟨by repeat (first | (with_reducible first | exact HB.out | apply below_alloc | apply pw_below_drewN | apply below_drew1) | exact HB.out)⟩⟩
      · rw [if_neg c10] at H
        have c10b0 : decide (t158 < a1) = false := decide_eq_false c10
        clear c10
        by_cases c11 : t158 > a2
        · rw [if_pos c11] at H
          have c11b0 : decide (a2 < t158) = true := decide_eq_true c11
          clear c11
          have H' := Aside0.mk H
          clear H
          go_wp2
          go_meet
          case rel => exact ⟨_, (true), (by first | rfl | (simp; done) | (simp [*]; done)), H', ⟨by first | omega | exact Nat.le_refl _⟩, ⟨by repeat (first | (with_reducible first | exact HB.out | apply below_alloc | apply pw_below_drewN | apply below_drew1) | exact HB.out)⟩⟩
        · rw [if_neg c11] at H
          have c11b0 : decide (a2 < t158) = false := decide_eq_false c11
          clear c11
          by_cases c12 : a0 ≥ a1
          · rw [if_pos c12] at H
            have c12b0 : decide (a1 ≤ a0) = true := decide_eq_true c12
            clear c12
            by_cases c13 : a0 ≤ a2
            · rw [if_pos c13] at H
              have c13b0 : decide (a0 ≤ a2) = true := decide_eq_true c13
              clear c13
              have H' := Aside0.mk H
              clear H
              go_wp2
              go_meet
              case rel => exact ⟨_, ((t158 != a0)), (by first | rfl | (simp; done) | (simp [*]; done)), H', ⟨by first | omega | exact Nat.le_refl _⟩, ⟨by repeat (first | (with_reducible first | exact HB.out | apply below_alloc | apply pw_below_drewN | apply below_drew1) | exact HB.out)⟩⟩
            · rw [if_neg c13] at H
              have c13b0 : decide (a0 ≤ a2) = false := decide_eq_false c13
              clear c13
              have H' := Aside0.mk H
              clear H
              go_wp2
              go_meet
              case rel => exact ⟨_, (false), (by first | rfl | (simp; done) | (simp [*]; done)), H', ⟨by first | omega | exact Nat.le_refl _⟩, ⟨by repeat (first | (with_reducible first | exact HB.out | apply below_alloc | apply pw_below_drewN | apply below_drew1) | exact HB.out)⟩⟩
          · rw [if_neg c12] at H
            have c12b0 : decide (a1 ≤ a0) = false := decide_eq_false c12
            clear c12
            have H' := Aside0.mk H
            clear H
            go_wp2
            go_meet
            case rel => exact ⟨_, (false), (by first | rfl | (simp; done) | (simp [*]; done)), H', ⟨by first | omega | exact Nat.le_refl _⟩, ⟨by repeat (first | (with_reducible first | exact HB.out | apply below_alloc | apply pw_below_drewN | apply below_drew1) | exact HB.out)⟩⟩
    · rw [if_neg c9] at H
      have c9b0 : decide (a1 ≤ a2) = false := decide_eq_false c9
      clear c9
      (first | rw [c9b0] | (simp only [i64_w, i32_w]; rw [c9b0]) | skip)
      have H' := Aside0.mk H
      clear H
      go_wp2
      go_meet
      case rel => exact ⟨_, (false), (by first | rfl | (simp; done) | (simp [*]; done)), H', ⟨by first | omega | exact Nat.le_refl _⟩, ⟨by repeat (first | (with_reducible first | exact HB.out | apply below_alloc | apply pw_below_drewN | apply below_drew1) | exact HB.out)⟩⟩
  case rest =>
    clear HC6
    try clear c1
    try clear p2
    try clear c7
    try clear c8
    try clear c9
    try clear c9b0
    try clear c10
    try clear c10b0
    try clear c11
    try clear c11b0
    try clear c12
    try clear c12b0
    try clear c13
    try clear c13b0
    obtain ⟨kq, x44_5, rfl, HA, HJ5, HB⟩ := hcut
    cases kq with
    | zero => exact absurd HA.out (by simp [barrowlaw01_SatShares.j0])
    | succ kj5 =>
      have H := HA.out
      clear HA
      simp only [barrowlaw01_SatShares.j0] at H
      by_cases c14 : x44_5 = true
      · subst c14
        have H1 : (some false) = some r := by rw [if_pos rfl] at H; exact H
        clear H
        have H := H1
        clear H1
        obtain rfl := Option.some.inj H
        go_wp2
        go_ret
        exact ⟨by first | rfl | (simp [errW_none, errW_some] <;> rfl) | (simp [*, errW_none, errW_some] <;> rfl), by repeat (first | (with_reducible first | exact HB.out | apply below_alloc | apply pw_below_drewN | apply below_drew1) | exact HB.out)⟩
      · replace c14 := Bool.eq_false_iff.mpr c14
        subst c14
        have H1 : (if a0 < 0 then (barrowlaw01_SatShares.j1 kj5 a0 a1 a2 t157 true) else (if a0 > 2147483647 then (barrowlaw01_SatShares.j1 kj5 a0 a1 a2 t157 true) else (if a1 < 0 then (barrowlaw01_SatShares.j1 kj5 a0 a1 a2 t157 true) else (if a1 > a2 then (barrowlaw01_SatShares.j1 kj5 a0 a1 a2 t157 true) else (if a2 > 2147483647 then (barrowlaw01_SatShares.j1 kj5 a0 a1 a2 t157 true) else (barrowlaw01_SatShares.j1 kj5 a0 a1 a2 t157 (decide (a2 < 1)))))))) = some r := by rw [if_neg (show ¬ (false = true) by decide)] at H; exact H
        clear H
        have H := H1
        clear H1
        have HC15 := Aside0.mk H
        clear H
        go_upto_region 5 with (fail)
        go_cut [67] (fun v67 wc => ∃ (kq : Nat) (x67_14 : Bool), v67 = .bool x67_14 ∧ Aside0 (barrowlaw01_SatShares.j1 kq a0 a1 a2 t157 x67_14 = some r) ∧ Aside0 (kq ≤ kj5) ∧ Aside0 (Below w.heap.size w wc))
        case first =>
          have H := HC15.out
          clear HC15
          by_cases c16 : a0 < 0
          · rw [if_pos c16] at H
            have c16b0 : decide (a0 < 0) = true := decide_eq_true c16
            clear c16
            (first | rw [c16b0] | (simp only [i64_w, i32_w]; rw [c16b0]) | skip)
            have H' := Aside0.mk H
            clear H
            go_wp2
            go_meet
            case rel => exact ⟨_, (true), (by first | rfl | (simp; done) | (simp [*]; done)), H', ⟨by have := HJ5.out; first | omega | exact Nat.le_refl _⟩, ⟨by repeat (first | (with_reducible first | exact HB.out | apply below_alloc | apply pw_below_drewN | apply below_drew1) | exact HB.out)⟩⟩
          · rw [if_neg c16] at H
            have c16b0 : decide (a0 < 0) = false := decide_eq_false c16
            clear c16
            (first | rw [c16b0] | (simp only [i64_w, i32_w]; rw [c16b0]) | skip)
            by_cases c17 : a0 > 2147483647
            · rw [if_pos c17] at H
              have c17b0 : decide (2147483647 < a0) = true := decide_eq_true c17
              clear c17
              have H' := Aside0.mk H
              clear H
              go_wp2
              go_meet
              case rel => exact ⟨_, (true), (by first | rfl | (simp; done) | (simp [*]; done)), H', ⟨by have := HJ5.out; first | omega | exact Nat.le_refl _⟩, ⟨by repeat (first | (with_reducible first | exact HB.out | apply below_alloc | apply pw_below_drewN | apply below_drew1) | exact HB.out)⟩⟩
            · rw [if_neg c17] at H
              have c17b0 : decide (2147483647 < a0) = false := decide_eq_false c17
              clear c17
              by_cases c18 : a1 < 0
              · rw [if_pos c18] at H
                have c18b0 : decide (a1 < 0) = true := decide_eq_true c18
                clear c18
                have H' := Aside0.mk H
                clear H
                go_wp2
                go_meet
                case rel => exact ⟨_, (true), (by first | rfl | (simp; done) | (simp [*]; done)), H', ⟨by have := HJ5.out; first | omega | exact Nat.le_refl _⟩, ⟨by repeat (first | (with_reducible first | exact HB.out | apply below_alloc | apply pw_below_drewN | apply below_drew1) | exact HB.out)⟩⟩
              · rw [if_neg c18] at H
                have c18b0 : decide (a1 < 0) = false := decide_eq_false c18
                clear c18
                by_cases c19 : a1 > a2
                · rw [if_pos c19] at H
                  have c19b0 : decide (a2 < a1) = true := decide_eq_true c19
                  clear c19
                  have H' := Aside0.mk H
                  clear H
                  go_wp2
                  go_meet
                  case rel => exact ⟨_, (true), (by first | rfl | (simp; done) | (simp [*]; done)), H', ⟨by have := HJ5.out; first | omega | exact Nat.le_refl _⟩, ⟨by repeat (first | (with_reducible first | exact HB.out | apply below_alloc | apply pw_below_drewN | apply below_drew1) | exact HB.out)⟩⟩
                · rw [if_neg c19] at H
                  have c19b0 : decide (a2 < a1) = false := decide_eq_false c19
                  clear c19
                  by_cases c20 : a2 > 2147483647
                  · rw [if_pos c20] at H
                    have c20b0 : decide (2147483647 < a2) = true := decide_eq_true c20
                    clear c20
                    have H' := Aside0.mk H
                    clear H
                    go_wp2
                    go_meet
                    case rel => exact ⟨_, (true), (by first | rfl | (simp; done) | (simp [*]; done)), H', ⟨by have := HJ5.out; first | omega | exact Nat.le_refl _⟩, ⟨by repeat (first | (with_reducible first | exact HB.out | apply below_alloc | apply pw_below_drewN | apply below_drew1) | exact HB.out)⟩⟩
                  · rw [if_neg c20] at H
                    have c20b0 : decide (2147483647 < a2) = false := decide_eq_false c20
                    clear c20
                    have H' := Aside0.mk H
                    clear H
                    go_wp2
                    go_meet
                    case rel => exact ⟨_, (decide (a2 < 1)), (by first | rfl | (simp; done) | (simp [*]; done)), H', ⟨by have := HJ5.out; first | omega | exact Nat.le_refl _⟩, ⟨by repeat (first | (with_reducible first | exact HB.out | apply below_alloc | apply pw_below_drewN | apply below_drew1) | exact HB.out)⟩⟩
        case rest =>
          clear HC15
          try clear c1
          try clear c2
          try clear p2
          try clear c7
          try clear c8
          try clear c9
          try clear c9b0
          try clear c10
          try clear c10b0
          try clear c11
          try clear c11b0
          try clear c12
          try clear c12b0
          try clear c13
          try clear c13b0
          try clear c14
          try clear c15
          try clear c16
          try clear c16b0
          try clear c17
          try clear c17b0
          try clear c18
          try clear c18b0
          try clear c19
          try clear c19b0
          try clear c20
          try clear c20b0
          try clear p2
          obtain ⟨kq, x67_14, rfl, HA, HJ14, HB⟩ := hcut
          cases kq with
          | zero => exact absurd HA.out (by simp [barrowlaw01_SatShares.j1])
          | succ kj14 =>
            have H := HA.out
            clear HA
            simp only [barrowlaw01_SatShares.j1] at H
            by_cases c21 : x67_14 = true
            · subst c21
              have H1 : (some t157) = some r := by rw [if_pos rfl] at H; exact H
              clear H
              have H := H1
              clear H1
              obtain rfl := Option.some.inj H
              go_wp2
              go_ret
              exact ⟨by first | rfl | (simp [errW_none, errW_some] <;> rfl) | (simp [*, errW_none, errW_some] <;> rfl), by repeat (first | (with_reducible first | exact HB.out | apply below_alloc | apply pw_below_drewN | apply below_drew1) | exact HB.out)⟩
            · replace c21 := Bool.eq_false_iff.mpr c21
              subst c21
              have H1 : ((sat_Part.f a0 a1 a2).bind fun t159 => ((sat_Part.f a0 (wrap64 (a2 - a1)) a2).bind fun t160 => ((sat_Root.f kj14 a0).bind fun t161 => (if t157 = true then (if t159 ≥ 0 then (if t159 ≤ a0 then (if (wrap64 (t159 + t160)) ≤ a0 then (if (wrap64 (t159 + t160)) ≥ (wrap64 (a0 - 1)) then ((sat_Part.f (wrap64 (-a0)) a1 a2).bind fun t162 => (if t162 = (wrap64 (-t159)) then (if (wrap64 (t161 * t161)) ≤ a0 then (some (decide ((wrap64 ((wrap64 (t161 + 1)) * (wrap64 (t161 + 1)))) > a0))) else (some false)) else (some false))) else (some false)) else (some false)) else (some false)) else (some false)) else (some false))))) = some r := by rw [if_neg (show ¬ (false = true) by decide)] at H; exact H
              clear H
              have H := H1
              clear H1
              replace H := Option.bind_eq_some_iff.mp H
              obtain ⟨t159, A220, H⟩ := H
              replace H : ((sat_Part.f a0 (wrap64 (a2 - a1)) a2).bind fun t160 => ((sat_Root.f kj14 a0).bind fun t161 => (if t157 = true then (if t159 ≥ 0 then (if t159 ≤ a0 then (if (wrap64 (t159 + t160)) ≤ a0 then (if (wrap64 (t159 + t160)) ≥ (wrap64 (a0 - 1)) then ((sat_Part.f (wrap64 (-a0)) a1 a2).bind fun t162 => (if t162 = (wrap64 (-t159)) then (if (wrap64 (t161 * t161)) ≤ a0 then (some (decide ((wrap64 ((wrap64 (t161 + 1)) * (wrap64 (t161 + 1)))) > a0))) else (some false)) else (some false))) else (some false)) else (some false)) else (some false)) else (some false)) else (some false)))) = some r := H
              have A22 := Aside0.mk A220
              clear A220
              replace H := Option.bind_eq_some_iff.mp H
              obtain ⟨t160, A230, H⟩ := H
              replace H : ((sat_Root.f kj14 a0).bind fun t161 => (if t157 = true then (if t159 ≥ 0 then (if t159 ≤ a0 then (if (wrap64 (t159 + t160)) ≤ a0 then (if (wrap64 (t159 + t160)) ≥ (wrap64 (a0 - 1)) then ((sat_Part.f (wrap64 (-a0)) a1 a2).bind fun t162 => (if t162 = (wrap64 (-t159)) then (if (wrap64 (t161 * t161)) ≤ a0 then (some (decide ((wrap64 ((wrap64 (t161 + 1)) * (wrap64 (t161 + 1)))) > a0))) else (some false)) else (some false))) else (some false)) else (some false)) else (some false)) else (some false)) else (some false))) = some r := H
              have A23 := Aside0.mk A230
              clear A230
              replace H := Option.bind_eq_some_iff.mp H
              obtain ⟨t161, A240, H⟩ := H
              replace H : (if t157 = true then (if t159 ≥ 0 then (if t159 ≤ a0 then (if (wrap64 (t159 + t160)) ≤ a0 then (if (wrap64 (t159 + t160)) ≥ (wrap64 (a0 - 1)) then ((sat_Part.f (wrap64 (-a0)) a1 a2).bind fun t162 => (if t162 = (wrap64 (-t159)) then (if (wrap64 (t161 * t161)) ≤ a0 then (some (decide ((wrap64 ((wrap64 (t161 + 1)) * (wrap64 (t161 + 1)))) > a0))) else (some false)) else (some false))) else (some false)) else (some false)) else (some false)) else (some false)) else (some false)) = some r := H
              have A24 := Aside0.mk A240
              clear A240
              by_cases c25 : t157 = true
              · subst c25
                have H1 : (if t159 ≥ 0 then (if t159 ≤ a0 then (if (wrap64 (t159 + t160)) ≤ a0 then (if (wrap64 (t159 + t160)) ≥ (wrap64 (a0 - 1)) then ((sat_Part.f (wrap64 (-a0)) a1 a2).bind fun t162 => (if t162 = (wrap64 (-t159)) then (if (wrap64 (t161 * t161)) ≤ a0 then (some (decide ((wrap64 ((wrap64 (t161 + 1)) * (wrap64 (t161 + 1)))) > a0))) else (some false)) else (some false))) else (some false)) else (some false)) else (some false)) else (some false)) = some r := by rw [if_pos rfl] at H; exact H
                clear H
                have H := H1
                clear H1
                by_cases c26 : t159 ≥ 0
                · rw [if_pos c26] at H
                  have c26b0 : decide (0 ≤ t159) = true := decide_eq_true c26
                  clear c26
                  by_cases c27 : t159 ≤ a0
                  · rw [if_pos c27] at H
                    have c27b0 : decide (t159 ≤ a0) = true := decide_eq_true c27
                    clear c27
                    by_cases c28 : (wrap64 (t159 + t160)) ≤ a0
                    · rw [if_pos c28] at H
                      have c28b0 : decide ((wrap64 (t159 + t160)) ≤ a0) = true := decide_eq_true c28
                      clear c28
                      by_cases c29 : (wrap64 (t159 + t160)) ≥ (wrap64 (a0 - 1))
                      · rw [if_pos c29] at H
                        have c29b0 : decide ((wrap64 (a0 - 1)) ≤ (wrap64 (t159 + t160))) = true := decide_eq_true c29
                        clear c29
                        replace H := Option.bind_eq_some_iff.mp H
                        obtain ⟨t162, A300, H⟩ := H
                        replace H : (if t162 = (wrap64 (-t159)) then (if (wrap64 (t161 * t161)) ≤ a0 then (some (decide ((wrap64 ((wrap64 (t161 + 1)) * (wrap64 (t161 + 1)))) > a0))) else (some false)) else (some false)) = some r := H
                        have A30 := Aside0.mk A300
                        clear A300
                        by_cases c31 : t162 = (wrap64 (-t159))
                        · rw [if_pos c31] at H
                          have c31b0 : (t162 == (wrap64 (-t159))) = true := beq_iff_eq.mpr c31
                          have c31b1 : (t162 != (wrap64 (-t159))) = false := bne_eq_false_iff_eq.mpr c31
                          clear c31
                          by_cases c32 : (wrap64 (t161 * t161)) ≤ a0
                          · rw [if_pos c32] at H
                            have c32b0 : decide ((wrap64 (t161 * t161)) ≤ a0) = true := decide_eq_true c32
                            clear c32
                            obtain rfl := Option.some.inj H
                            go_wp2_with (first | ((with_reducible refine gate_callee (f := 17) rfl ?_); refine goesL_ (some 72) rfl rfl Try.func17 (by kernel_rfl) rfl #[.int .i64 a0, .int .i64 a1, .int .i64 a2] rfl (by (try simp only [List.map_toArray, List.map_cons, List.map_nil]); first | done | rfl | (simp only [List.length_drop, List.length_take]; rfl)) ?_; (with_reducible refine (sat_Part.calls a0 a1 a2 t159 _ A22.out).mono ?_); rintro e w33 ⟨rfl, hb⟩; refine ⟨_, rfl, ?_⟩; have n0_ := Aside0.mk (below_step (by repeat (first | (with_reducible first | exact HB.out | apply below_alloc | apply pw_below_drewN | apply below_drew1) | exact HB.out)) hb); clear HB; have HB := n0_; clear n0_; (try clear hb); (try clear hb2); (try clear hk); (try clear hi)) | ((with_reducible refine gate_callee (f := 17) rfl ?_); refine goesL_ (some 78) rfl rfl Try.func17 (by kernel_rfl) rfl #[.int .i64 a0, .int .i64 (wrap64 (a2 - a1)), .int .i64 a2] rfl (by (try simp only [List.map_toArray, List.map_cons, List.map_nil]); first | done | rfl | (simp only [List.length_drop, List.length_take]; rfl)) ?_; (with_reducible refine (sat_Part.calls a0 (wrap64 (a2 - a1)) a2 t160 _ A23.out).mono ?_); rintro e w34 ⟨rfl, hb⟩; refine ⟨_, rfl, ?_⟩; have n0_ := Aside0.mk (below_step (by repeat (first | (with_reducible first | exact HB.out | apply below_alloc | apply pw_below_drewN | apply below_drew1) | exact HB.out)) hb); clear HB; have HB := n0_; clear n0_; (try clear hb); (try clear hb2); (try clear hk); (try clear hi)) | ((with_reducible refine gate_callee (f := 19) rfl ?_); refine goesL_ (some 80) rfl rfl Try.func19 (by kernel_rfl) rfl #[.int .i64 a0] rfl (by (try simp only [List.map_toArray, List.map_cons, List.map_nil]); first | done | rfl | (simp only [List.length_drop, List.length_take]; rfl)) ?_; (with_reducible refine (sat_Root.calls kj14 a0 t161 _ A24.out).mono ?_); rintro e w' ⟨rfl, ⟨nd, rfl⟩⟩; refine ⟨_, rfl, ?_⟩) | (go_at_call 17; (with_reducible refine (sat_Part.calls (wrap64 (-a0)) a1 a2 t162 _ A30.out).mono ?_); rintro e w35 ⟨rfl, hb⟩; have n0_ := Aside0.mk (below_step (by repeat (first | (with_reducible first | exact HB.out | apply below_alloc | apply pw_below_drewN | apply below_drew1) | exact HB.out)) hb); clear HB; have HB := n0_; clear n0_; (try clear hb); (try clear hb2); (try clear hk); (try clear hi)))
                            go_ret
                            exact ⟨by first | rfl | (simp [errW_none, errW_some] <;> rfl) | (simp [*, errW_none, errW_some] <;> rfl), by repeat (first | (with_reducible first | exact HB.out | apply below_alloc | apply pw_below_drewN | apply below_drew1) | exact HB.out)⟩
                          · rw [if_neg c32] at H
                            have c32b0 : decide ((wrap64 (t161 * t161)) ≤ a0) = false := decide_eq_false c32
                            clear c32
                            obtain rfl := Option.some.inj H
                            go_wp2_with (first | ((with_reducible refine gate_callee (f := 17) rfl ?_); refine goesL_ (some 72) rfl rfl Try.func17 (by kernel_rfl) rfl #[.int .i64 a0, .int .i64 a1, .int .i64 a2] rfl (by (try simp only [List.map_toArray, List.map_cons, List.map_nil]); first | done | rfl | (simp only [List.length_drop, List.length_take]; rfl)) ?_; (with_reducible refine (sat_Part.calls a0 a1 a2 t159 _ A22.out).mono ?_); rintro e w36 ⟨rfl, hb⟩; refine ⟨_, rfl, ?_⟩; have n0_ := Aside0.mk (below_step (by repeat (first | (with_reducible first | exact HB.out | apply below_alloc | apply pw_below_drewN | apply below_drew1) | exact HB.out)) hb); clear HB; have HB := n0_; clear n0_; (try clear hb); (try clear hb2); (try clear hk); (try clear hi)) | ((with_reducible refine gate_callee (f := 17) rfl ?_); refine goesL_ (some 78) rfl rfl Try.func17 (by kernel_rfl) rfl #[.int .i64 a0, .int .i64 (wrap64 (a2 - a1)), .int .i64 a2] rfl (by (try simp only [List.map_toArray, List.map_cons, List.map_nil]); first | done | rfl | (simp only [List.length_drop, List.length_take]; rfl)) ?_; (with_reducible refine (sat_Part.calls a0 (wrap64 (a2 - a1)) a2 t160 _ A23.out).mono ?_); rintro e w37 ⟨rfl, hb⟩; refine ⟨_, rfl, ?_⟩; have n0_ := Aside0.mk (below_step (by repeat (first | (with_reducible first | exact HB.out | apply below_alloc | apply pw_below_drewN | apply below_drew1) | exact HB.out)) hb); clear HB; have HB := n0_; clear n0_; (try clear hb); (try clear hb2); (try clear hk); (try clear hi)) | ((with_reducible refine gate_callee (f := 19) rfl ?_); refine goesL_ (some 80) rfl rfl Try.func19 (by kernel_rfl) rfl #[.int .i64 a0] rfl (by (try simp only [List.map_toArray, List.map_cons, List.map_nil]); first | done | rfl | (simp only [List.length_drop, List.length_take]; rfl)) ?_; (with_reducible refine (sat_Root.calls kj14 a0 t161 _ A24.out).mono ?_); rintro e w' ⟨rfl, ⟨nd, rfl⟩⟩; refine ⟨_, rfl, ?_⟩) | (go_at_call 17; (with_reducible refine (sat_Part.calls (wrap64 (-a0)) a1 a2 t162 _ A30.out).mono ?_); rintro e w38 ⟨rfl, hb⟩; have n0_ := Aside0.mk (below_step (by repeat (first | (with_reducible first | exact HB.out | apply below_alloc | apply pw_below_drewN | apply below_drew1) | exact HB.out)) hb); clear HB; have HB := n0_; clear n0_; (try clear hb); (try clear hb2); (try clear hk); (try clear hi)))
                            go_ret
                            exact ⟨by first | rfl | (simp [errW_none, errW_some] <;> rfl) | (simp [*, errW_none, errW_some] <;> rfl), by repeat (first | (with_reducible first | exact HB.out | apply below_alloc | apply pw_below_drewN | apply below_drew1) | exact HB.out)⟩
                        · rw [if_neg c31] at H
                          have c31b0 : (t162 == (wrap64 (-t159))) = false := beq_eq_false_iff_ne.mpr c31
                          have c31b1 : (t162 != (wrap64 (-t159))) = true := bne_iff_ne.mpr c31
                          obtain rfl := Option.some.inj H
                          go_wp2_with (first | ((with_reducible refine gate_callee (f := 17) rfl ?_); refine goesL_ (some 72) rfl rfl Try.func17 (by kernel_rfl) rfl #[.int .i64 a0, .int .i64 a1, .int .i64 a2] rfl (by (try simp only [List.map_toArray, List.map_cons, List.map_nil]); first | done | rfl | (simp only [List.length_drop, List.length_take]; rfl)) ?_; (with_reducible refine (sat_Part.calls a0 a1 a2 t159 _ A22.out).mono ?_); rintro e w39 ⟨rfl, hb⟩; refine ⟨_, rfl, ?_⟩; have n0_ := Aside0.mk (below_step (by repeat (first | (with_reducible first | exact HB.out | apply below_alloc | apply pw_below_drewN | apply below_drew1) | exact HB.out)) hb); clear HB; have HB := n0_; clear n0_; (try clear hb); (try clear hb2); (try clear hk); (try clear hi)) | ((with_reducible refine gate_callee (f := 17) rfl ?_); refine goesL_ (some 78) rfl rfl Try.func17 (by kernel_rfl) rfl #[.int .i64 a0, .int .i64 (wrap64 (a2 - a1)), .int .i64 a2] rfl (by (try simp only [List.map_toArray, List.map_cons, List.map_nil]); first | done | rfl | (simp only [List.length_drop, List.length_take]; rfl)) ?_; (with_reducible refine (sat_Part.calls a0 (wrap64 (a2 - a1)) a2 t160 _ A23.out).mono ?_); rintro e w40 ⟨rfl, hb⟩; refine ⟨_, rfl, ?_⟩; have n0_ := Aside0.mk (below_step (by repeat (first | (with_reducible first | exact HB.out | apply below_alloc | apply pw_below_drewN | apply below_drew1) | exact HB.out)) hb); clear HB; have HB := n0_; clear n0_; (try clear hb); (try clear hb2); (try clear hk); (try clear hi)) | ((with_reducible refine gate_callee (f := 19) rfl ?_); refine goesL_ (some 80) rfl rfl Try.func19 (by kernel_rfl) rfl #[.int .i64 a0] rfl (by (try simp only [List.map_toArray, List.map_cons, List.map_nil]); first | done | rfl | (simp only [List.length_drop, List.length_take]; rfl)) ?_; (with_reducible refine (sat_Root.calls kj14 a0 t161 _ A24.out).mono ?_); rintro e w' ⟨rfl, ⟨nd, rfl⟩⟩; refine ⟨_, rfl, ?_⟩) | (go_at_call 17; (with_reducible refine (sat_Part.calls (wrap64 (-a0)) a1 a2 t162 _ A30.out).mono ?_); rintro e w41 ⟨rfl, hb⟩; have n0_ := Aside0.mk (below_step (by repeat (first | (with_reducible first | exact HB.out | apply below_alloc | apply pw_below_drewN | apply below_drew1) | exact HB.out)) hb); clear HB; have HB := n0_; clear n0_; (try clear hb); (try clear hb2); (try clear hk); (try clear hi)))
                          go_ret
                          exact ⟨by first | rfl | (simp [errW_none, errW_some] <;> rfl) | (simp [*, errW_none, errW_some] <;> rfl), by repeat (first | (with_reducible first | exact HB.out | apply below_alloc | apply pw_below_drewN | apply below_drew1) | exact HB.out)⟩
                      · rw [if_neg c29] at H
                        have c29b0 : decide ((wrap64 (a0 - 1)) ≤ (wrap64 (t159 + t160))) = false := decide_eq_false c29
                        clear c29
                        obtain rfl := Option.some.inj H
                        go_wp2_with (first | ((with_reducible refine gate_callee (f := 17) rfl ?_); refine goesL_ (some 72) rfl rfl Try.func17 (by kernel_rfl) rfl #[.int .i64 a0, .int .i64 a1, .int .i64 a2] rfl (by (try simp only [List.map_toArray, List.map_cons, List.map_nil]); first | done | rfl | (simp only [List.length_drop, List.length_take]; rfl)) ?_; (with_reducible refine (sat_Part.calls a0 a1 a2 t159 _ A22.out).mono ?_); rintro e w42 ⟨rfl, hb⟩; refine ⟨_, rfl, ?_⟩; have n0_ := Aside0.mk (below_step (by repeat (first | (with_reducible first | exact HB.out | apply below_alloc | apply pw_below_drewN | apply below_drew1) | exact HB.out)) hb); clear HB; have HB := n0_; clear n0_; (try clear hb); (try clear hb2); (try clear hk); (try clear hi)) | ((with_reducible refine gate_callee (f := 17) rfl ?_); refine goesL_ (some 78) rfl rfl Try.func17 (by kernel_rfl) rfl #[.int .i64 a0, .int .i64 (wrap64 (a2 - a1)), .int .i64 a2] rfl (by (try simp only [List.map_toArray, List.map_cons, List.map_nil]); first | done | rfl | (simp only [List.length_drop, List.length_take]; rfl)) ?_; (with_reducible refine (sat_Part.calls a0 (wrap64 (a2 - a1)) a2 t160 _ A23.out).mono ?_); rintro e w43 ⟨rfl, hb⟩; refine ⟨_, rfl, ?_⟩; have n0_ := Aside0.mk (below_step (by repeat (first | (with_reducible first | exact HB.out | apply below_alloc | apply pw_below_drewN | apply below_drew1) | exact HB.out)) hb); clear HB; have HB := n0_; clear n0_; (try clear hb); (try clear hb2); (try clear hk); (try clear hi)) | ((with_reducible refine gate_callee (f := 19) rfl ?_); refine goesL_ (some 80) rfl rfl Try.func19 (by kernel_rfl) rfl #[.int .i64 a0] rfl (by (try simp only [List.map_toArray, List.map_cons, List.map_nil]); first | done | rfl | (simp only [List.length_drop, List.length_take]; rfl)) ?_; (with_reducible refine (sat_Root.calls kj14 a0 t161 _ A24.out).mono ?_); rintro e w' ⟨rfl, ⟨nd, rfl⟩⟩; refine ⟨_, rfl, ?_⟩))
                        go_ret
                        exact ⟨by first | rfl | (simp [errW_none, errW_some] <;> rfl) | (simp [*, errW_none, errW_some] <;> rfl), by repeat (first | (with_reducible first | exact HB.out | apply below_alloc | apply pw_below_drewN | apply below_drew1) | exact HB.out)⟩
                    · rw [if_neg c28] at H
                      have c28b0 : decide ((wrap64 (t159 + t160)) ≤ a0) = false := decide_eq_false c28
                      clear c28
                      obtain rfl := Option.some.inj H
                      go_wp2_with (first | ((with_reducible refine gate_callee (f := 17) rfl ?_); refine goesL_ (some 72) rfl rfl Try.func17 (by kernel_rfl) rfl #[.int .i64 a0, .int .i64 a1, .int .i64 a2] rfl (by (try simp only [List.map_toArray, List.map_cons, List.map_nil]); first | done | rfl | (simp only [List.length_drop, List.length_take]; rfl)) ?_; (with_reducible refine (sat_Part.calls a0 a1 a2 t159 _ A22.out).mono ?_); rintro e w44 ⟨rfl, hb⟩; refine ⟨_, rfl, ?_⟩; have n0_ := Aside0.mk (below_step (by repeat (first | (with_reducible first | exact HB.out | apply below_alloc | apply pw_below_drewN | apply below_drew1) | exact HB.out)) hb); clear HB; have HB := n0_; clear n0_; (try clear hb); (try clear hb2); (try clear hk); (try clear hi)) | ((with_reducible refine gate_callee (f := 17) rfl ?_); refine goesL_ (some 78) rfl rfl Try.func17 (by kernel_rfl) rfl #[.int .i64 a0, .int .i64 (wrap64 (a2 - a1)), .int .i64 a2] rfl (by (try simp only [List.map_toArray, List.map_cons, List.map_nil]); first | done | rfl | (simp only [List.length_drop, List.length_take]; rfl)) ?_; (with_reducible refine (sat_Part.calls a0 (wrap64 (a2 - a1)) a2 t160 _ A23.out).mono ?_); rintro e w45 ⟨rfl, hb⟩; refine ⟨_, rfl, ?_⟩; have n0_ := Aside0.mk (below_step (by repeat (first | (with_reducible first | exact HB.out | apply below_alloc | apply pw_below_drewN | apply below_drew1) | exact HB.out)) hb); clear HB; have HB := n0_; clear n0_; (try clear hb); (try clear hb2); (try clear hk); (try clear hi)) | ((with_reducible refine gate_callee (f := 19) rfl ?_); refine goesL_ (some 80) rfl rfl Try.func19 (by kernel_rfl) rfl #[.int .i64 a0] rfl (by (try simp only [List.map_toArray, List.map_cons, List.map_nil]); first | done | rfl | (simp only [List.length_drop, List.length_take]; rfl)) ?_; (with_reducible refine (sat_Root.calls kj14 a0 t161 _ A24.out).mono ?_); rintro e w' ⟨rfl, ⟨nd, rfl⟩⟩; refine ⟨_, rfl, ?_⟩))
                      go_ret
                      exact ⟨by first | rfl | (simp [errW_none, errW_some] <;> rfl) | (simp [*, errW_none, errW_some] <;> rfl), by repeat (first | (with_reducible first | exact HB.out | apply below_alloc | apply pw_below_drewN | apply below_drew1) | exact HB.out)⟩
                  · rw [if_neg c27] at H
                    have c27b0 : decide (t159 ≤ a0) = false := decide_eq_false c27
                    clear c27
                    obtain rfl := Option.some.inj H
                    go_wp2_with (first | ((with_reducible refine gate_callee (f := 17) rfl ?_); refine goesL_ (some 72) rfl rfl Try.func17 (by kernel_rfl) rfl #[.int .i64 a0, .int .i64 a1, .int .i64 a2] rfl (by (try simp only [List.map_toArray, List.map_cons, List.map_nil]); first | done | rfl | (simp only [List.length_drop, List.length_take]; rfl)) ?_; (with_reducible refine (sat_Part.calls a0 a1 a2 t159 _ A22.out).mono ?_); rintro e w46 ⟨rfl, hb⟩; refine ⟨_, rfl, ?_⟩; have n0_ := Aside0.mk (below_step (by repeat (first | (with_reducible first | exact HB.out | apply below_alloc | apply pw_below_drewN | apply below_drew1) | exact HB.out)) hb); clear HB; have HB := n0_; clear n0_; (try clear hb); (try clear hb2); (try clear hk); (try clear hi)) | ((with_reducible refine gate_callee (f := 17) rfl ?_); refine goesL_ (some 78) rfl rfl Try.func17 (by kernel_rfl) rfl #[.int .i64 a0, .int .i64 (wrap64 (a2 - a1)), .int .i64 a2] rfl (by (try simp only [List.map_toArray, List.map_cons, List.map_nil]); first | done | rfl | (simp only [List.length_drop, List.length_take]; rfl)) ?_; (with_reducible refine (sat_Part.calls a0 (wrap64 (a2 - a1)) a2 t160 _ A23.out).mono ?_); rintro e w47 ⟨rfl, hb⟩; refine ⟨_, rfl, ?_⟩; have n0_ := Aside0.mk (below_step (by repeat (first | (with_reducible first | exact HB.out | apply below_alloc | apply pw_below_drewN | apply below_drew1) | exact HB.out)) hb); clear HB; have HB := n0_; clear n0_; (try clear hb); (try clear hb2); (try clear hk); (try clear hi)) | ((with_reducible refine gate_callee (f := 19) rfl ?_); refine goesL_ (some 80) rfl rfl Try.func19 (by kernel_rfl) rfl #[.int .i64 a0] rfl (by (try simp only [List.map_toArray, List.map_cons, List.map_nil]); first | done | rfl | (simp only [List.length_drop, List.length_take]; rfl)) ?_; (with_reducible refine (sat_Root.calls kj14 a0 t161 _ A24.out).mono ?_); rintro e w' ⟨rfl, ⟨nd, rfl⟩⟩; refine ⟨_, rfl, ?_⟩))
                    go_ret
                    exact ⟨by first | rfl | (simp [errW_none, errW_some] <;> rfl) | (simp [*, errW_none, errW_some] <;> rfl), by repeat (first | (with_reducible first | exact HB.out | apply below_alloc | apply pw_below_drewN | apply below_drew1) | exact HB.out)⟩
                · rw [if_neg c26] at H
                  have c26b0 : decide (0 ≤ t159) = false := decide_eq_false c26
                  clear c26
                  obtain rfl := Option.some.inj H
                  go_wp2_with (first | ((with_reducible refine gate_callee (f := 17) rfl ?_); refine goesL_ (some 72) rfl rfl Try.func17 (by kernel_rfl) rfl #[.int .i64 a0, .int .i64 a1, .int .i64 a2] rfl (by (try simp only [List.map_toArray, List.map_cons, List.map_nil]); first | done | rfl | (simp only [List.length_drop, List.length_take]; rfl)) ?_; (with_reducible refine (sat_Part.calls a0 a1 a2 t159 _ A22.out).mono ?_); rintro e w48 ⟨rfl, hb⟩; refine ⟨_, rfl, ?_⟩; have n0_ := Aside0.mk (below_step (by repeat (first | (with_reducible first | exact HB.out | apply below_alloc | apply pw_below_drewN | apply below_drew1) | exact HB.out)) hb); clear HB; have HB := n0_; clear n0_; (try clear hb); (try clear hb2); (try clear hk); (try clear hi)) | ((with_reducible refine gate_callee (f := 17) rfl ?_); refine goesL_ (some 78) rfl rfl Try.func17 (by kernel_rfl) rfl #[.int .i64 a0, .int .i64 (wrap64 (a2 - a1)), .int .i64 a2] rfl (by (try simp only [List.map_toArray, List.map_cons, List.map_nil]); first | done | rfl | (simp only [List.length_drop, List.length_take]; rfl)) ?_; (with_reducible refine (sat_Part.calls a0 (wrap64 (a2 - a1)) a2 t160 _ A23.out).mono ?_); rintro e w49 ⟨rfl, hb⟩; refine ⟨_, rfl, ?_⟩; have n0_ := Aside0.mk (below_step (by repeat (first | (with_reducible first | exact HB.out | apply below_alloc | apply pw_below_drewN | apply below_drew1) | exact HB.out)) hb); clear HB; have HB := n0_; clear n0_; (try clear hb); (try clear hb2); (try clear hk); (try clear hi)) | ((with_reducible refine gate_callee (f := 19) rfl ?_); refine goesL_ (some 80) rfl rfl Try.func19 (by kernel_rfl) rfl #[.int .i64 a0] rfl (by (try simp only [List.map_toArray, List.map_cons, List.map_nil]); first | done | rfl | (simp only [List.length_drop, List.length_take]; rfl)) ?_; (with_reducible refine (sat_Root.calls kj14 a0 t161 _ A24.out).mono ?_); rintro e w' ⟨rfl, ⟨nd, rfl⟩⟩; refine ⟨_, rfl, ?_⟩))
                  go_ret
                  exact ⟨by first | rfl | (simp [errW_none, errW_some] <;> rfl) | (simp [*, errW_none, errW_some] <;> rfl), by repeat (first | (with_reducible first | exact HB.out | apply below_alloc | apply pw_below_drewN | apply below_drew1) | exact HB.out)⟩
              · replace c25 := Bool.eq_false_iff.mpr c25
                subst c25
                have H1 : (some false) = some r := by rw [if_neg (show ¬ (false = true) by decide)] at H; exact H
                clear H
                have H := H1
                clear H1
                obtain rfl := Option.some.inj H
                go_wp2_with (first | ((with_reducible refine gate_callee (f := 17) rfl ?_); refine goesL_ (some 72) rfl rfl Try.func17 (by kernel_rfl) rfl #[.int .i64 a0, .int .i64 a1, .int .i64 a2] rfl (by (try simp only [List.map_toArray, List.map_cons, List.map_nil]); first | done | rfl | (simp only [List.length_drop, List.length_take]; rfl)) ?_; (with_reducible refine (sat_Part.calls a0 a1 a2 t159 _ A22.out).mono ?_); rintro e w50 ⟨rfl, hb⟩; refine ⟨_, rfl, ?_⟩; have n0_ := Aside0.mk (below_step (by repeat (first | (with_reducible first | exact HB.out | apply below_alloc | apply pw_below_drewN | apply below_drew1) | exact HB.out)) hb); clear HB; have HB := n0_; clear n0_; (try clear hb); (try clear hb2); (try clear hk); (try clear hi)) | ((with_reducible refine gate_callee (f := 17) rfl ?_); refine goesL_ (some 78) rfl rfl Try.func17 (by kernel_rfl) rfl #[.int .i64 a0, .int .i64 (wrap64 (a2 - a1)), .int .i64 a2] rfl (by (try simp only [List.map_toArray, List.map_cons, List.map_nil]); first | done | rfl | (simp only [List.length_drop, List.length_take]; rfl)) ?_; (with_reducible refine (sat_Part.calls a0 (wrap64 (a2 - a1)) a2 t160 _ A23.out).mono ?_); rintro e w51 ⟨rfl, hb⟩; refine ⟨_, rfl, ?_⟩; have n0_ := Aside0.mk (below_step (by repeat (first | (with_reducible first | exact HB.out | apply below_alloc | apply pw_below_drewN | apply below_drew1) | exact HB.out)) hb); clear HB; have HB := n0_; clear n0_; (try clear hb); (try clear hb2); (try clear hk); (try clear hi)) | ((with_reducible refine gate_callee (f := 19) rfl ?_); refine goesL_ (some 80) rfl rfl Try.func19 (by kernel_rfl) rfl #[.int .i64 a0] rfl (by (try simp only [List.map_toArray, List.map_cons, List.map_nil]); first | done | rfl | (simp only [List.length_drop, List.length_take]; rfl)) ?_; (with_reducible refine (sat_Root.calls kj14 a0 t161 _ A24.out).mono ?_); rintro e w' ⟨rfl, ⟨nd, rfl⟩⟩; refine ⟨_, rfl, ?_⟩))
                go_ret
                exact ⟨by first | rfl | (simp [errW_none, errW_some] <;> rfl) | (simp [*, errW_none, errW_some] <;> rfl), by repeat (first | (with_reducible first | exact HB.out | apply below_alloc | apply pw_below_drewN | apply below_drew1) | exact HB.out)⟩

/-- THE ONE PURE STATEMENT of barrowlaw01_SatShares: yours. -/
def barrowlaw01_SatShares.Pure : Prop := ∀ (a0 : Int) (a1 : Int) (a2 : Int), (Lit.int .i64 a0).wf = true → (Lit.int .i64 a1).wf = true → (Lit.int .i64 a2).wf = true → ∃ k, barrowlaw01_SatShares.f k a0 a1 a2 = some true
theorem barrowlaw01_SatShares.walk (P : barrowlaw01_SatShares.Pure) (a0 : Int) (a1 : Int) (a2 : Int) (w : World) (w0 : (Lit.int .i64 a0).wf = true) (w1 : (Lit.int .i64 a1).wf = true) (w2 : (Lit.int .i64 a2).wf = true) :
    Calls Try.prog 7 #[.int .i64 a0, .int .i64 a1, .int .i64 a2] w fun e w' => e = .returned (.bool true) ∧ Below w.heap.size w w' := by
  obtain ⟨k, h⟩ := P a0 a1 a2 w0 w1 w2
  refine (barrowlaw01_SatShares.calls k a0 a1 a2 true w h).mono ?_
  rintro e w' ⟨rfl, hd⟩
  exact ⟨rfl, hd⟩

end Go.Proofs.Ytgffgmkfafdjjaa.XSat
