-- Written by xprint.py (a program of this session) for this claim
import Derived.Test.YtgffgmkfafdjjaaXSatx0
import Derived.Test.YtgffgmkfafdjjaaXSatx1
namespace Go.Proofs.Ytgffgmkfafdjjaa.XSat
open Go.Proofs.YtgffgmkfafdjjaaV
open Go.RowKit Go.Proofs.YtgffgmkfafdjjaaW.PrintWords Go.Proofs.YtgffgmkfafdjjaaW.PrintLast Go.Proofs.YtgffgmkfafdjjaaW.PrintMore
attribute [local go_sem] max2_int min2_int max_two min_two max_three min_three max_four min_four   -- for this text's walks alone
set_option linter.unusedVariables false
set_option linter.unusedSimpArgs false

/-! ### barrowlaw01_SatTurns: function 5 -/
def barrowlaw01_SatTurns.j0 : Nat → Int → Int → Bool → Bool → Option (Bool)
  | 0, _, _, _, _ => none
  | k + 1, x0, x1, x5, x6 => if x5 = true then (if x6 = true then ((sat_Add.f k x0 x1).bind fun t140 => ((sat_Add.f k x1 x0).bind fun t141 => (if t140 = t141 then ((sat_Mul.f x0 x1).bind fun t142 => ((sat_Mul.f x1 x0).bind fun t143 => (if t142 = t143 then ((sat_Add.f k (wrap64 (Int.tdiv x0 2)) (wrap64 (Int.tdiv x1 2))).bind fun t144 => (if t144 = (wrap64 ((wrap64 (Int.tdiv x0 2)) + (wrap64 (Int.tdiv x1 2)))) then ((sat_Mul.f x0 1).bind fun t145 => (if t145 = x0 then ((sat_Mul.f x0 0).bind fun t146 => (if t146 = 0 then ((sat_Add.f k x0 0).bind fun t147 => (some (t147 == x0))) else (some false))) else (some false))) else (some false))) else (some false)))) else (some false)))) else (some false)) else (some false)
def barrowlaw01_SatTurns.f (k : Nat) (a0 : Int) (a1 : Int) : Option (Bool) := (barrowlaw01_small.f k).bind fun t137 => (if a1 = (-9223372036854775808) then (barrowlaw01_SatTurns.j0 k a0 a1 t137 true) else ((sat_Sub.f k a0 a1).bind fun t138 => ((sat_Add.f k a0 (wrap64 (-a1))).bind fun t139 => (barrowlaw01_SatTurns.j0 k a0 a1 t137 (t138 == t139)))))
theorem barrowlaw01_SatTurns.mono_l : ∀ k, (∀ y0 y1 y2 y3, LeO (barrowlaw01_SatTurns.j0 k y0 y1 y2 y3) (barrowlaw01_SatTurns.j0 (k + 1) y0 y1 y2 y3))
  | 0 => fun _ _ _ _ r h => by simp [barrowlaw01_SatTurns.j0] at h
  | k + 1 => by
    have ih0 := barrowlaw01_SatTurns.mono_l k
    · intro y0 y1 y2 y3
      unfold barrowlaw01_SatTurns.j0
      repeat' first
      | (with_reducible exact ih0 _ _ _ _)
      | (with_reducible exact barrowlaw01_small.mono _)
      | (with_reducible exact sat_Add.mono _ _ _)
      | (with_reducible exact sat_Sub.mono _ _ _)
      | (with_reducible exact LeO.refl _)
      | (with_reducible exact LeO.none _)
      | (with_reducible refine LeO.ite ?_ ?_)
      | (with_reducible refine LeO.bind ?_ (fun _ => ?_))
      | exact ih0 _ _ _ _
      | exact barrowlaw01_small.mono _
      | exact sat_Add.mono _ _ _
      | exact sat_Sub.mono _ _ _
      | exact LeO.none _
      | refine LeO.ite ?_ ?_
      | refine LeO.bind ?_ (fun _ => ?_)
theorem barrowlaw01_SatTurns.mono : ∀ a0 a1 k, LeO (barrowlaw01_SatTurns.f k a0 a1) (barrowlaw01_SatTurns.f (k + 1) a0 a1) := by
  intro a0 a1 k
  have ih0 := barrowlaw01_SatTurns.mono_l k
  unfold barrowlaw01_SatTurns.f
  repeat' first
      | (with_reducible exact ih0 _ _ _ _)
      | (with_reducible exact barrowlaw01_small.mono _)
      | (with_reducible exact sat_Add.mono _ _ _)
      | (with_reducible exact sat_Sub.mono _ _ _)
      | (with_reducible exact LeO.refl _)
      | (with_reducible exact LeO.none _)
      | (with_reducible refine LeO.ite ?_ ?_)
      | (with_reducible refine LeO.bind ?_ (fun _ => ?_))
      | exact ih0 _ _ _ _
      | exact barrowlaw01_small.mono _
      | exact sat_Add.mono _ _ _
      | exact sat_Sub.mono _ _ _
      | exact LeO.none _
      | refine LeO.ite ?_ ?_
      | refine LeO.bind ?_ (fun _ => ?_)
set_option maxHeartbeats 8000000 in
set_option maxRecDepth 100000 in
theorem barrowlaw01_SatTurns.calls (k : Nat) (a0 : Int) (a1 : Int) (r : Bool) (w : World) (h : barrowlaw01_SatTurns.f k a0 a1 = some r) :
    Calls Try.prog 5 #[.int .i64 a0, .int .i64 a1] w fun e w' => e = .returned (.bool r) ∧ Below w.heap.size w w' := by
  have HB := Aside0.mk (Below.refl w.heap.size w)
  have H : ((barrowlaw01_small.f k).bind fun t137 => (if a1 = (-9223372036854775808) then (barrowlaw01_SatTurns.j0 k a0 a1 t137 true) else ((sat_Sub.f k a0 a1).bind fun t138 => ((sat_Add.f k a0 (wrap64 (-a1))).bind fun t139 => (barrowlaw01_SatTurns.j0 k a0 a1 t137 (t138 == t139)))))) = some r := h
  clear h
  replace H := Option.bind_eq_some_iff.mp H
  obtain ⟨t137, A30, H⟩ := H
  replace H : (if a1 = (-9223372036854775808) then (barrowlaw01_SatTurns.j0 k a0 a1 t137 true) else ((sat_Sub.f k a0 a1).bind fun t138 => ((sat_Add.f k a0 (wrap64 (-a1))).bind fun t139 => (barrowlaw01_SatTurns.j0 k a0 a1 t137 (t138 == t139))))) = some r := H
  have A3 := Aside0.mk A30
  clear A30
  have HC4 := Aside0.mk H
  clear H
  go_enter Try.func5, Try.ntmps5
  go_upto_region 2 with (first | ((with_reducible refine gate_callee (f := 8) rfl ?_); refine goesL_ (some 8) rfl rfl Try.func8 (by kernel_rfl) rfl #[] rfl (by (try simp only [List.map_toArray, List.map_cons, List.map_nil]); first | done | rfl | (simp only [List.length_drop, List.length_take]; rfl)) ?_; (with_reducible refine (barrowlaw01_small.calls k  t137 _ A3.out).mono ?_); rintro e w5 ⟨rfl, hb⟩; refine ⟨_, rfl, ?_⟩; have n0_ := Aside0.mk (below_step (by repeat (first | (with_reducible first | exact HB.out | apply below_alloc | apply pw_below_drewN | apply below_drew1) | exact HB.out)) hb); clear HB; have HB := n0_; clear n0_; (try clear hb); (try clear hb2); (try clear hk); (try clear hi)))
  (try simp only [Act.put, List.setIfInBounds_toArray, List.set_cons_zero, List.set_cons_succ])
  go_cut [6] (fun v6 wc => ∃ (kq : Nat) (x6_3 : Bool), v6 = .bool x6_3 ∧ Aside0 (barrowlaw01_SatTurns.j0 kq a0 a1 t137 x6_3 = some r) ∧ Aside0 (kq ≤ k) ∧ Aside0 (Below w.heap.size w wc))
  case first =>
    have H := HC4.out
    clear HC4
    by_cases c6 : a1 = (-9223372036854775808)
    · rw [if_pos c6] at H
      have c6b0 : (a1 == (-9223372036854775808)) = true := beq_iff_eq.mpr c6
      have c6b1 : (a1 != (-9223372036854775808)) = false := bne_eq_false_iff_eq.mpr c6
      clear c6
      (first | rw [c6b0] | (simp only [i64_w, i32_w]; rw [c6b0]) | skip)
      have H' := Aside0.mk H
      clear H
      go_wp2
      go_meet
      case rel => exact ⟨_, (true), (by first | rfl | (simp; done) | (simp [*]; done)), H', ⟨by first | omega | exact Nat.le_refl _⟩, ⟨by repeat (first | (with_reducible first | exact HB.out | apply below_alloc | apply pw_below_drewN | apply below_drew1) | exact HB.out)⟩⟩
    · rw [if_neg c6] at H
      have c6b0 : (a1 == (-9223372036854775808)) = false := beq_eq_false_iff_ne.mpr c6
      have c6b1 : (a1 != (-9223372036854775808)) = true := bne_iff_ne.mpr c6
      (first | rw [c6b0] | (simp only [i64_w, i32_w]; rw [c6b0]) | skip)
      replace H := Option.bind_eq_some_iff.mp H
      obtain ⟨t138, A70, H⟩ := H
      replace H : ((sat_Add.f k a0 (wrap64 (-a1))).bind fun t139 => (barrowlaw01_SatTurns.j0 k a0 a1 t137 (t138 == t139))) = some r := H
      have A7 := Aside0.mk A70
      clear A70
      replace H := Option.bind_eq_some_iff.mp H
      obtain ⟨t139, A80, H⟩ := H
      replace H : (barrowlaw01_SatTurns.j0 k a0 a1 t137 (t138 == t139)) = some r := H
      have A8 := Aside0.mk A80
      clear A80
      have H' := Aside0.mk H
      clear H
      go_wp2_with (first | (go_at_call 11; (with_reducible refine (sat_Sub.calls k a0 a1 t138 _ A7.out).mono ?_); rintro e w' ⟨rfl, ⟨nd, rfl⟩⟩) | (go_at_call 9; (with_reducible refine (sat_Add.calls k a0 (wrap64 (-a1)) t139 _ A8.out).mono ?_); rintro e w' ⟨rfl, ⟨nd, rfl⟩⟩))
      go_meet
      case rel => exact ⟨_, ((t138 == t139)), (by first | rfl | (simp; done) | (simp [*]; done)), H', ⟨by first | omega | exact Nat.le_refl _⟩, ⟨by repeat (first | (with_reducible first | exact HB.out | apply below_alloc | apply pw_below_drewN | apply below_drew1) | exact HB.out)⟩⟩
  case rest =>
    clear HC4
    try clear p2
    try clear c5
    try clear c6
    try clear c6b0
    try clear c6b1
    try clear p6
    try clear c8
    obtain ⟨kq, x6_3, rfl, HA, HJ3, HB⟩ := hcut
    cases kq with
    | zero => exact absurd HA.out (by simp [barrowlaw01_SatTurns.j0])
    | succ kj3 =>
      have H := HA.out
      clear HA
      simp only [barrowlaw01_SatTurns.j0] at H
      by_cases c9 : t137 = true
      · subst c9
        have H1 : (if x6_3 = true then ((sat_Add.f kj3 a0 a1).bind fun t140 => ((sat_Add.f kj3 a1 a0).bind fun t141 => (if t140 = t141 then ((sat_Mul.f a0 a1).bind fun t142 => ((sat_Mul.f a1 a0).bind fun t143 => (if t142 = t143 then ((sat_Add.f kj3 (wrap64 (Int.tdiv a0 2)) (wrap64 (Int.tdiv a1 2))).bind fun t144 => (if t144 = (wrap64 ((wrap64 (Int.tdiv a0 2)) + (wrap64 (Int.tdiv a1 2)))) then ((sat_Mul.f a0 1).bind fun t145 => (if t145 = a0 then ((sat_Mul.f a0 0).bind fun t146 => (if t146 = 0 then ((sat_Add.f kj3 a0 0).bind fun t147 => (some (t147 == a0))) else (some false))) else (some false))) else (some false))) else (some false)))) else (some false)))) else (some false)) = some r := by rw [if_pos rfl] at H; exact H
        clear H
        have H := H1
        clear H1
        by_cases c10 : x6_3 = true
        · subst c10
          have H1 : ((sat_Add.f kj3 a0 a1).bind fun t140 => ((sat_Add.f kj3 a1 a0).bind fun t141 => (if t140 = t141 then ((sat_Mul.f a0 a1).bind fun t142 => ((sat_Mul.f a1 a0).bind fun t143 => (if t142 = t143 then ((sat_Add.f kj3 (wrap64 (Int.tdiv a0 2)) (wrap64 (Int.tdiv a1 2))).bind fun t144 => (if t144 = (wrap64 ((wrap64 (Int.tdiv a0 2)) + (wrap64 (Int.tdiv a1 2)))) then ((sat_Mul.f a0 1).bind fun t145 => (if t145 = a0 then ((sat_Mul.f a0 0).bind fun t146 => (if t146 = 0 then ((sat_Add.f kj3 a0 0).bind fun t147 => (some (t147 == a0))) else (some false))) else (some false))) else (some false))) else (some false)))) else (some false)))) = some r := by rw [if_pos rfl] at H; exact H
          clear H
          have H := H1
          clear H1
          replace H := Option.bind_eq_some_iff.mp H
          obtain ⟨t140, A110, H⟩ := H
          replace H : ((sat_Add.f kj3 a1 a0).bind fun t141 => (if t140 = t141 then ((sat_Mul.f a0 a1).bind fun t142 => ((sat_Mul.f a1 a0).bind fun t143 => (if t142 = t143 then ((sat_Add.f kj3 (wrap64 (Int.tdiv a0 2)) (wrap64 (Int.tdiv a1 2))).bind fun t144 => (if t144 = (wrap64 ((wrap64 (Int.tdiv a0 2)) + (wrap64 (Int.tdiv a1 2)))) then ((sat_Mul.f a0 1).bind fun t145 => (if t145 = a0 then ((sat_Mul.f a0 0).bind fun t146 => (if t146 = 0 then ((sat_Add.f kj3 a0 0).bind fun t147 => (some (t147 == a0))) else (some false))) else (some false))) else (some false))) else (some false)))) else (some false))) = some r := H
          have A11 := Aside0.mk A110
          clear A110
          replace H := Option.bind_eq_some_iff.mp H
          obtain ⟨t141, A120, H⟩ := H
          replace H : (if t140 = t141 then ((sat_Mul.f a0 a1).bind fun t142 => ((sat_Mul.f a1 a0).bind fun t143 => (if t142 = t143 then ((sat_Add.f kj3 (wrap64 (Int.tdiv a0 2)) (wrap64 (Int.tdiv a1 2))).bind fun t144 => (if t144 = (wrap64 ((wrap64 (Int.tdiv a0 2)) + (wrap64 (Int.tdiv a1 2)))) then ((sat_Mul.f a0 1).bind fun t145 => (if t145 = a0 then ((sat_Mul.f a0 0).bind fun t146 => (if t146 = 0 then ((sat_Add.f kj3 a0 0).bind fun t147 => (some (t147 == a0))) else (some false))) else (some false))) else (some false))) else (some false)))) else (some false)) = some r := H
          have A12 := Aside0.mk A120
          clear A120
          by_cases c13 : t140 = t141
          · rw [if_pos c13] at H
            have c13b0 : (t140 == t141) = true := beq_iff_eq.mpr c13
            have c13b1 : (t140 != t141) = false := bne_eq_false_iff_eq.mpr c13
            clear c13
            replace H := Option.bind_eq_some_iff.mp H
            obtain ⟨t142, A140, H⟩ := H
            replace H : ((sat_Mul.f a1 a0).bind fun t143 => (if t142 = t143 then ((sat_Add.f kj3 (wrap64 (Int.tdiv a0 2)) (wrap64 (Int.tdiv a1 2))).bind fun t144 => (if t144 = (wrap64 ((wrap64 (Int.tdiv a0 2)) + (wrap64 (Int.tdiv a1 2)))) then ((sat_Mul.f a0 1).bind fun t145 => (if t145 = a0 then ((sat_Mul.f a0 0).bind fun t146 => (if t146 = 0 then ((sat_Add.f kj3 a0 0).bind fun t147 => (some (t147 == a0))) else (some false))) else (some false))) else (some false))) else (some false))) = some r := H
            have A14 := Aside0.mk A140
            clear A140
            replace H := Option.bind_eq_some_iff.mp H
            obtain ⟨t143, A150, H⟩ := H
            replace H : (if t142 = t143 then ((sat_Add.f kj3 (wrap64 (Int.tdiv a0 2)) (wrap64 (Int.tdiv a1 2))).bind fun t144 => (if t144 = (wrap64 ((wrap64 (Int.tdiv a0 2)) + (wrap64 (Int.tdiv a1 2)))) then ((sat_Mul.f a0 1).bind fun t145 => (if t145 = a0 then ((sat_Mul.f a0 0).bind fun t146 => (if t146 = 0 then ((sat_Add.f kj3 a0 0).bind fun t147 => (some (t147 == a0))) else (some false))) else (some false))) else (some false))) else (some false)) = some r := H
            have A15 := Aside0.mk A150
            clear A150
            by_cases c16 : t142 = t143
            · rw [if_pos c16] at H
              have c16b0 : (t142 == t143) = true := beq_iff_eq.mpr c16
              have c16b1 : (t142 != t143) = false := bne_eq_false_iff_eq.mpr c16
              clear c16
              replace H := Option.bind_eq_some_iff.mp H
              obtain ⟨t144, A170, H⟩ := H
              replace H : (if t144 = (wrap64 ((wrap64 (Int.tdiv a0 2)) + (wrap64 (Int.tdiv a1 2)))) then ((sat_Mul.f a0 1).bind fun t145 => (if t145 = a0 then ((sat_Mul.f a0 0).bind fun t146 => (if t146 = 0 then ((sat_Add.f kj3 a0 0).bind fun t147 => (some (t147 == a0))) else (some false))) else (some false))) else (some false)) = some r := H
              have A17 := Aside0.mk A170
              clear A170
              by_cases c18 : t144 = (wrap64 ((wrap64 (Int.tdiv a0 2)) + (wrap64 (Int.tdiv a1 2))))
              · rw [if_pos c18] at H
                have c18b0 : (t144 == (wrap64 ((wrap64 (Int.tdiv a0 2)) + (wrap64 (Int.tdiv a1 2))))) = true := beq_iff_eq.mpr c18
                have c18b1 : (t144 != (wrap64 ((wrap64 (Int.tdiv a0 2)) + (wrap64 (Int.tdiv a1 2))))) = false := bne_eq_false_iff_eq.mpr c18
                clear c18
                replace H := Option.bind_eq_some_iff.mp H
                obtain ⟨t145, A190, H⟩ := H
                replace H : (if t145 = a0 then ((sat_Mul.f a0 0).bind fun t146 => (if t146 = 0 then ((sat_Add.f kj3 a0 0).bind fun t147 => (some (t147 == a0))) else (some false))) else (some false)) = some r := H
                have A19 := Aside0.mk A190
                clear A190
                by_cases c20 : t145 = a0
                · rw [if_pos c20] at H
                  have c20b0 : (t145 == a0) = true := beq_iff_eq.mpr c20
                  have c20b1 : (t145 != a0) = false := bne_eq_false_iff_eq.mpr c20
                  clear c20
                  replace H := Option.bind_eq_some_iff.mp H
                  obtain ⟨t146, A210, H⟩ := H
                  replace H : (if t146 = 0 then ((sat_Add.f kj3 a0 0).bind fun t147 => (some (t147 == a0))) else (some false)) = some r := H
                  have A21 := Aside0.mk A210
                  clear A210
                  by_cases c22 : t146 = 0
                  · rw [if_pos c22] at H
                    have c22b0 : (t146 == 0) = true := beq_iff_eq.mpr c22
                    have c22b1 : (t146 != 0) = false := bne_eq_false_iff_eq.mpr c22
                    clear c22
                    replace H := Option.bind_eq_some_iff.mp H
                    obtain ⟨t147, A230, H⟩ := H
                    replace H : (some (t147 == a0)) = some r := H
                    have A23 := Aside0.mk A230
                    clear A230
                    obtain rfl := Option.some.inj H
                    go_wp2_with (first | (go_at_call 9; (with_reducible refine (sat_Add.calls kj3 a0 a1 t140 _ A11.out).mono ?_); rintro e w' ⟨rfl, ⟨nd, rfl⟩⟩) | (go_at_call 9; (with_reducible refine (sat_Add.calls kj3 a1 a0 t141 _ A12.out).mono ?_); rintro e w' ⟨rfl, ⟨nd, rfl⟩⟩) | (go_at_call 13; (with_reducible refine (sat_Mul.calls a0 a1 t142 _ A14.out).mono ?_); rintro e w' ⟨rfl, ⟨nd, rfl⟩⟩) | (go_at_call 13; (with_reducible refine (sat_Mul.calls a1 a0 t143 _ A15.out).mono ?_); rintro e w' ⟨rfl, ⟨nd, rfl⟩⟩) | (go_at_call 9; (with_reducible refine (sat_Add.calls kj3 (wrap64 (Int.tdiv a0 2)) (wrap64 (Int.tdiv a1 2)) t144 _ A17.out).mono ?_); rintro e w' ⟨rfl, ⟨nd, rfl⟩⟩) | (go_at_call 13; (with_reducible refine (sat_Mul.calls a0 1 t145 _ A19.out).mono ?_); rintro e w' ⟨rfl, ⟨nd, rfl⟩⟩) | (go_at_call 13; (with_reducible refine (sat_Mul.calls a0 0 t146 _ A21.out).mono ?_); rintro e w' ⟨rfl, ⟨nd, rfl⟩⟩) | (go_at_call 9; (with_reducible refine (sat_Add.calls kj3 a0 0 t147 _ A23.out).mono ?_); rintro e w' ⟨rfl, ⟨nd, rfl⟩⟩))
                    go_ret
                    exact ⟨by first | rfl | (simp [errW_none, errW_some] <;> rfl) | (simp [*, errW_none, errW_some] <;> rfl), by repeat (first | (with_reducible first | exact HB.out | apply below_alloc | apply pw_below_drewN | apply below_drew1) | exact HB.out)⟩
                  · rw [if_neg c22] at H
                    have c22b0 : (t146 == 0) = false := beq_eq_false_iff_ne.mpr c22
                    have c22b1 : (t146 != 0) = true := bne_iff_ne.mpr c22
                    obtain rfl := Option.some.inj H
                    go_wp2_with (first | (go_at_call 9; (with_reducible refine (sat_Add.calls kj3 a0 a1 t140 _ A11.out).mono ?_); rintro e w' ⟨rfl, ⟨nd, rfl⟩⟩) | (go_at_call 9; (with_reducible refine (sat_Add.calls kj3 a1 a0 t141 _ A12.out).mono ?_); rintro e w' ⟨rfl, ⟨nd, rfl⟩⟩) | (go_at_call 13; (with_reducible refine (sat_Mul.calls a0 a1 t142 _ A14.out).mono ?_); rintro e w' ⟨rfl, ⟨nd, rfl⟩⟩) | (go_at_call 13; (with_reducible refine (sat_Mul.calls a1 a0 t143 _ A15.out).mono ?_); rintro e w' ⟨rfl, ⟨nd, rfl⟩⟩) | (go_at_call 9; (with_reducible refine (sat_Add.calls kj3 (wrap64 (Int.tdiv a0 2)) (wrap64 (Int.tdiv a1 2)) t144 _ A17.out).mono ?_); rintro e w' ⟨rfl, ⟨nd, rfl⟩⟩) | (go_at_call 13; (with_reducible refine (sat_Mul.calls a0 1 t145 _ A19.out).mono ?_); rintro e w' ⟨rfl, ⟨nd, rfl⟩⟩) | (go_at_call 13; (with_reducible refine (sat_Mul.calls a0 0 t146 _ A21.out).mono ?_); rintro e w' ⟨rfl, ⟨nd, rfl⟩⟩))
                    go_ret
                    exact ⟨by first | rfl | (simp [errW_none, errW_some] <;> rfl) | (simp [*, errW_none, errW_some] <;> rfl), by repeat (first | (with_reducible first | exact HB.out | apply below_alloc | apply pw_below_drewN | apply below_drew1) | exact HB.out)⟩
                · rw [if_neg c20] at H
                  have c20b0 : (t145 == a0) = false := beq_eq_false_iff_ne.mpr c20
                  have c20b1 : (t145 != a0) = true := bne_iff_ne.mpr c20
                  obtain rfl := Option.some.inj H
                  go_wp2_with (first | (go_at_call 9; (with_reducible refine (sat_Add.calls kj3 a0 a1 t140 _ A11.out).mono ?_); rintro e w' ⟨rfl, ⟨nd, rfl⟩⟩) | (go_at_call 9; (with_reducible refine (sat_Add.calls kj3 a1 a0 t141 _ A12.out).mono ?_); rintro e w' ⟨rfl, ⟨nd, rfl⟩⟩) | (go_at_call 13; (with_reducible refine (sat_Mul.calls a0 a1 t142 _ A14.out).mono ?_); rintro e w' ⟨rfl, ⟨nd, rfl⟩⟩) | (go_at_call 13; (with_reducible refine (sat_Mul.calls a1 a0 t143 _ A15.out).mono ?_); rintro e w' ⟨rfl, ⟨nd, rfl⟩⟩) | (go_at_call 9; (with_reducible refine (sat_Add.calls kj3 (wrap64 (Int.tdiv a0 2)) (wrap64 (Int.tdiv a1 2)) t144 _ A17.out).mono ?_); rintro e w' ⟨rfl, ⟨nd, rfl⟩⟩) | (go_at_call 13; (with_reducible refine (sat_Mul.calls a0 1 t145 _ A19.out).mono ?_); rintro e w' ⟨rfl, ⟨nd, rfl⟩⟩))
                  go_ret
                  exact ⟨by first | rfl | (simp [errW_none, errW_some] <;> rfl) | (simp [*, errW_none, errW_some] <;> rfl), by repeat (first | (with_reducible first | exact HB.out | apply below_alloc | apply pw_below_drewN | apply below_drew1) | exact HB.out)⟩
              · rw [if_neg c18] at H
                have c18b0 : (t144 == (wrap64 ((wrap64 (Int.tdiv a0 2)) + (wrap64 (Int.tdiv a1 2))))) = false := beq_eq_false_iff_ne.mpr c18
                have c18b1 : (t144 != (wrap64 ((wrap64 (Int.tdiv a0 2)) + (wrap64 (Int.tdiv a1 2))))) = true := bne_iff_ne.mpr c18
                obtain rfl := Option.some.inj H
                go_wp2_with (first | (go_at_call 9; (with_reducible refine (sat_Add.calls kj3 a0 a1 t140 _ A11.out).mono ?_); rintro e w' ⟨rfl, ⟨nd, rfl⟩⟩) | (go_at_call 9; (with_reducible refine (sat_Add.calls kj3 a1 a0 t141 _ A12.out).mono ?_); rintro e w' ⟨rfl, ⟨nd, rfl⟩⟩) | (go_at_call 13; (with_reducible refine (sat_Mul.calls a0 a1 t142 _ A14.out).mono ?_); rintro e w' ⟨rfl, ⟨nd, rfl⟩⟩) | (go_at_call 13; (with_reducible refine (sat_Mul.calls a1 a0 t143 _ A15.out).mono ?_); rintro e w' ⟨rfl, ⟨nd, rfl⟩⟩) | (go_at_call 9; (with_reducible refine (sat_Add.calls kj3 (wrap64 (Int.tdiv a0 2)) (wrap64 (Int.tdiv a1 2)) t144 _ A17.out).mono ?_); rintro e w' ⟨rfl, ⟨nd, rfl⟩⟩))
                go_ret
                exact ⟨by first | rfl | (simp [errW_none, errW_some] <;> rfl) | (simp [*, errW_none, errW_some] <;> rfl), by repeat (first | (with_reducible first | exact HB.out | apply below_alloc | apply pw_below_drewN | apply below_drew1) | exact HB.out)⟩
            · rw [if_neg c16] at H
              have c16b0 : (t142 == t143) = false := beq_eq_false_iff_ne.mpr c16
              have c16b1 : (t142 != t143) = true := bne_iff_ne.mpr c16
              obtain rfl := Option.some.inj H
              go_wp2_with (first | (go_at_call 9; (with_reducible refine (sat_Add.calls kj3 a0 a1 t140 _ A11.out).mono ?_); rintro e w' ⟨rfl, ⟨nd, rfl⟩⟩) | (go_at_call 9; (with_reducible refine (sat_Add.calls kj3 a1 a0 t141 _ A12.out).mono ?_); rintro e w' ⟨rfl, ⟨nd, rfl⟩⟩) | (go_at_call 13; (with_reducible refine (sat_Mul.calls a0 a1 t142 _ A14.out).mono ?_); rintro e w' ⟨rfl, ⟨nd, rfl⟩⟩) | (go_at_call 13; (with_reducible refine (sat_Mul.calls a1 a0 t143 _ A15.out).mono ?_); rintro e w' ⟨rfl, ⟨nd, rfl⟩⟩))
              go_ret
              exact ⟨by first | rfl | (simp [errW_none, errW_some] <;> rfl) | (simp [*, errW_none, errW_some] <;> rfl), by repeat (first | (with_reducible first | exact HB.out | apply below_alloc | apply pw_below_drewN | apply below_drew1) | exact HB.out)⟩
          · rw [if_neg c13] at H
            have c13b0 : (t140 == t141) = false := beq_eq_false_iff_ne.mpr c13
            have c13b1 : (t140 != t141) = true := bne_iff_ne.mpr c13
            obtain rfl := Option.some.inj H
            go_wp2_with (first | (go_at_call 9; (with_reducible refine (sat_Add.calls kj3 a0 a1 t140 _ A11.out).mono ?_); rintro e w' ⟨rfl, ⟨nd, rfl⟩⟩) | (go_at_call 9; (with_reducible refine (sat_Add.calls kj3 a1 a0 t141 _ A12.out).mono ?_); rintro e w' ⟨rfl, ⟨nd, rfl⟩⟩))
            go_ret
            exact ⟨by first | rfl | (simp [errW_none, errW_some] <;> rfl) | (simp [*, errW_none, errW_some] <;> rfl), by repeat (first | (with_reducible first | exact HB.out | apply below_alloc | apply pw_below_drewN | apply below_drew1) | exact HB.out)⟩
        · replace c10 := Bool.eq_false_iff.mpr c10
          subst c10
          have H1 : (some false) = some r := by rw [if_neg (show ¬ (false = true) by decide)] at H; exact H
          clear H
          have H := H1
          clear H1
          obtain rfl := Option.some.inj H
          go_wp2
          go_ret
          exact ⟨by first | rfl | (simp [errW_none, errW_some] <;> rfl) | (simp [*, errW_none, errW_some] <;> rfl), by repeat (first | (with_reducible first | exact HB.out | apply below_alloc | apply pw_below_drewN | apply below_drew1) | exact HB.out)⟩
      · replace c9 := Bool.eq_false_iff.mpr c9
        subst c9
        have H1 : (some false) = some r := by rw [if_neg (show ¬ (false = true) by decide)] at H; exact H
        clear H
        have H := H1
        clear H1
        obtain rfl := Option.some.inj H
        go_wp2
        go_ret
        exact ⟨by first | rfl | (simp [errW_none, errW_some] <;> rfl) | (simp [*, errW_none, errW_some] <;> rfl), by repeat (first | (with_reducible first | exact HB.out | apply below_alloc | apply pw_below_drewN | apply below_drew1) | exact HB.out)⟩

/-- THE ONE PURE STATEMENT of barrowlaw01_SatTurns: yours. -/
def barrowlaw01_SatTurns.Pure : Prop := ∀ (a0 : Int) (a1 : Int), (Lit.int .i64 a0).wf = true → (Lit.int .i64 a1).wf = true → ∃ k, barrowlaw01_SatTurns.f k a0 a1 = some true
theorem barrowlaw01_SatTurns.walk (P : barrowlaw01_SatTurns.Pure) (a0 : Int) (a1 : Int) (w : World) (w0 : (Lit.int .i64 a0).wf = true) (w1 : (Lit.int .i64 a1).wf = true) :
    Calls Try.prog 5 #[.int .i64 a0, .int .i64 a1] w fun e w' => e = .returned (.bool true) ∧ Below w.heap.size w w' := by
  obtain ⟨k, h⟩ := P a0 a1 w0 w1
  refine (barrowlaw01_SatTurns.calls k a0 a1 true w h).mono ?_
  rintro e w' ⟨rfl, hd⟩
  exact ⟨rfl, hd⟩

/-! ### barrowlaw01_SatOrders: function 6 -/
mutual
def barrowlaw01_SatOrders.j0 : Nat → Int → Bool → Int → Int → Bool → Option (Bool)
  | 0, _, _, _, _, _ => none
  | k + 1, x2, x7, x8, x9, x10 => if x2 > 0 then (barrowlaw01_SatOrders.j1 k x2 x7 x8 x9 x10 true) else ((sat_Mul.f x8 x2).bind fun t151 => ((sat_Mul.f x9 x2).bind fun t152 => (barrowlaw01_SatOrders.j1 k x2 x7 x8 x9 x10 (decide (t151 ≥ t152)))))
def barrowlaw01_SatOrders.j1 : Nat → Int → Bool → Int → Int → Bool → Bool → Option (Bool)
  | 0, _, _, _, _, _, _ => none
  | k + 1, x2, x7, x8, x9, x10, x11 => if x7 = true then ((sat_Add.f k x8 x2).bind fun t153 => ((sat_Add.f k x9 x2).bind fun t154 => (if t153 ≤ t154 then ((sat_Sub.f k x8 x2).bind fun t155 => ((sat_Sub.f k x9 x2).bind fun t156 => (if t155 ≤ t156 then (if x10 = true then (some x11) else (some false)) else (some false)))) else (some false)))) else (some false)
end
def barrowlaw01_SatOrders.f (k : Nat) (a0 : Int) (a1 : Int) (a2 : Int) : Option (Bool) := (barrowlaw01_small.f k).bind fun t148 => (if a2 < 0 then (barrowlaw01_SatOrders.j0 k a2 t148 (mn a0 a1) (mx a0 a1) true) else ((sat_Mul.f (mn a0 a1) a2).bind fun t149 => ((sat_Mul.f (mx a0 a1) a2).bind fun t150 => (barrowlaw01_SatOrders.j0 k a2 t148 (mn a0 a1) (mx a0 a1) (decide (t149 ≤ t150))))))
theorem barrowlaw01_SatOrders.mono_l : ∀ k, (∀ y0 y1 y2 y3 y4, LeO (barrowlaw01_SatOrders.j0 k y0 y1 y2 y3 y4) (barrowlaw01_SatOrders.j0 (k + 1) y0 y1 y2 y3 y4)) ∧ (∀ y0 y1 y2 y3 y4 y5, LeO (barrowlaw01_SatOrders.j1 k y0 y1 y2 y3 y4 y5) (barrowlaw01_SatOrders.j1 (k + 1) y0 y1 y2 y3 y4 y5))
  | 0 => ⟨fun _ _ _ _ _ r h => by simp [barrowlaw01_SatOrders.j0] at h, fun _ _ _ _ _ _ r h => by simp [barrowlaw01_SatOrders.j1] at h⟩
  | k + 1 => by
    obtain ⟨ih0, ih1⟩ := barrowlaw01_SatOrders.mono_l k
    refine ⟨?_, ?_⟩
    · intro y0 y1 y2 y3 y4
      unfold barrowlaw01_SatOrders.j0
      repeat' first
      | (with_reducible exact ih0 _ _ _ _ _)
      | (with_reducible exact ih1 _ _ _ _ _ _)
      | (with_reducible exact barrowlaw01_small.mono _)
      | (with_reducible exact sat_Add.mono _ _ _)
      | (with_reducible exact sat_Sub.mono _ _ _)
      | (with_reducible exact LeO.refl _)
      | (with_reducible exact LeO.none _)
      | (with_reducible refine LeO.ite ?_ ?_)
      | (with_reducible refine LeO.bind ?_ (fun _ => ?_))
      | exact ih0 _ _ _ _ _
      | exact ih1 _ _ _ _ _ _
      | exact barrowlaw01_small.mono _
      | exact sat_Add.mono _ _ _
      | exact sat_Sub.mono _ _ _
      | exact LeO.none _
      | refine LeO.ite ?_ ?_
      | refine LeO.bind ?_ (fun _ => ?_)
    · intro y0 y1 y2 y3 y4 y5
      unfold barrowlaw01_SatOrders.j1
      repeat' first
      | (with_reducible exact ih0 _ _ _ _ _)
      | (with_reducible exact ih1 _ _ _ _ _ _)
      | (with_reducible exact barrowlaw01_small.mono _)
      | (with_reducible exact sat_Add.mono _ _ _)
      | (with_reducible exact sat_Sub.mono _ _ _)
      | (with_reducible exact LeO.refl _)
      | (with_reducible exact LeO.none _)
      | (with_reducible refine LeO.ite ?_ ?_)
      | (with_reducible refine LeO.bind ?_ (fun _ => ?_))
      | exact ih0 _ _ _ _ _
      | exact ih1 _ _ _ _ _ _
      | exact barrowlaw01_small.mono _
      | exact sat_Add.mono _ _ _
      | exact sat_Sub.mono _ _ _
      | exact LeO.none _
      | refine LeO.ite ?_ ?_
      | refine LeO.bind ?_ (fun _ => ?_)
theorem barrowlaw01_SatOrders.mono : ∀ a0 a1 a2 k, LeO (barrowlaw01_SatOrders.f k a0 a1 a2) (barrowlaw01_SatOrders.f (k + 1) a0 a1 a2) := by
  intro a0 a1 a2 k
  obtain ⟨ih0, ih1⟩ := barrowlaw01_SatOrders.mono_l k
  unfold barrowlaw01_SatOrders.f
  repeat' first
      | (with_reducible exact ih0 _ _ _ _ _)
      | (with_reducible exact ih1 _ _ _ _ _ _)
      | (with_reducible exact barrowlaw01_small.mono _)
      | (with_reducible exact sat_Add.mono _ _ _)
      | (with_reducible exact sat_Sub.mono _ _ _)
      | (with_reducible exact LeO.refl _)
      | (with_reducible exact LeO.none _)
      | (with_reducible refine LeO.ite ?_ ?_)
      | (with_reducible refine LeO.bind ?_ (fun _ => ?_))
      | exact ih0 _ _ _ _ _
      | exact ih1 _ _ _ _ _ _
      | exact barrowlaw01_small.mono _
      | exact sat_Add.mono _ _ _
      | exact sat_Sub.mono _ _ _
      | exact LeO.none _
      | refine LeO.ite ?_ ?_
      | refine LeO.bind ?_ (fun _ => ?_)
set_option maxHeartbeats 8000000 in
set_option maxRecDepth 100000 in
theorem barrowlaw01_SatOrders.calls (k : Nat) (a0 : Int) (a1 : Int) (a2 : Int) (r : Bool) (w : World) (h : barrowlaw01_SatOrders.f k a0 a1 a2 = some r) :
    Calls Try.prog 6 #[.int .i64 a0, .int .i64 a1, .int .i64 a2] w fun e w' => e = .returned (.bool r) ∧ Below w.heap.size w w' := by
  have HB := Aside0.mk (Below.refl w.heap.size w)
  have H : ((barrowlaw01_small.f k).bind fun t148 => (if a2 < 0 then (barrowlaw01_SatOrders.j0 k a2 t148 (mn a0 a1) (mx a0 a1) true) else ((sat_Mul.f (mn a0 a1) a2).bind fun t149 => ((sat_Mul.f (mx a0 a1) a2).bind fun t150 => (barrowlaw01_SatOrders.j0 k a2 t148 (mn a0 a1) (mx a0 a1) (decide (t149 ≤ t150))))))) = some r := h
  clear h
  replace H := Option.bind_eq_some_iff.mp H
  obtain ⟨t148, A40, H⟩ := H
  replace H : (if a2 < 0 then (barrowlaw01_SatOrders.j0 k a2 t148 (mn a0 a1) (mx a0 a1) true) else ((sat_Mul.f (mn a0 a1) a2).bind fun t149 => ((sat_Mul.f (mx a0 a1) a2).bind fun t150 => (barrowlaw01_SatOrders.j0 k a2 t148 (mn a0 a1) (mx a0 a1) (decide (t149 ≤ t150)))))) = some r := H
  have A4 := Aside0.mk A40
  clear A40
  obtain ⟨ji5, hji5⟩ : ∃ j_ : Int, (mn a0 a1) = j_ := ⟨_, rfl⟩
  replace H : (if a2 < 0 then (barrowlaw01_SatOrders.j0 k a2 t148 ji5 (mx a0 a1) true) else ((sat_Mul.f (ji5) a2).bind fun t149 => ((sat_Mul.f (mx a0 a1) a2).bind fun t150 => (barrowlaw01_SatOrders.j0 k a2 t148 ji5 (mx a0 a1) (decide (t149 ≤ t150)))))) = some r := by first | (rw [hji5] at H; exact H) | (simp only [hji5] at H ⊢; exact H)
  (try rw [hji5] at A4)
  have hji5_ : (if a1 < a0 then a1 else a0) = ji5 := hji5
  obtain ⟨ji6, hji6⟩ : ∃ j_ : Int, (mx a0 a1) = j_ := ⟨_, rfl⟩
  replace H : (if a2 < 0 then (barrowlaw01_SatOrders.j0 k a2 t148 ji5 ji6 true) else ((sat_Mul.f (ji5) a2).bind fun t149 => ((sat_Mul.f (ji6) a2).bind fun t150 => (barrowlaw01_SatOrders.j0 k a2 t148 ji5 ji6 (decide (t149 ≤ t150)))))) = some r := by first | (rw [hji6] at H; exact H) | (simp only [hji6] at H ⊢; exact H)
  (try rw [hji6] at A4)
  have hji6_ : (if a0 < a1 then a1 else a0) = ji6 := hji6
  have HC7 := Aside0.mk H
  clear H
  go_enter Try.func6, Try.ntmps6
  go_upto_region 4 with (first | ((with_reducible refine gate_callee (f := 8) rfl ?_); refine goesL_ (some 12) rfl rfl Try.func8 (by kernel_rfl) rfl #[] rfl (by (try simp only [List.map_toArray, List.map_cons, List.map_nil]); first | done | rfl | (simp only [List.length_drop, List.length_take]; rfl)) ?_; (with_reducible refine (barrowlaw01_small.calls k  t148 _ A4.out).mono ?_); rintro e w8 ⟨rfl, hb⟩; refine ⟨_, rfl, ?_⟩; have n0_ := Aside0.mk (below_step (by repeat (first | (with_reducible first | exact HB.out | apply below_alloc | apply pw_below_drewN | apply below_drew1) | exact HB.out)) hb); clear HB; have HB := n0_; clear n0_; (try clear hb); (try clear hb2); (try clear hk); (try clear hi)))
  (try simp only [Act.put, List.setIfInBounds_toArray, List.set_cons_zero, List.set_cons_succ])
  go_cut [10] (fun v10 wc => ∃ (kq : Nat) (x10_6 : Bool), v10 = .bool x10_6 ∧ Aside0 (barrowlaw01_SatOrders.j0 kq a2 t148 ji5 ji6 x10_6 = some r) ∧ Aside0 (kq ≤ k) ∧ Aside0 (Below w.heap.size w wc))
  case first =>
    have H := HC7.out
    clear HC7
    by_cases c9 : a2 < 0
    · rw [if_pos c9] at H
      have c9b0 : decide (a2 < 0) = true := decide_eq_true c9
      clear c9
      (first | rw [c9b0] | (simp only [i64_w, i32_w]; rw [c9b0]) | skip)
      have H' := Aside0.mk H
      clear H
      go_wp2
      go_meet
      case rel => exact ⟨_, (true), (by first | rfl | (simp; done) | (simp [*]; done)), H', ⟨by first | omega | exact Nat.le_refl _⟩, ⟨by repeat (first | (with_reducible first | exact HB.out | apply below_alloc | apply pw_below_drewN | apply below_drew1) | exact HB.out)⟩⟩
    · rw [if_neg c9] at H
      have c9b0 : decide (a2 < 0) = false := decide_eq_false c9
      clear c9
      (first | rw [c9b0] | (simp only [i64_w, i32_w]; rw [c9b0]) | skip)
      replace H := Option.bind_eq_some_iff.mp H
      obtain ⟨t149, A100, H⟩ := H
      replace H : ((sat_Mul.f (ji6) a2).bind fun t150 => (barrowlaw01_SatOrders.j0 k a2 t148 ji5 ji6 (decide (t149 ≤ t150)))) = some r := H
      have A10 := Aside0.mk A100
      clear A100
      replace H := Option.bind_eq_some_iff.mp H
      obtain ⟨t150, A110, H⟩ := H
      replace H : (barrowlaw01_SatOrders.j0 k a2 t148 ji5 ji6 (decide (t149 ≤ t150))) = some r := H
      have A11 := Aside0.mk A110
      clear A110
      have H' := Aside0.mk H
      clear H
      go_wp2_with (first | (go_at_call 13; (with_reducible refine (sat_Mul.calls ji5 a2 t149 _ A10.out).mono ?_); rintro e w' ⟨rfl, ⟨nd, rfl⟩⟩) | (go_at_call 13; (with_reducible refine (sat_Mul.calls ji6 a2 t150 _ A11.out).mono ?_); rintro e w' ⟨rfl, ⟨nd, rfl⟩⟩))
      go_meet
      case rel => exact ⟨_, (decide (t149 ≤ t150)), (by first | rfl | (simp; done) | (simp [*]; done)), H', ⟨by first | omega | exact Nat.le_refl _⟩, ⟨by repeat (first | (with_reducible first | exact HB.out | apply below_alloc | apply pw_below_drewN | apply below_drew1) | exact HB.out)⟩⟩
  case rest =>
    clear HC7
    try clear p2
    try clear c6
    try clear c8
    try clear c9
    try clear c9b0
    obtain ⟨kq, x10_6, rfl, HA, HJ6, HB⟩ := hcut
    cases kq with
    | zero => exact absurd HA.out (by simp [barrowlaw01_SatOrders.j0])
    | succ kj6 =>
      have H := HA.out
      clear HA
      simp only [barrowlaw01_SatOrders.j0] at H
      have HC12 := Aside0.mk H
      clear H
      go_upto_region 5 with (fail)
      go_cut [11] (fun v11 wc => ∃ (kq : Nat) (x11_11 : Bool), v11 = .bool x11_11 ∧ Aside0 (barrowlaw01_SatOrders.j1 kq a2 t148 ji5 ji6 x10_6 x11_11 = some r) ∧ Aside0 (kq ≤ kj6) ∧ Aside0 (Below w.heap.size w wc))
      case first =>
        have H := HC12.out
        clear HC12
        by_cases c13 : a2 > 0
        · rw [if_pos c13] at H
          have c13b0 : decide (0 < a2) = true := decide_eq_true c13
          clear c13
          (first | rw [c13b0] | (simp only [i64_w, i32_w]; rw [c13b0]) | skip)
          have H' := Aside0.mk H
          clear H
          go_wp2
          go_meet
          case rel => exact ⟨_, (true), (by first | rfl | (simp; done) | (simp [*]; done)), H', ⟨by have := HJ6.out; first | omega | exact Nat.le_refl _⟩, ⟨by repeat (first | (with_reducible first | exact HB.out | apply below_alloc | apply pw_below_drewN | apply below_drew1) | exact HB.out)⟩⟩
        · rw [if_neg c13] at H
          have c13b0 : decide (0 < a2) = false := decide_eq_false c13
          clear c13
          (first | rw [c13b0] | (simp only [i64_w, i32_w]; rw [c13b0]) | skip)
          replace H := Option.bind_eq_some_iff.mp H
          obtain ⟨t151, A140, H⟩ := H
          replace H : ((sat_Mul.f ji6 a2).bind fun t152 => (barrowlaw01_SatOrders.j1 kj6 a2 t148 ji5 ji6 x10_6 (decide (t151 ≥ t152)))) = some r := H
          have A14 := Aside0.mk A140
          clear A140
          replace H := Option.bind_eq_some_iff.mp H
          obtain ⟨t152, A150, H⟩ := H
          replace H : (barrowlaw01_SatOrders.j1 kj6 a2 t148 ji5 ji6 x10_6 (decide (t151 ≥ t152))) = some r := H
          have A15 := Aside0.mk A150
          clear A150
          have H' := Aside0.mk H
          clear H
          go_wp2_with (first | (go_at_call 13; (with_reducible refine (sat_Mul.calls ji5 a2 t151 _ A14.out).mono ?_); rintro e w' ⟨rfl, ⟨nd, rfl⟩⟩) | (go_at_call 13; (with_reducible refine (sat_Mul.calls ji6 a2 t152 _ A15.out).mono ?_); rintro e w' ⟨rfl, ⟨nd, rfl⟩⟩))
          go_meet
          case rel => exact ⟨_, (decide (t151 ≥ t152)), (by first | rfl | (simp; done) | (simp [*]; done)), H', ⟨by have := HJ6.out; first | omega | exact Nat.le_refl _⟩, ⟨by repeat (first | (with_reducible first | exact HB.out | apply below_alloc | apply pw_below_drewN | apply below_drew1) | exact HB.out)⟩⟩
      case rest =>
        clear HC12
        try clear c1
        try clear p2
        try clear c6
        try clear c8
        try clear c9
        try clear c9b0
        try clear c13
        try clear c13b0
        try clear p2
        obtain ⟨kq, x11_11, rfl, HA, HJ11, HB⟩ := hcut
        cases kq with
        | zero => exact absurd HA.out (by simp [barrowlaw01_SatOrders.j1])
        | succ kj11 =>
          have H := HA.out
          clear HA
          simp only [barrowlaw01_SatOrders.j1] at H
          by_cases c16 : t148 = true
          · subst c16
            have H1 : ((sat_Add.f kj11 ji5 a2).bind fun t153 => ((sat_Add.f kj11 ji6 a2).bind fun t154 => (if t153 ≤ t154 then ((sat_Sub.f kj11 ji5 a2).bind fun t155 => ((sat_Sub.f kj11 ji6 a2).bind fun t156 => (if t155 ≤ t156 then (if x10_6 = true then (some x11_11) else (some false)) else (some false)))) else (some false)))) = some r := by rw [if_pos rfl] at H; exact H
            clear H
            have H := H1
            clear H1
            replace H := Option.bind_eq_some_iff.mp H
            obtain ⟨t153, A170, H⟩ := H
            replace H : ((sat_Add.f kj11 ji6 a2).bind fun t154 => (if t153 ≤ t154 then ((sat_Sub.f kj11 ji5 a2).bind fun t155 => ((sat_Sub.f kj11 ji6 a2).bind fun t156 => (if t155 ≤ t156 then (if x10_6 = true then (some x11_11) else (some false)) else (some false)))) else (some false))) = some r := H
            have A17 := Aside0.mk A170
            clear A170
            replace H := Option.bind_eq_some_iff.mp H
            obtain ⟨t154, A180, H⟩ := H
            replace H : (if t153 ≤ t154 then ((sat_Sub.f kj11 ji5 a2).bind fun t155 => ((sat_Sub.f kj11 ji6 a2).bind fun t156 => (if t155 ≤ t156 then (if x10_6 = true then (some x11_11) else (some false)) else (some false)))) else (some false)) = some r := H
            have A18 := Aside0.mk A180
            clear A180
            by_cases c19 : t153 ≤ t154
            · rw [if_pos c19] at H
              have c19b0 : decide (t153 ≤ t154) = true := decide_eq_true c19
              clear c19
              replace H := Option.bind_eq_some_iff.mp H
              obtain ⟨t155, A200, H⟩ := H
              replace H : ((sat_Sub.f kj11 ji6 a2).bind fun t156 => (if t155 ≤ t156 then (if x10_6 = true then (some x11_11) else (some false)) else (some false))) = some r := H
              have A20 := Aside0.mk A200
              clear A200
              replace H := Option.bind_eq_some_iff.mp H
              obtain ⟨t156, A210, H⟩ := H
              replace H : (if t155 ≤ t156 then (if x10_6 = true then (some x11_11) else (some false)) else (some false)) = some r := H
              have A21 := Aside0.mk A210
              clear A210
              by_cases c22 : t155 ≤ t156
              · rw [if_pos c22] at H
                have c22b0 : decide (t155 ≤ t156) = true := decide_eq_true c22
                clear c22
                by_cases c23 : x10_6 = true
                · subst c23
                  have H1 : (some x11_11) = some r := by rw [if_pos rfl] at H; exact H
                  clear H
                  have H := H1
                  clear H1
                  obtain rfl := Option.some.inj H
                  go_wp2_with (first | (go_at_call 9; (with_reducible refine (sat_Add.calls kj11 ji5 a2 t153 _ A17.out).mono ?_); rintro e w' ⟨rfl, ⟨nd, rfl⟩⟩) | (go_at_call 9; (with_reducible refine (sat_Add.calls kj11 ji6 a2 t154 _ A18.out).mono ?_); rintro e w' ⟨rfl, ⟨nd, rfl⟩⟩) | (go_at_call 11; (with_reducible refine (sat_Sub.calls kj11 ji5 a2 t155 _ A20.out).mono ?_); rintro e w' ⟨rfl, ⟨nd, rfl⟩⟩) | (go_at_call 11; (with_reducible refine (sat_Sub.calls kj11 ji6 a2 t156 _ A21.out).mono ?_); rintro e w' ⟨rfl, ⟨nd, rfl⟩⟩))
                  go_ret
                  exact ⟨by first | rfl | (simp [errW_none, errW_some] <;> rfl) | (simp only [← hji5, ← hji6]; first | rfl | (simp [errW_none, errW_some] <;> rfl)) | (simp [*, errW_none, errW_some] <;> rfl), by repeat (first | (with_reducible first | exact HB.out | apply below_alloc | apply pw_below_drewN | apply below_drew1) | exact HB.out)⟩
                · replace c23 := Bool.eq_false_iff.mpr c23
                  subst c23
                  have H1 : (some false) = some r := by rw [if_neg (show ¬ (false = true) by decide)] at H; exact H
                  clear H
                  have H := H1
                  clear H1
                  obtain rfl := Option.some.inj H
                  go_wp2_with (first | (go_at_call 9; (with_reducible refine (sat_Add.calls kj11 ji5 a2 t153 _ A17.out).mono ?_); rintro e w' ⟨rfl, ⟨nd, rfl⟩⟩) | (go_at_call 9; (with_reducible refine (sat_Add.calls kj11 ji6 a2 t154 _ A18.out).mono ?_); rintro e w' ⟨rfl, ⟨nd, rfl⟩⟩) | (go_at_call 11; (with_reducible refine (sat_Sub.calls kj11 ji5 a2 t155 _ A20.out).mono ?_); rintro e w' ⟨rfl, ⟨nd, rfl⟩⟩) | (go_at_call 11; (with_reducible refine (sat_Sub.calls kj11 ji6 a2 t156 _ A21.out).mono ?_); rintro e w' ⟨rfl, ⟨nd, rfl⟩⟩))
                  go_ret
                  exact ⟨by first | rfl | (simp [errW_none, errW_some] <;> rfl) | (simp only [← hji5, ← hji6]; first | rfl | (simp [errW_none, errW_some] <;> rfl)) | (simp [*, errW_none, errW_some] <;> rfl), by repeat (first | (with_reducible first | exact HB.out | apply below_alloc | apply pw_below_drewN | apply below_drew1) | exact HB.out)⟩
              · rw [if_neg c22] at H
                have c22b0 : decide (t155 ≤ t156) = false := decide_eq_false c22
                clear c22
                obtain rfl := Option.some.inj H
                go_wp2_with (first | (go_at_call 9; (with_reducible refine (sat_Add.calls kj11 ji5 a2 t153 _ A17.out).mono ?_); rintro e w' ⟨rfl, ⟨nd, rfl⟩⟩) | (go_at_call 9; (with_reducible refine (sat_Add.calls kj11 ji6 a2 t154 _ A18.out).mono ?_); rintro e w' ⟨rfl, ⟨nd, rfl⟩⟩) | (go_at_call 11; (with_reducible refine (sat_Sub.calls kj11 ji5 a2 t155 _ A20.out).mono ?_); rintro e w' ⟨rfl, ⟨nd, rfl⟩⟩) | (go_at_call 11; (with_reducible refine (sat_Sub.calls kj11 ji6 a2 t156 _ A21.out).mono ?_); rintro e w' ⟨rfl, ⟨nd, rfl⟩⟩))
                go_ret
                exact ⟨by first | rfl | (simp [errW_none, errW_some] <;> rfl) | (simp only [← hji5, ← hji6]; first | rfl | (simp [errW_none, errW_some] <;> rfl)) | (simp [*, errW_none, errW_some] <;> rfl), by repeat (first | (with_reducible first | exact HB.out | apply below_alloc | apply pw_below_drewN | apply below_drew1) | exact HB.out)⟩
            · rw [if_neg c19] at H
              have c19b0 : decide (t153 ≤ t154) = false := decide_eq_false c19
              clear c19
              obtain rfl := Option.some.inj H
              go_wp2_with (first | (go_at_call 9; (with_reducible refine (sat_Add.calls kj11 ji5 a2 t153 _ A17.out).mono ?_); rintro e w' ⟨rfl, ⟨nd, rfl⟩⟩) | (go_at_call 9; (with_reducible refine (sat_Add.calls kj11 ji6 a2 t154 _ A18.out).mono ?_); rintro e w' ⟨rfl, ⟨nd, rfl⟩⟩))
              go_ret
              exact ⟨by first | rfl | (simp [errW_none, errW_some] <;> rfl) | (simp only [← hji5, ← hji6]; first | rfl | (simp [errW_none, errW_some] <;> rfl)) | (simp [*, errW_none, errW_some] <;> rfl), by repeat (first | (with_reducible first | exact HB.out | apply below_alloc | apply pw_below_drewN | apply below_drew1) | exact HB.out)⟩
          · replace c16 := Bool.eq_false_iff.mpr c16
            subst c16
            have H1 : (some false) = some r := by rw [if_neg (show ¬ (false = true) by decide)] at H; exact H
            clear H
            have H := H1
            clear H1
            obtain rfl := Option.some.inj H
            go_wp2
            go_ret
            exact ⟨by first | rfl | (simp [errW_none, errW_some] <;> rfl) | (simp only [← hji5, ← hji6]; first | rfl | (simp [errW_none, errW_some] <;> rfl)) | (simp [*, errW_none, errW_some] <;> rfl), by repeat (first | (with_reducible first | exact HB.out | apply below_alloc | apply pw_below_drewN | apply below_drew1) | exact HB.out)⟩

/-- THE ONE PURE STATEMENT of barrowlaw01_SatOrders: yours. -/
def barrowlaw01_SatOrders.Pure : Prop := ∀ (a0 : Int) (a1 : Int) (a2 : Int), (Lit.int .i64 a0).wf = true → (Lit.int .i64 a1).wf = true → (Lit.int .i64 a2).wf = true → ∃ k, barrowlaw01_SatOrders.f k a0 a1 a2 = some true
theorem barrowlaw01_SatOrders.walk (P : barrowlaw01_SatOrders.Pure) (a0 : Int) (a1 : Int) (a2 : Int) (w : World) (w0 : (Lit.int .i64 a0).wf = true) (w1 : (Lit.int .i64 a1).wf = true) (w2 : (Lit.int .i64 a2).wf = true) :
    Calls Try.prog 6 #[.int .i64 a0, .int .i64 a1, .int .i64 a2] w fun e w' => e = .returned (.bool true) ∧ Below w.heap.size w w' := by
  obtain ⟨k, h⟩ := P a0 a1 a2 w0 w1 w2
  refine (barrowlaw01_SatOrders.calls k a0 a1 a2 true w h).mono ?_
  rintro e w' ⟨rfl, hd⟩
  exact ⟨rfl, hd⟩

end Go.Proofs.Ytgffgmkfafdjjaa.XSat
