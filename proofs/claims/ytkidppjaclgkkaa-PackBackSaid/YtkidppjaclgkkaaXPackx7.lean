-- Written by xprint.py (a program of this session) for this claim
import Derived.Test.YtkidppjaclgkkaaXPackx0
import Derived.Test.YtkidppjaclgkkaaXPackx1
import Derived.Test.YtkidppjaclgkkaaXPackx2
import Derived.Test.YtkidppjaclgkkaaXPackx3
import Derived.Test.YtkidppjaclgkkaaXPackx4
namespace Go.Proofs.Ytkidppjaclgkkaa.XPack
open Go.Proofs.YtkidppjaclgkkaaV
open Go.RowKit Go.Proofs.YtkidppjaclgkkaaW.PrintWords Go.Proofs.YtkidppjaclgkkaaW.PrintLast Go.Proofs.YtkidppjaclgkkaaW.PrintMore
attribute [local go_sem] max2_int min2_int max_two min_two max_three min_three max_four min_four   -- for this text's walks alone
set_option linter.unusedVariables false
set_option linter.unusedSimpArgs false

/-! ### barrowlaw03_PackBack: function 6 -/
def barrowlaw03_PackBack.j0 : Nat → List Int → Int → ByteArray → List Int → List Int → Bool → Bool → Option (Bool)
  | 0, _, _, _, _, _, _, _ => none
  | k + 1, x0, x1, x2, x3, x4, x11, x39 => if x39 = true then (some x11) else ((pack_Uint.f k x0 x1).bind fun t262 => ((pack_Int.f k t262 x1).bind fun t265 => ((pack_Text.f k t265 x2).bind fun t268 => ((pack_Ints.f k t268 x3).bind fun t271 => (if t271.length + x4.length < 140737488355328 then ((some (t271 ++ x4 : List Int)).bind fun y274 => ((pack_ReadUint.f k y274 (x0.length : Int)).bind fun bt277 => ((pack_ReadInt.f k y274 bt277.2.1).bind fun bt280 => ((pack_ReadText.f k y274 bt280.2.1 (x2.size : Int)).bind fun bt283 => ((pack_ReadInts.f k y274 bt283.2.1 (x3.length : Int)).bind fun bt286 => (if x11 = true then (if bt277.2.2 = 0 then (if bt280.2.2 = 0 then (if bt283.2.2 = 0 then (if bt286.2.2 = 0 then (if bt277.1 = (mx x1 0) then (if bt280.1 = x1 then (if bt283.1.toList = x2.toList then ((barrowref02_Same.f k bt286.1 x3).bind fun t291 => (if t291 = true then (some (bt286.2.1 == (wrap64 ((y274.length : Int) - (x4.length : Int))))) else (none))) else (none)) else (none)) else (none)) else (none)) else (none)) else (none)) else (none)) else (none))))))) else (none))))))
def barrowlaw03_PackBack.f (k : Nat) (l0 : List Int) (a1 : Int) (a2 : ByteArray) (l3 : List Int) (l4 : List Int) : Option (Bool) := (barrowlaw03_small.f k).bind fun t261 => (if (wrap64 ((wrap64 ((l0.length : Int) + (l4.length : Int))) + (a2.size : Int))) > 2048 then (barrowlaw03_PackBack.j0 k l0 a1 a2 l3 l4 t261 true) else (barrowlaw03_PackBack.j0 k l0 a1 a2 l3 l4 t261 (decide ((l3.length : Int) > 300))))
theorem barrowlaw03_PackBack.mono_l : ∀ k, (∀ y0 y1 y2 y3 y4 y5 y6, LeO (barrowlaw03_PackBack.j0 k y0 y1 y2 y3 y4 y5 y6) (barrowlaw03_PackBack.j0 (k + 1) y0 y1 y2 y3 y4 y5 y6))
  | 0 => fun _ _ _ _ _ _ _ r h => by simp [barrowlaw03_PackBack.j0] at h
  | k + 1 => by
    have ih0 := barrowlaw03_PackBack.mono_l k
    · intro y0 y1 y2 y3 y4 y5 y6
      unfold barrowlaw03_PackBack.j0
      repeat' first
      | (with_reducible exact ih0 _ _ _ _ _ _ _)
      | (with_reducible exact barrowlaw03_small.mono _)
      | (with_reducible exact barrowref02_Same.mono _ _ _)
      | (with_reducible exact pack_Int.mono _ _ _)
      | (with_reducible exact pack_Ints.mono _ _ _)
      | (with_reducible exact pack_ReadInt.mono _ _ _)
      | (with_reducible exact pack_ReadInts.mono _ _ _ _)
      | (with_reducible exact pack_ReadText.mono _ _ _ _)
      | (with_reducible exact pack_ReadUint.mono _ _ _)
      | (with_reducible exact pack_Text.mono _ _ _)
      | (with_reducible exact pack_Uint.mono _ _ _)
      | (with_reducible exact LeO.refl _)
      | (with_reducible exact LeO.none _)
      | (with_reducible refine LeO.ite ?_ ?_)
      | (with_reducible refine LeO.bind ?_ (fun _ => ?_))
      | exact ih0 _ _ _ _ _ _ _
      | exact barrowlaw03_small.mono _
      | exact barrowref02_Same.mono _ _ _
      | exact pack_Int.mono _ _ _
      | exact pack_Ints.mono _ _ _
      | exact pack_ReadInt.mono _ _ _
      | exact pack_ReadInts.mono _ _ _ _
      | exact pack_ReadText.mono _ _ _ _
      | exact pack_ReadUint.mono _ _ _
      | exact pack_Text.mono _ _ _
      | exact pack_Uint.mono _ _ _
      | exact LeO.none _
      | refine LeO.ite ?_ ?_
      | refine LeO.bind ?_ (fun _ => ?_)
theorem barrowlaw03_PackBack.mono : ∀ a0 a1 a2 a3 a4 k, LeO (barrowlaw03_PackBack.f k a0 a1 a2 a3 a4) (barrowlaw03_PackBack.f (k + 1) a0 a1 a2 a3 a4) := by
  intro a0 a1 a2 a3 a4 k
  have ih0 := barrowlaw03_PackBack.mono_l k
  unfold barrowlaw03_PackBack.f
  repeat' first
      | (with_reducible exact ih0 _ _ _ _ _ _ _)
      | (with_reducible exact barrowlaw03_small.mono _)
      | (with_reducible exact barrowref02_Same.mono _ _ _)
      | (with_reducible exact pack_Int.mono _ _ _)
      | (with_reducible exact pack_Ints.mono _ _ _)
      | (with_reducible exact pack_ReadInt.mono _ _ _)
      | (with_reducible exact pack_ReadInts.mono _ _ _ _)
      | (with_reducible exact pack_ReadText.mono _ _ _ _)
      | (with_reducible exact pack_ReadUint.mono _ _ _)
      | (with_reducible exact pack_Text.mono _ _ _)
      | (with_reducible exact pack_Uint.mono _ _ _)
      | (with_reducible exact LeO.refl _)
      | (with_reducible exact LeO.none _)
      | (with_reducible refine LeO.ite ?_ ?_)
      | (with_reducible refine LeO.bind ?_ (fun _ => ?_))
      | exact ih0 _ _ _ _ _ _ _
      | exact barrowlaw03_small.mono _
      | exact barrowref02_Same.mono _ _ _
      | exact pack_Int.mono _ _ _
      | exact pack_Ints.mono _ _ _
      | exact pack_ReadInt.mono _ _ _
      | exact pack_ReadInts.mono _ _ _ _
      | exact pack_ReadText.mono _ _ _ _
      | exact pack_ReadUint.mono _ _ _
      | exact pack_Text.mono _ _ _
      | exact pack_Uint.mono _ _ _
      | exact LeO.none _
      | refine LeO.ite ?_ ?_
      | refine LeO.bind ?_ (fun _ => ?_)
set_option maxHeartbeats 8000000 in
set_option maxRecDepth 100000 in
theorem barrowlaw03_PackBack.calls (k : Nat) (A0 : Option Addr) (c0 : Nat) (l0 : List Int) (a1 : Int) (a2 : ByteArray) (A3 : Option Addr) (c3 : Nat) (l3 : List Int) (A4 : Option Addr) (c4 : Nat) (l4 : List Int) (r : Bool) (w : World) (hr0 : Kd.C (Kd.int .u8) w A0 l0.length l0) (hc0 : l0.length ≤ c0) (hr3 : Kd.C (Kd.int .i64) w A3 l3.length l3) (hc3 : l3.length ≤ c3) (hr4 : Kd.C (Kd.int .u8) w A4 l4.length l4) (hc4 : l4.length ≤ c4) (h : barrowlaw03_PackBack.f k l0 a1 a2 l3 l4 = some r) :
    Calls Try.prog 6 #[.slice A0 l0.length c0, .int .i64 a1, .string a2, .slice A3 l3.length c3, .slice A4 l4.length c4] w fun e w' => e = .returned (.bool r) ∧ Below w.heap.size w w' := by
  have HR0 := Aside0.mk hr0
  have HC0 := Aside0.mk hc0
  clear hr0 hc0
  have HR3 := Aside0.mk hr3
  have HC3 := Aside0.mk hc3
  clear hr3 hc3
  have HR4 := Aside0.mk hr4
  have HC4 := Aside0.mk hc4
  clear hr4 hc4
  have HB := Aside0.mk (Below.refl w.heap.size w)
  have H : ((barrowlaw03_small.f k).bind fun t261 => (if (wrap64 ((wrap64 ((l0.length : Int) + (l4.length : Int))) + (a2.size : Int))) > 2048 then (barrowlaw03_PackBack.j0 k l0 a1 a2 l3 l4 t261 true) else (barrowlaw03_PackBack.j0 k l0 a1 a2 l3 l4 t261 (decide ((l3.length : Int) > 300))))) = some r := h
  clear h
  replace H := Option.bind_eq_some_iff.mp H
  obtain ⟨t261, A60, H⟩ := H
  replace H : (if (wrap64 ((wrap64 ((l0.length : Int) + (l4.length : Int))) + (a2.size : Int))) > 2048 then (barrowlaw03_PackBack.j0 k l0 a1 a2 l3 l4 t261 true) else (barrowlaw03_PackBack.j0 k l0 a1 a2 l3 l4 t261 (decide ((l3.length : Int) > 300)))) = some r := H
  have A6 := Aside0.mk A60
  clear A60
  have HC7 := Aside0.mk H
  clear H
  go_enter Try.func6, Try.ntmps6
  go_upto_region 2 with (first | ((with_reducible refine gate_callee (f := 7) rfl ?_); refine goesL_ (some 25) rfl rfl Try.func7 (by kernel_rfl) rfl #[] rfl (by (try simp only [List.map_toArray, List.map_cons, List.map_nil]); first | done | rfl | (simp only [List.length_drop, List.length_take]; rfl)) ?_; (with_reducible refine (barrowlaw03_small.calls k  t261 _ A6.out).mono ?_); rintro e w8 ⟨rfl, hb⟩; refine ⟨_, rfl, ?_⟩; have n0_ := Aside0.mk (below_step (by repeat (first | (with_reducible first | exact HB.out | apply below_alloc | apply pw_below_drewN | apply below_drew1) | exact HB.out)) hb); clear HB; have HB := n0_; clear n0_; (try clear hb); (try clear hb2); (try clear hk); (try clear hi)))
  (try simp only [Act.put, List.setIfInBounds_toArray, List.set_cons_zero, List.set_cons_succ])
  go_cut [39, 11] (fun v39 v11 wc => ∃ (kq : Nat) (x39_6 : Bool), v39 = .bool x39_6 ∧ v11 = .bool t261 ∧ Aside0 (barrowlaw03_PackBack.j0 kq l0 a1 a2 l3 l4 t261 x39_6 = some r) ∧ Aside0 (kq ≤ k) ∧ Aside0 (Below w.heap.size w wc))
  case first =>
    have H := HC7.out
    clear HC7
    by_cases c9 : (wrap64 ((wrap64 ((l0.length : Int) + (l4.length : Int))) + (a2.size : Int))) > 2048
    · rw [if_pos c9] at H
      have c9b0 : decide (2048 < (wrap64 ((wrap64 ((l0.length : Int) + (l4.length : Int))) + (a2.size : Int)))) = true := decide_eq_true c9
      clear c9
      (first | rw [c9b0] | (simp only [i64_w, i32_w]; rw [c9b0]) | skip)
      have H' := Aside0.mk H
      clear H
      go_wp2
      go_meet
      case rel => exact ⟨_, (true), (by first | rfl | (simp; done) | (simp [*]; done)), (by first | rfl | (simp; done) | (simp [*]; done)), H', ⟨by first | omega | exact Nat.le_refl _⟩, ⟨by repeat (first | (with_reducible first | exact HB.out | apply below_alloc | apply pw_below_drewN | apply below_drew1) | exact HB.out)⟩⟩
    · rw [if_neg c9] at H
      have c9b0 : decide (2048 < (wrap64 ((wrap64 ((l0.length : Int) + (l4.length : Int))) + (a2.size : Int)))) = false := decide_eq_false c9
      clear c9
      (first | rw [c9b0] | (simp only [i64_w, i32_w]; rw [c9b0]) | skip)
      have H' := Aside0.mk H
      clear H
      go_wp2
      go_meet
      case rel => exact ⟨_, (decide ((l3.length : Int) > 300)), (by first | rfl | (simp; done) | (simp [*]; done)), (by first | rfl | (simp; done) | (simp [*]; done)), H', ⟨by first | omega | exact Nat.le_refl _⟩, ⟨by repeat (first | (with_reducible first | exact HB.out | apply below_alloc | apply pw_below_drewN | apply below_drew1) | exact HB.out)⟩⟩
  case rest =>
    clear HC7
    try clear p2
    try clear c3
    try clear c4
    try clear c6
    try clear p6
    try clear c7
    try clear c9
    try clear c9b0
    obtain ⟨kq, x39_6, rfl, rfl, HA, HJ6, HB⟩ := hcut
    cases kq with
    | zero => exact absurd HA.out (by simp [barrowlaw03_PackBack.j0])
    | succ kj6 =>
      have H := HA.out
      clear HA
      simp only [barrowlaw03_PackBack.j0] at H
      by_cases c10 : x39_6 = true
      · subst c10
        have H1 : (some t261) = some r := by rw [if_pos rfl] at H; exact H
        clear H
        have H := H1
        clear H1
        obtain rfl := Option.some.inj H
        go_wp2
        go_ret
        exact ⟨by first | rfl | (simp [errW_none, errW_some] <;> rfl) | (simp [*, errW_none, errW_some] <;> rfl), by repeat (first | (with_reducible first | exact HB.out | apply below_alloc | apply pw_below_drewN | apply below_drew1) | exact HB.out)⟩
      · replace c10 := Bool.eq_false_iff.mpr c10
        subst c10
        have H1 : ((pack_Uint.f kj6 l0 a1).bind fun t262 => ((pack_Int.f kj6 t262 a1).bind fun t265 => ((pack_Text.f kj6 t265 a2).bind fun t268 => ((pack_Ints.f kj6 t268 l3).bind fun t271 => (if t271.length + l4.length < 140737488355328 then ((some (t271 ++ l4 : List Int)).bind fun y274 => ((pack_ReadUint.f kj6 y274 (l0.length : Int)).bind fun bt277 => ((pack_ReadInt.f kj6 y274 bt277.2.1).bind fun bt280 => ((pack_ReadText.f kj6 y274 bt280.2.1 (a2.size : Int)).bind fun bt283 => ((pack_ReadInts.f kj6 y274 bt283.2.1 (l3.length : Int)).bind fun bt286 => (if t261 = true then (if bt277.2.2 = 0 then (if bt280.2.2 = 0 then (if bt283.2.2 = 0 then (if bt286.2.2 = 0 then (if bt277.1 = (mx a1 0) then (if bt280.1 = a1 then (if bt283.1.toList = a2.toList then ((barrowref02_Same.f kj6 bt286.1 l3).bind fun t291 => (if t291 = true then (some (bt286.2.1 == (wrap64 ((y274.length : Int) - (l4.length : Int))))) else (none))) else (none)) else (none)) else (none)) else (none)) else (none)) else (none)) else (none)) else (none))))))) else (none)))))) = some r := by rw [if_neg (show ¬ (false = true) by decide)] at H; exact H
        clear H
        have H := H1
        clear H1
        replace H := Option.bind_eq_some_iff.mp H
        obtain ⟨t262, A110, H⟩ := H
        replace H : ((pack_Int.f kj6 t262 a1).bind fun t265 => ((pack_Text.f kj6 t265 a2).bind fun t268 => ((pack_Ints.f kj6 t268 l3).bind fun t271 => (if t271.length + l4.length < 140737488355328 then ((some (t271 ++ l4 : List Int)).bind fun y274 => ((pack_ReadUint.f kj6 y274 (l0.length : Int)).bind fun bt277 => ((pack_ReadInt.f kj6 y274 bt277.2.1).bind fun bt280 => ((pack_ReadText.f kj6 y274 bt280.2.1 (a2.size : Int)).bind fun bt283 => ((pack_ReadInts.f kj6 y274 bt283.2.1 (l3.length : Int)).bind fun bt286 => (if t261 = true then (if bt277.2.2 = 0 then (if bt280.2.2 = 0 then (if bt283.2.2 = 0 then (if bt286.2.2 = 0 then (if bt277.1 = (mx a1 0) then (if bt280.1 = a1 then (if bt283.1.toList = a2.toList then ((barrowref02_Same.f kj6 bt286.1 l3).bind fun t291 => (if t291 = true then (some (bt286.2.1 == (wrap64 ((y274.length : Int) - (l4.length : Int))))) else (none))) else (none)) else (none)) else (none)) else (none)) else (none)) else (none)) else (none)) else (none))))))) else (none))))) = some r := H
        have A11 := Aside0.mk A110
        clear A110
        replace H := Option.bind_eq_some_iff.mp H
        obtain ⟨t265, A120, H⟩ := H
        replace H : ((pack_Text.f kj6 t265 a2).bind fun t268 => ((pack_Ints.f kj6 t268 l3).bind fun t271 => (if t271.length + l4.length < 140737488355328 then ((some (t271 ++ l4 : List Int)).bind fun y274 => ((pack_ReadUint.f kj6 y274 (l0.length : Int)).bind fun bt277 => ((pack_ReadInt.f kj6 y274 bt277.2.1).bind fun bt280 => ((pack_ReadText.f kj6 y274 bt280.2.1 (a2.size : Int)).bind fun bt283 => ((pack_ReadInts.f kj6 y274 bt283.2.1 (l3.length : Int)).bind fun bt286 => (if t261 = true then (if bt277.2.2 = 0 then (if bt280.2.2 = 0 then (if bt283.2.2 = 0 then (if bt286.2.2 = 0 then (if bt277.1 = (mx a1 0) then (if bt280.1 = a1 then (if bt283.1.toList = a2.toList then ((barrowref02_Same.f kj6 bt286.1 l3).bind fun t291 => (if t291 = true then (some (bt286.2.1 == (wrap64 ((y274.length : Int) - (l4.length : Int))))) else (none))) else (none)) else (none)) else (none)) else (none)) else (none)) else (none)) else (none)) else (none))))))) else (none)))) = some r := H
        have A12 := Aside0.mk A120
        clear A120
        replace H := Option.bind_eq_some_iff.mp H
        obtain ⟨t268, A130, H⟩ := H
        replace H : ((pack_Ints.f kj6 t268 l3).bind fun t271 => (if t271.length + l4.length < 140737488355328 then ((some (t271 ++ l4 : List Int)).bind fun y274 => ((pack_ReadUint.f kj6 y274 (l0.length : Int)).bind fun bt277 => ((pack_ReadInt.f kj6 y274 bt277.2.1).bind fun bt280 => ((pack_ReadText.f kj6 y274 bt280.2.1 (a2.size : Int)).bind fun bt283 => ((pack_ReadInts.f kj6 y274 bt283.2.1 (l3.length : Int)).bind fun bt286 => (if t261 = true then (if bt277.2.2 = 0 then (if bt280.2.2 = 0 then (if bt283.2.2 = 0 then (if bt286.2.2 = 0 then (if bt277.1 = (mx a1 0) then (if bt280.1 = a1 then (if bt283.1.toList = a2.toList then ((barrowref02_Same.f kj6 bt286.1 l3).bind fun t291 => (if t291 = true then (some (bt286.2.1 == (wrap64 ((y274.length : Int) - (l4.length : Int))))) else (none))) else (none)) else (none)) else (none)) else (none)) else (none)) else (none)) else (none)) else (none))))))) else (none))) = some r := H
        have A13 := Aside0.mk A130
        clear A130
        replace H := Option.bind_eq_some_iff.mp H
        obtain ⟨t271, A140, H⟩ := H
        replace H : (if t271.length + l4.length < 140737488355328 then ((some (t271 ++ l4 : List Int)).bind fun y274 => ((pack_ReadUint.f kj6 y274 (l0.length : Int)).bind fun bt277 => ((pack_ReadInt.f kj6 y274 bt277.2.1).bind fun bt280 => ((pack_ReadText.f kj6 y274 bt280.2.1 (a2.size : Int)).bind fun bt283 => ((pack_ReadInts.f kj6 y274 bt283.2.1 (l3.length : Int)).bind fun bt286 => (if t261 = true then (if bt277.2.2 = 0 then (if bt280.2.2 = 0 then (if bt283.2.2 = 0 then (if bt286.2.2 = 0 then (if bt277.1 = (mx a1 0) then (if bt280.1 = a1 then (if bt283.1.toList = a2.toList then ((barrowref02_Same.f kj6 bt286.1 l3).bind fun t291 => (if t291 = true then (some (bt286.2.1 == (wrap64 ((y274.length : Int) - (l4.length : Int))))) else (none))) else (none)) else (none)) else (none)) else (none)) else (none)) else (none)) else (none)) else (none))))))) else (none)) = some r := H
        have A14 := Aside0.mk A140
        clear A140
        by_cases c15 : t271.length + l4.length < 140737488355328
        · rw [if_pos c15] at H
          have LMc15 := Aside0.mk c15
          clear c15
          obtain ⟨y274, hy274⟩ : ∃ y_ : List Int, y_ = (t271 ++ l4) := ⟨_, rfl⟩
          replace H : ((pack_ReadUint.f kj6 y274 (l0.length : Int)).bind fun bt277 => ((pack_ReadInt.f kj6 y274 bt277.2.1).bind fun bt280 => ((pack_ReadText.f kj6 y274 bt280.2.1 (a2.size : Int)).bind fun bt283 => ((pack_ReadInts.f kj6 y274 bt283.2.1 (l3.length : Int)).bind fun bt286 => (if t261 = true then (if bt277.2.2 = 0 then (if bt280.2.2 = 0 then (if bt283.2.2 = 0 then (if bt286.2.2 = 0 then (if bt277.1 = (mx a1 0) then (if bt280.1 = a1 then (if bt283.1.toList = a2.toList then ((barrowref02_Same.f kj6 bt286.1 l3).bind fun t291 => (if t291 = true then (some (bt286.2.1 == (wrap64 ((y274.length : Int) - (l4.length : Int))))) else (none))) else (none)) else (none)) else (none)) else (none)) else (none)) else (none)) else (none)) else (none)))))) = some r := by first | (rw [hy274]; with_reducible exact H) | (have H2_ := (Option.bind_some _ _).symm.trans H; rw [hy274]; with_reducible exact H2_) | (have H2_ := (Option.bind_some _ _).symm.trans H; with_reducible exact H2_) | with_reducible exact H | (rw [hy274]; exact H) | exact H
          have Ny274 := Aside0.mk hy274
          clear hy274
          replace H := Option.bind_eq_some_iff.mp H
          obtain ⟨⟨t277, t278, t279⟩, A160, H⟩ := H
          replace H : ((pack_ReadInt.f kj6 y274 t278).bind fun bt280 => ((pack_ReadText.f kj6 y274 bt280.2.1 (a2.size : Int)).bind fun bt283 => ((pack_ReadInts.f kj6 y274 bt283.2.1 (l3.length : Int)).bind fun bt286 => (if t261 = true then (if t279 = 0 then (if bt280.2.2 = 0 then (if bt283.2.2 = 0 then (if bt286.2.2 = 0 then (if t277 = (mx a1 0) then (if bt280.1 = a1 then (if bt283.1.toList = a2.toList then ((barrowref02_Same.f kj6 bt286.1 l3).bind fun t291 => (if t291 = true then (some (bt286.2.1 == (wrap64 ((y274.length : Int) - (l4.length : Int))))) else (none))) else (none)) else (none)) else (none)) else (none)) else (none)) else (none)) else (none)) else (none))))) = some r := H
          have A16 := Aside0.mk A160
          clear A160
          replace H := Option.bind_eq_some_iff.mp H
          obtain ⟨⟨t280, t281, t282⟩, A170, H⟩ := H
          replace H : ((pack_ReadText.f kj6 y274 t281 (a2.size : Int)).bind fun bt283 => ((pack_ReadInts.f kj6 y274 bt283.2.1 (l3.length : Int)).bind fun bt286 => (if t261 = true then (if t279 = 0 then (if t282 = 0 then (if bt283.2.2 = 0 then (if bt286.2.2 = 0 then (if t277 = (mx a1 0) then (if t280 = a1 then (if bt283.1.toList = a2.toList then ((barrowref02_Same.f kj6 bt286.1 l3).bind fun t291 => (if t291 = true then (some (bt286.2.1 == (wrap64 ((y274.length : Int) - (l4.length : Int))))) else (none))) else (none)) else (none)) else (none)) else (none)) else (none)) else (none)) else (none)) else (none)))) = some r := H
          have A17 := Aside0.mk A170
          clear A170
          replace H := Option.bind_eq_some_iff.mp H
          obtain ⟨⟨t283, t284, t285⟩, A180, H⟩ := H
          replace H : ((pack_ReadInts.f kj6 y274 t284 (l3.length : Int)).bind fun bt286 => (if t261 = true then (if t279 = 0 then (if t282 = 0 then (if t285 = 0 then (if bt286.2.2 = 0 then (if t277 = (mx a1 0) then (if t280 = a1 then (if t283.toList = a2.toList then ((barrowref02_Same.f kj6 bt286.1 l3).bind fun t291 => (if t291 = true then (some (bt286.2.1 == (wrap64 ((y274.length : Int) - (l4.length : Int))))) else (none))) else (none)) else (none)) else (none)) else (none)) else (none)) else (none)) else (none)) else (none))) = some r := H
          have A18 := Aside0.mk A180
          clear A180
          replace H := Option.bind_eq_some_iff.mp H
          obtain ⟨⟨t286, t287, t288⟩, A190, H⟩ := H
          replace H : (if t261 = true then (if t279 = 0 then (if t282 = 0 then (if t285 = 0 then (if t288 = 0 then (if t277 = (mx a1 0) then (if t280 = a1 then (if t283.toList = a2.toList then ((barrowref02_Same.f kj6 t286 l3).bind fun t291 => (if t291 = true then (some (t287 == (wrap64 ((y274.length : Int) - (l4.length : Int))))) else (none))) else (none)) else (none)) else (none)) else (none)) else (none)) else (none)) else (none)) else (none)) = some r := H
          have A19 := Aside0.mk A190
          clear A190
          by_cases c20 : t261 = true
          · subst c20
            have H1 : (if t279 = 0 then (if t282 = 0 then (if t285 = 0 then (if t288 = 0 then (if t277 = (mx a1 0) then (if t280 = a1 then (if t283.toList = a2.toList then ((barrowref02_Same.f kj6 t286 l3).bind fun t291 => (if t291 = true then (some (t287 == (wrap64 ((y274.length : Int) - (l4.length : Int))))) else (none))) else (none)) else (none)) else (none)) else (none)) else (none)) else (none)) else (none)) = some r := by rw [if_pos rfl] at H; exact H
            clear H
            have H := H1
            clear H1
            by_cases c21 : t279 = 0
            · rw [if_pos c21] at H
              have c21b0 : (t279 == 0) = true := beq_iff_eq.mpr c21
              have c21b1 : (t279 != 0) = false := bne_eq_false_iff_eq.mpr c21
              clear c21
              by_cases c22 : t282 = 0
              · rw [if_pos c22] at H
                have c22b0 : (t282 == 0) = true := beq_iff_eq.mpr c22
                have c22b1 : (t282 != 0) = false := bne_eq_false_iff_eq.mpr c22
                clear c22
                by_cases c23 : t285 = 0
                · rw [if_pos c23] at H
                  have c23b0 : (t285 == 0) = true := beq_iff_eq.mpr c23
                  have c23b1 : (t285 != 0) = false := bne_eq_false_iff_eq.mpr c23
                  clear c23
                  by_cases c24 : t288 = 0
                  · rw [if_pos c24] at H
                    have c24b0 : (t288 == 0) = true := beq_iff_eq.mpr c24
                    have c24b1 : (t288 != 0) = false := bne_eq_false_iff_eq.mpr c24
                    clear c24
                    obtain ⟨ji25, hji25⟩ : ∃ j_ : Int, (mx a1 0) = j_ := ⟨_, rfl⟩
                    replace H : (if t277 = (ji25) then (if t280 = a1 then (if t283.toList = a2.toList then ((barrowref02_Same.f kj6 t286 l3).bind fun t291 => (if t291 = true then (some (t287 == (wrap64 ((y274.length : Int) - (l4.length : Int))))) else (none))) else (none)) else (none)) else (none)) = some r := by first | (rw [hji25] at H; exact H) | (simp only [hji25] at H ⊢; exact H)
                    (try rw [hji25] at A11)
                    (try rw [hji25] at A12)
                    (try rw [hji25] at A13)
                    (try rw [hji25] at A14)
                    (try rw [hji25] at A16)
                    (try rw [hji25] at A17)
                    (try rw [hji25] at A18)
                    (try rw [hji25] at A19)
                    (try (have hji25l : 0 ≤ ji25 := by (rw [← hji25]; unfold mx; (repeat' split) <;> omega)))
                    (try (have hji25m : 0 ≤ ji25 := by omega))
                    have hji25_ : (if a1 < 0 then 0 else a1) = ji25 := hji25
                    by_cases c26 : t277 = (ji25)
                    · rw [if_pos c26] at H
                      have c26b0 : (t277 == (ji25)) = true := beq_iff_eq.mpr c26
                      have c26b1 : (t277 != (ji25)) = false := bne_eq_false_iff_eq.mpr c26
                      clear c26
                      by_cases c27 : t280 = a1
                      · rw [if_pos c27] at H
                        have c27b0 : (t280 == a1) = true := beq_iff_eq.mpr c27
                        have c27b1 : (t280 != a1) = false := bne_eq_false_iff_eq.mpr c27
                        clear c27
                        by_cases c28 : t283.toList = a2.toList
                        · rw [if_pos c28] at H
                          have c28b0 : (t283.toList == a2.toList) = true := beq_iff_eq.mpr c28
                          have c28b1 : (t283.toList != a2.toList) = false := bne_eq_false_iff_eq.mpr c28
                          clear c28
                          replace H := Option.bind_eq_some_iff.mp H
                          obtain ⟨t291, A290, H⟩ := H
                          replace H : (if t291 = true then (some (t287 == (wrap64 ((y274.length : Int) - (l4.length : Int))))) else (none)) = some r := H
                          have A29 := Aside0.mk A290
                          clear A290
                          by_cases c30 : t291 = true
                          · subst c30
                            have H1 : (some (t287 == (wrap64 ((y274.length : Int) - (l4.length : Int))))) = some r := by rw [if_pos rfl] at H; exact H
                            clear H
                            have H := H1
                            clear H1
                            obtain rfl := Option.some.inj H
                            go_wp2_with (first | ((with_reducible refine gate_callee (f := 8) rfl ?_); refine goesL_ (some 43) rfl rfl Try.func8 (by kernel_rfl) rfl #[.slice A0 l0.length c0, .int .i64 a1] rfl (by (try simp only [List.map_toArray, List.map_cons, List.map_nil]); first | done | rfl | (simp only [List.length_drop, List.length_take]; rfl)) ?_; (with_reducible refine (pack_Uint.calls kj6 _ _ l0 a1 t262 _ ?side1 ?side2 A11.out).mono ?_); (case side1 => repeat (first | exact (Kd.C_below HR0.out HB.out) | (with_reducible refine Kd.C_alloc ?_ _) | (with_reducible refine Kd.C_drewN ?_ _) | (with_reducible refine Kd.C_drew ?_))); (case side2 => exact HC0.out); rintro e w31 ⟨v263, rfl, ho0, hb⟩; refine ⟨_, rfl, ?_⟩; have n0_ := Aside0.mk (Kd.R_lower ho0 (below_size (by repeat (first | (with_reducible first | exact HB.out | apply below_alloc | apply pw_below_drewN | apply below_drew1) | exact HB.out)))); have n1_ := Aside0.mk (below_step (by repeat (first | (with_reducible first | exact HB.out | apply below_alloc | apply pw_below_drewN | apply below_drew1) | exact HB.out)) hb); clear HB; have HO264 := n0_; have HB := n1_; clear n0_ n1_; (try clear hb); (try clear hb2); (try clear hk); (try clear hi); (try clear ho0); obtain ⟨Ao32, co32, eo32⟩ := Kd.R_slice HO264.out; subst eo32) | ((with_reducible refine gate_callee (f := 10) rfl ?_); refine goesL_ (some 45) rfl rfl Try.func10 (by kernel_rfl) rfl #[.slice Ao32 t262.length co32, .int .i64 a1] rfl (by (try simp only [List.map_toArray, List.map_cons, List.map_nil]); first | done | rfl | (simp only [List.length_drop, List.length_take]; rfl)) ?_; (with_reducible refine (pack_Int.calls kj6 _ _ t262 a1 t265 _ ?side1 ?side2 A12.out).mono ?_); (case side1 => repeat (first | exact (Kd.R_reads' HO264.out).2.2 | (with_reducible refine Kd.C_alloc ?_ _) | (with_reducible refine Kd.C_drewN ?_ _) | (with_reducible refine Kd.C_drew ?_))); (case side2 => exact (Kd.R_reads' HO264.out).2.1); rintro e w33 ⟨v266, rfl, ho0, hb⟩; refine ⟨_, rfl, ?_⟩; have n0_ := Aside0.mk (Kd.R_elder' (by (with_reducible repeat (first | apply Kd.R_alloc | apply Kd.R_drewN | apply Kd.R_drew)); exact HO264.out) (Kd.R_base ho0) hb); have n1_ := Aside0.mk (Kd.R_lower (Kd.R_new' ho0 (Kd.R_lt (by (with_reducible repeat (first | apply Kd.R_alloc | apply Kd.R_drewN | apply Kd.R_drew)); exact HO264.out))) (below_size (by repeat (first | (with_reducible first | exact HB.out | apply below_alloc | apply pw_below_drewN | apply below_drew1) | exact HB.out)))); have n2_ := Aside0.mk (below_step (by repeat (first | (with_reducible first | exact HB.out | apply below_alloc | apply pw_below_drewN | apply below_drew1) | exact HB.out)) hb); clear HO264; clear HB; have HO264 := n0_; have HO267 := n1_; have HB := n2_; clear n0_ n1_ n2_; (try clear hb); (try clear hb2); (try clear hk); (try clear hi); (try clear ho0); obtain ⟨Ao34, co34, eo34⟩ := Kd.R_slice HO267.out; subst eo34) | ((with_reducible refine gate_callee (f := 11) rfl ?_); refine goesL_ (some 47) rfl rfl Try.func11 (by kernel_rfl) rfl #[.slice Ao34 t265.length co34, .string a2] rfl (by (try simp only [List.map_toArray, List.map_cons, List.map_nil]); first | done | rfl | (simp only [List.length_drop, List.length_take]; rfl)) ?_; (with_reducible refine (pack_Text.calls kj6 _ _ t265 a2 t268 _ ?side1 ?side2 A13.out).mono ?_); (case side1 => repeat (first | exact (Kd.R_reads' HO267.out).2.2 | (with_reducible refine Kd.C_alloc ?_ _) | (with_reducible refine Kd.C_drewN ?_ _) | (with_reducible refine Kd.C_drew ?_))); (case side2 => exact (Kd.R_reads' HO267.out).2.1); rintro e w35 ⟨v269, rfl, ho0, hb⟩; refine ⟨_, rfl, ?_⟩; have n0_ := Aside0.mk (Kd.R_elder' (by (with_reducible repeat (first | apply Kd.R_alloc | apply Kd.R_drewN | apply Kd.R_drew)); exact HO264.out) (Kd.R_base ho0) hb); have n1_ := Aside0.mk (Kd.R_elder' (by (with_reducible repeat (first | apply Kd.R_alloc | apply Kd.R_drewN | apply Kd.R_drew)); exact HO267.out) (Kd.R_base ho0) hb); have n2_ := Aside0.mk (Kd.R_lower (Kd.R_new' (Kd.R_new' ho0 (Kd.R_lt (by (with_reducible repeat (first | apply Kd.R_alloc | apply Kd.R_drewN | apply Kd.R_drew)); exact HO264.out))) (Kd.R_lt (by (with_reducible repeat (first | apply Kd.R_alloc | apply Kd.R_drewN | apply Kd.R_drew)); exact HO267.out))) (below_size (by repeat (first | (with_reducible first | exact HB.out | apply below_alloc | apply pw_below_drewN | apply below_drew1) | exact HB.out)))); have n3_ := Aside0.mk (below_step (by repeat (first | (with_reducible first | exact HB.out | apply below_alloc | apply pw_below_drewN | apply below_drew1) | exact HB.out)) hb); clear HO264; clear HO267; clear HB; have HO264 := n0_; have HO267 := n1_; have HO270 := n2_; have HB := n3_; clear n0_ n1_ n2_ n3_; (try clear hb); (try clear hb2); (try clear hk); (try clear hi); (try clear ho0); obtain ⟨Ao36, co36, eo36⟩ := Kd.R_slice HO270.out; subst eo36) | ((with_reducible refine gate_callee (f := 12) rfl ?_); refine goesL_ (some 49) rfl rfl Try.func12 (by kernel_rfl) rfl #[.slice Ao36 t268.length co36, .slice A3 l3.length c3] rfl (by (try simp only [List.map_toArray, List.map_cons, List.map_nil]); first | done | rfl | (simp only [List.length_drop, List.length_take]; rfl)) ?_; (with_reducible refine (pack_Ints.calls kj6 _ _ t268 _ _ l3 t271 _ ?side1 ?side2 ?side3 ?side4 A14.out).mono ?_); (case side1 => repeat (first | exact (Kd.R_reads' HO270.out).2.2 | (with_reducible refine Kd.C_alloc ?_ _) | (with_reducible refine Kd.C_drewN ?_ _) | (with_reducible refine Kd.C_drew ?_))); (case side2 => exact (Kd.R_reads' HO270.out).2.1); (case side3 => repeat (first | exact (Kd.C_below HR3.out HB.out) | (with_reducible refine Kd.C_alloc ?_ _) | (with_reducible refine Kd.C_drewN ?_ _) | (with_reducible refine Kd.C_drew ?_))); (case side4 => exact HC3.out); rintro e w37 ⟨v272, rfl, ho0, hb⟩; refine ⟨_, rfl, ?_⟩; have n0_ := Aside0.mk (Kd.R_elder' (by (with_reducible repeat (first | apply Kd.R_alloc | apply Kd.R_drewN | apply Kd.R_drew)); exact HO264.out) (Kd.R_base ho0) hb); have n1_ := Aside0.mk (Kd.R_elder' (by (with_reducible repeat (first | apply Kd.R_alloc | apply Kd.R_drewN | apply Kd.R_drew)); exact HO267.out) (Kd.R_base ho0) hb); have n2_ := Aside0.mk (Kd.R_elder' (by (with_reducible repeat (first | apply Kd.R_alloc | apply Kd.R_drewN | apply Kd.R_drew)); exact HO270.out) (Kd.R_base ho0) hb); have n3_ := Aside0.mk (Kd.R_lower (Kd.R_new' (Kd.R_new' (Kd.R_new' ho0 (Kd.R_lt (by (with_reducible repeat (first | apply Kd.R_alloc | apply Kd.R_drewN | apply Kd.R_drew)); exact HO264.out))) (Kd.R_lt (by (with_reducible repeat (first | apply Kd.R_alloc | apply Kd.R_drewN | apply Kd.R_drew)); exact HO267.out))) (Kd.R_lt (by (with_reducible repeat (first | apply Kd.R_alloc | apply Kd.R_drewN | apply Kd.R_drew)); exact HO270.out))) (below_size (by repeat (first | (with_reducible first | exact HB.out | apply below_alloc | apply pw_below_drewN | apply below_drew1) | exact HB.out)))); have n4_ := Aside0.mk (below_step (by repeat (first | (with_reducible first | exact HB.out | apply below_alloc | apply pw_below_drewN | apply below_drew1) | exact HB.out)) hb); clear HO264; clear HO267; clear HO270; clear HB; have HO264 := n0_; have HO267 := n1_; have HO270 := n2_; have HO273 := n3_; have HB := n4_; clear n0_ n1_ n2_ n3_ n4_; (try clear hb); (try clear hb2); (try clear hk); (try clear hi); (try clear ho0)) | ((with_reducible refine gate_builtin (b := .append) (xs := #[.tmp 49, .tmp 50]) rfl ?_); (try (refine gate_guard (by rfl) ?_; dsimp only)); at_builtin; refine Kd.R_append_rows (Kd.int .u8) (w0 := w) w.heap.size rfl (.tmp 49) (.tmp 50) 23 5 (.int .u8 0) 1 rfl Try.underlying23 info5 rfl (by decide) (by omega) v272 t271 l4 _ _ _ (fun k_ => some k_ ≠ (.slice Ao32 t262.length co32 : Value).ownBlock ∧ some k_ ≠ (.slice Ao34 t265.length co34 : Value).ownBlock ∧ some k_ ≠ (.slice Ao36 t268.length co36 : Value).ownBlock) (fun _ => False) rfl rfl ?aO ?aR (fun _ _ h => h) (fun _ h => h.elim) ?aF ?aB ?aS ?aL ?_; (case aR => repeat (first | exact (Kd.C_below HR4.out HB.out) | (with_reducible refine Kd.C_alloc ?_ _) | (with_reducible refine Kd.C_drewN ?_ _) | (with_reducible refine Kd.C_drew ?_))); (case aB => exact (by repeat (first | (with_reducible first | exact HB.out | apply below_alloc | apply pw_below_drewN | apply below_drew1) | exact HB.out))); (case aF => exact (fun k_ hk => ⟨Kd.fresh' (Kd.R_lt (by (with_reducible repeat (first | apply Kd.R_alloc | apply Kd.R_drewN | apply Kd.R_drew)); exact HO264.out)) k_ hk, Kd.fresh' (Kd.R_lt (by (with_reducible repeat (first | apply Kd.R_alloc | apply Kd.R_drewN | apply Kd.R_drew)); exact HO267.out)) k_ hk, Kd.fresh' (Kd.R_lt (by (with_reducible repeat (first | apply Kd.R_alloc | apply Kd.R_drewN | apply Kd.R_drew)); exact HO270.out)) k_ hk⟩)); (case aO => exact (by (with_reducible repeat (first | apply Kd.R_alloc | apply Kd.R_drewN | apply Kd.R_drew)); exact Kd.R_mono HO273.out (fun _ hk => ⟨hk.1.1.2, ⟨hk.1.2, hk.2⟩⟩))); (case aS => exact (below_size (by repeat (first | (with_reducible first | exact HB.out | apply below_alloc | apply pw_below_drewN | apply below_drew1) | exact HB.out)))); (case aL => have := LMc15.out; omega); intro v275 w38 ho hb hg hat; rw [← Ny274.out] at ho; have n0_ := Aside0.mk (Kd.R_after (ok := (fun k_ => some k_ ≠ (.slice Ao34 t265.length co34 : Value).ownBlock ∧ some k_ ≠ (.slice Ao36 t268.length co36 : Value).ownBlock)) (by (with_reducible repeat (first | apply Kd.R_alloc | apply Kd.R_drewN | apply Kd.R_drew)); exact Kd.R_mono HO264.out (fun _ hk => ⟨⟨hk.1.1.2, hk.1.2⟩, hk.2⟩)) hg hat); have n1_ := Aside0.mk (Kd.R_after (ok := (fun k_ => some k_ ≠ (.slice Ao32 t262.length co32 : Value).ownBlock ∧ some k_ ≠ (.slice Ao36 t268.length co36 : Value).ownBlock)) (by (with_reducible repeat (first | apply Kd.R_alloc | apply Kd.R_drewN | apply Kd.R_drew)); exact Kd.R_mono HO267.out (fun _ hk => ⟨⟨hk.1.1.2, hk.1.2⟩, hk.2⟩)) hg hat); have n2_ := Aside0.mk (Kd.R_after (ok := (fun k_ => some k_ ≠ (.slice Ao32 t262.length co32 : Value).ownBlock ∧ some k_ ≠ (.slice Ao34 t265.length co34 : Value).ownBlock)) (by (with_reducible repeat (first | apply Kd.R_alloc | apply Kd.R_drewN | apply Kd.R_drew)); exact Kd.R_mono HO270.out (fun _ hk => ⟨⟨hk.1.1.2, hk.1.2⟩, hk.2⟩)) hg hat); have n3_ := Aside0.mk (hb); have n4_ := Aside0.mk (ho); clear HO264; clear HO267; clear HO270; clear HB; clear HO273; have HO264 := n0_; have HO267 := n1_; have HO270 := n2_; have HB := n3_; have HO276 := n4_; clear n0_ n1_ n2_ n3_ n4_; clear ho hb hg hat; obtain ⟨Ao39, co39, eo39⟩ := Kd.R_slice HO276.out; subst eo39) | ((with_reducible refine gate_callee (f := 18) rfl ?_); refine goesL_ (some 56) rfl rfl Try.func18 (by kernel_rfl) rfl #[.slice Ao39 y274.length co39, .int .i64 (l0.length : Int)] rfl (by (try simp only [List.map_toArray, List.map_cons, List.map_nil]); first | done | rfl | (simp only [List.length_drop, List.length_take]; rfl)) ?_; (with_reducible refine (pack_ReadUint.calls kj6 _ _ y274 (l0.length : Int) t277 t278 t279 _ ?side1 ?side2 A16.out).mono ?_); (case side1 => repeat (first | exact (Kd.R_reads' HO276.out).2.2 | (with_reducible refine Kd.C_alloc ?_ _) | (with_reducible refine Kd.C_drewN ?_ _) | (with_reducible refine Kd.C_drew ?_))); (case side2 => exact (Kd.R_reads' HO276.out).2.1); rintro e w40 ⟨rfl, hb⟩; refine ⟨_, rfl, ?_⟩; have n0_ := Aside0.mk (Kd.R_below (by (with_reducible repeat (first | apply Kd.R_alloc | apply Kd.R_drewN | apply Kd.R_drew)); exact HO264.out) hb); have n1_ := Aside0.mk (Kd.R_below (by (with_reducible repeat (first | apply Kd.R_alloc | apply Kd.R_drewN | apply Kd.R_drew)); exact HO267.out) hb); have n2_ := Aside0.mk (Kd.R_below (by (with_reducible repeat (first | apply Kd.R_alloc | apply Kd.R_drewN | apply Kd.R_drew)); exact HO270.out) hb); have n3_ := Aside0.mk (Kd.R_below (by (with_reducible repeat (first | apply Kd.R_alloc | apply Kd.R_drewN | apply Kd.R_drew)); exact HO276.out) hb); have n4_ := Aside0.mk (below_step (by repeat (first | (with_reducible first | exact HB.out | apply below_alloc | apply pw_below_drewN | apply below_drew1) | exact HB.out)) hb); clear HO264; clear HO267; clear HO270; clear HO276; clear HB; have HO264 := n0_; have HO267 := n1_; have HO270 := n2_; have HO276 := n3_; have HB := n4_; clear n0_ n1_ n2_ n3_ n4_; (try clear hb); (try clear hb2); (try clear hk); (try clear hi)) | ((with_reducible refine gate_callee (f := 20) rfl ?_); refine goesL_ (some 63) rfl rfl Try.func20 (by kernel_rfl) rfl #[.slice Ao39 y274.length co39, .int .i64 t278] rfl (by (try simp only [List.map_toArray, List.map_cons, List.map_nil]); first | done | rfl | (simp only [List.length_drop, List.length_take]; rfl)) ?_; (with_reducible refine (pack_ReadInt.calls kj6 _ _ y274 t278 t280 t281 t282 _ ?side1 ?side2 A17.out).mono ?_); (case side1 => repeat (first | exact (Kd.R_reads' HO276.out).2.2 | (with_reducible refine Kd.C_alloc ?_ _) | (with_reducible refine Kd.C_drewN ?_ _) | (with_reducible refine Kd.C_drew ?_))); (case side2 => exact (Kd.R_reads' HO276.out).2.1); rintro e w41 ⟨rfl, hb⟩; refine ⟨_, rfl, ?_⟩; have n0_ := Aside0.mk (Kd.R_below (by (with_reducible repeat (first | apply Kd.R_alloc | apply Kd.R_drewN | apply Kd.R_drew)); exact HO264.out) hb); have n1_ := Aside0.mk (Kd.R_below (by (with_reducible repeat (first | apply Kd.R_alloc | apply Kd.R_drewN | apply Kd.R_drew)); exact HO267.out) hb); have n2_ := Aside0.mk (Kd.R_below (by (with_reducible repeat (first | apply Kd.R_alloc | apply Kd.R_drewN | apply Kd.R_drew)); exact HO270.out) hb); have n3_ := Aside0.mk (Kd.R_below (by (with_reducible repeat (first | apply Kd.R_alloc | apply Kd.R_drewN | apply Kd.R_drew)); exact HO276.out) hb); have n4_ := Aside0.mk (below_step (by repeat (first | (with_reducible first | exact HB.out | apply below_alloc | apply pw_below_drewN | apply below_drew1) | exact HB.out)) hb); clear HO264; clear HO267; clear HO270; clear HO276; clear HB; have HO264 := n0_; have HO267 := n1_; have HO270 := n2_; have HO276 := n3_; have HB := n4_; clear n0_ n1_ n2_ n3_ n4_; (try clear hb); (try clear hb2); (try clear hk); (try clear hi)) | ((with_reducible refine gate_callee (f := 22) rfl ?_); refine goesL_ (some 72) rfl rfl Try.func22 (by kernel_rfl) rfl #[.slice Ao39 y274.length co39, .int .i64 t281, .int .i64 (a2.size : Int)] rfl (by (try simp only [List.map_toArray, List.map_cons, List.map_nil]); first | done | rfl | (simp only [List.length_drop, List.length_take]; rfl)) ?_; (with_reducible refine (pack_ReadText.calls kj6 _ _ y274 t281 (a2.size : Int) t283 t284 t285 _ ?side1 ?side2 A18.out).mono ?_); (case side1 => repeat (first | exact (Kd.R_reads' HO276.out).2.2 | (with_reducible refine Kd.C_alloc ?_ _) | (with_reducible refine Kd.C_drewN ?_ _) | (with_reducible refine Kd.C_drew ?_))); (case side2 => exact (Kd.R_reads' HO276.out).2.1); rintro e w42 ⟨rfl, hb⟩; refine ⟨_, rfl, ?_⟩; have n0_ := Aside0.mk (Kd.R_below (by (with_reducible repeat (first | apply Kd.R_alloc | apply Kd.R_drewN | apply Kd.R_drew)); exact HO264.out) hb); have n1_ := Aside0.mk (Kd.R_below (by (with_reducible repeat (first | apply Kd.R_alloc | apply Kd.R_drewN | apply Kd.R_drew)); exact HO267.out) hb); have n2_ := Aside0.mk (Kd.R_below (by (with_reducible repeat (first | apply Kd.R_alloc | apply Kd.R_drewN | apply Kd.R_drew)); exact HO270.out) hb); have n3_ := Aside0.mk (Kd.R_below (by (with_reducible repeat (first | apply Kd.R_alloc | apply Kd.R_drewN | apply Kd.R_drew)); exact HO276.out) hb); have n4_ := Aside0.mk (below_step (by repeat (first | (with_reducible first | exact HB.out | apply below_alloc | apply pw_below_drewN | apply below_drew1) | exact HB.out)) hb); clear HO264; clear HO267; clear HO270; clear HO276; clear HB; have HO264 := n0_; have HO267 := n1_; have HO270 := n2_; have HO276 := n3_; have HB := n4_; clear n0_ n1_ n2_ n3_ n4_; (try clear hb); (try clear hb2); (try clear hk); (try clear hi)) | ((with_reducible refine gate_callee (f := 24) rfl ?_); refine goesL_ (some 81) rfl rfl Try.func24 (by kernel_rfl) rfl #[.slice Ao39 y274.length co39, .int .i64 t284, .int .i64 (l3.length : Int)] rfl (by (try simp only [List.map_toArray, List.map_cons, List.map_nil]); first | done | rfl | (simp only [List.length_drop, List.length_take]; rfl)) ?_; (with_reducible refine (pack_ReadInts.calls kj6 _ _ y274 t284 (l3.length : Int) t286 t287 t288 _ ?side1 ?side2 A19.out).mono ?_); (case side1 => repeat (first | exact (Kd.R_reads' HO276.out).2.2 | (with_reducible refine Kd.C_alloc ?_ _) | (with_reducible refine Kd.C_drewN ?_ _) | (with_reducible refine Kd.C_drew ?_))); (case side2 => exact (Kd.R_reads' HO276.out).2.1); rintro e w43 ⟨v289, rfl, ho0, hb⟩; refine ⟨_, rfl, ?_⟩; have n0_ := Aside0.mk (Kd.R_below (by (with_reducible repeat (first | apply Kd.R_alloc | apply Kd.R_drewN | apply Kd.R_drew)); exact HO264.out) hb); have n1_ := Aside0.mk (Kd.R_below (by (with_reducible repeat (first | apply Kd.R_alloc | apply Kd.R_drewN | apply Kd.R_drew)); exact HO267.out) hb); have n2_ := Aside0.mk (Kd.R_below (by (with_reducible repeat (first | apply Kd.R_alloc | apply Kd.R_drewN | apply Kd.R_drew)); exact HO270.out) hb); have n3_ := Aside0.mk (Kd.R_below (by (with_reducible repeat (first | apply Kd.R_alloc | apply Kd.R_drewN | apply Kd.R_drew)); exact HO276.out) hb); have n4_ := Aside0.mk (Kd.R_lower ho0 (below_size (by repeat (first | (with_reducible first | exact HB.out | apply below_alloc | apply pw_below_drewN | apply below_drew1) | exact HB.out)))); have n5_ := Aside0.mk (below_step (by repeat (first | (with_reducible first | exact HB.out | apply below_alloc | apply pw_below_drewN | apply below_drew1) | exact HB.out)) hb); clear HO264; clear HO267; clear HO270; clear HO276; clear HB; have HO264 := n0_; have HO267 := n1_; have HO270 := n2_; have HO276 := n3_; have HO290 := n4_; have HB := n5_; clear n0_ n1_ n2_ n3_ n4_ n5_; (try clear hb); (try clear hb2); (try clear hk); (try clear hi); (try clear ho0); obtain ⟨Ao44, co44, eo44⟩ := Kd.R_slice HO290.out; subst eo44) | (go_at_call 26; (with_reducible refine (barrowref02_Same.calls kj6 _ _ t286 _ _ l3 true _ ?side1 ?side2 ?side3 ?side4 A29.out).mono ?_); (case side1 => repeat (first | exact (Kd.R_reads' HO290.out).2.2 | (with_reducible refine Kd.C_alloc ?_ _) | (with_reducible refine Kd.C_drewN ?_ _) | (with_reducible refine Kd.C_drew ?_))); (case side2 => exact (Kd.R_reads' HO290.out).2.1); (case side3 => repeat (first | exact (Kd.C_below HR3.out HB.out) | (with_reducible refine Kd.C_alloc ?_ _) | (with_reducible refine Kd.C_drewN ?_ _) | (with_reducible refine Kd.C_drew ?_))); (case side4 => exact HC3.out); rintro e w' ⟨rfl, ⟨nd, rfl⟩⟩))
                            go_ret
                            exact ⟨by first | rfl | (simp [errW_none, errW_some] <;> rfl) | (simp only [← hji25]; first | rfl | (simp [errW_none, errW_some] <;> rfl)) | (simp [*, errW_none, errW_some] <;> rfl), by repeat (first | (with_reducible first | exact HB.out | apply below_alloc | apply pw_below_drewN | apply below_drew1) | exact HB.out)⟩
                          · replace c30 := Bool.eq_false_iff.mpr c30
                            subst c30
                            have H1 : (none) = some r := by rw [if_neg (show ¬ (false = true) by decide)] at H; exact H
                            clear H
                            have H := H1
                            clear H1
                            exact absurd H (by simp)
                        · rw [if_neg c28] at H
                          exact absurd H (by simp)
                      · rw [if_neg c27] at H
                        exact absurd H (by simp)
                    · rw [if_neg c26] at H
                      exact absurd H (by simp)
                  · rw [if_neg c24] at H
                    exact absurd H (by simp)
                · rw [if_neg c23] at H
                  exact absurd H (by simp)
              · rw [if_neg c22] at H
                exact absurd H (by simp)
            · rw [if_neg c21] at H
              exact absurd H (by simp)
          · replace c20 := Bool.eq_false_iff.mpr c20
            subst c20
            have H1 : (none) = some r := by rw [if_neg (show ¬ (false = true) by decide)] at H; exact H
            clear H
            have H := H1
            clear H1
            exact absurd H (by simp)
        · rw [if_neg c15] at H
          exact absurd H (by simp)

/-- THE ONE PURE STATEMENT of barrowlaw03_PackBack: yours. -/
def barrowlaw03_PackBack.Pure : Prop := ∀ (l0 : List Int) (a1 : Int) (a2 : ByteArray) (l3 : List Int) (l4 : List Int), l0.length ≤ maxLen → l0.length * 1 ≤ 140737488351232 → (∀ x ∈ l0, (Lit.int .u8 x).wf = true) → (Lit.int .i64 a1).wf = true → a2.size ≤ 140737488351232 → l3.length ≤ maxLen → l3.length * 8 ≤ 140737488351232 → (∀ x ∈ l3, (Lit.int .i64 x).wf = true) → l4.length ≤ maxLen → l4.length * 1 ≤ 140737488351232 → (∀ x ∈ l4, (Lit.int .u8 x).wf = true) → ∃ k, barrowlaw03_PackBack.f k l0 a1 a2 l3 l4 = some true
theorem barrowlaw03_PackBack.walk (P : barrowlaw03_PackBack.Pure) (a0 : Option Addr) (len0 cap0 : Nat) (z0 : List Int) (a1 : Int) (a2 : ByteArray) (a3 : Option Addr) (len3 cap3 : Nat) (z3 : List Int) (a4 : Option Addr) (len4 cap4 : Nat) (z4 : List Int) (w : World) (w0 : (a0 = none ∧ len0 = 0 ∧ cap0 = 0 ∧ z0 = []) ∨ ∃ x, a0 = some x ∧ len0 ≤ cap0 ∧ cap0 ≤ maxLen ∧ z0.length = cap0 ∧ (∀ i, i < z0.length → w.cell? (x.add i) = some (.int .u8 (z0.getD i 0))) ∧ ∀ n ∈ z0, (Lit.int .u8 n).wf = true) (y0 : len0 * 1 ≤ 140737488351232) (w1 : (Lit.int .i64 a1).wf = true) (w2 : a2.size ≤ 140737488351232) (w3 : (a3 = none ∧ len3 = 0 ∧ cap3 = 0 ∧ z3 = []) ∨ ∃ x, a3 = some x ∧ len3 ≤ cap3 ∧ cap3 ≤ maxLen ∧ z3.length = cap3 ∧ (∀ i, i < z3.length → w.cell? (x.add i) = some (.int .i64 (z3.getD i 0))) ∧ ∀ n ∈ z3, (Lit.int .i64 n).wf = true) (y3 : len3 * 8 ≤ 140737488351232) (w4 : (a4 = none ∧ len4 = 0 ∧ cap4 = 0 ∧ z4 = []) ∨ ∃ x, a4 = some x ∧ len4 ≤ cap4 ∧ cap4 ≤ maxLen ∧ z4.length = cap4 ∧ (∀ i, i < z4.length → w.cell? (x.add i) = some (.int .u8 (z4.getD i 0))) ∧ ∀ n ∈ z4, (Lit.int .u8 n).wf = true) (y4 : len4 * 1 ≤ 140737488351232) :
    Calls Try.prog 6 #[.slice a0 len0 cap0, .int .i64 a1, .string a2, .slice a3 len3 cap3, .slice a4 len4 cap4] w fun e w' => e = .returned (.bool true) ∧ Below w.heap.size w w' := by
  obtain ⟨l0, rfl, hr0, hm0, hw0, hc0⟩ := ReadsInt.ofRowC w0
  obtain ⟨l3, rfl, hr3, hm3, hw3, hc3⟩ := ReadsInt.ofRowC w3
  obtain ⟨l4, rfl, hr4, hm4, hw4, hc4⟩ := ReadsInt.ofRowC w4
  obtain ⟨k, h⟩ := P l0 a1 a2 l3 l4 hm0 y0 hw0 w1 w2 hm3 y3 hw3 hm4 y4 hw4
  refine (barrowlaw03_PackBack.calls k _ _ l0 a1 a2 _ _ l3 _ _ l4 true w (Kd.C_of_reads (d := (0 : Int)) (h1 := fun _ => rfl) hr0) hc0 (Kd.C_of_reads (d := (0 : Int)) (h1 := fun _ => rfl) hr3) hc3 (Kd.C_of_reads (d := (0 : Int)) (h1 := fun _ => rfl) hr4) hc4 h).mono ?_
  rintro e w' ⟨rfl, hd⟩
  exact ⟨rfl, hd⟩

end Go.Proofs.Ytkidppjaclgkkaa.XPack
