-- Written by xprint.py (a program of this session) for this claim
import Derived.Test.YtiadhonhjnbliaaSq
import Derived.Test.YtiadhonhjnbliaaXZTx0
import Derived.Test.YtiadhonhjnbliaaXZTx1
import Derived.Test.YtiadhonhjnbliaaXZTx16
namespace Go.Proofs.Ytiadhonhjnbliaa.XZT
open Go.Proofs.YtiadhonhjnbliaaV Go.Proofs.YtiadhonhjnbliaaS
open Go.RowKit Go.Proofs.YtiadhonhjnbliaaW.PrintWords Go.Proofs.YtiadhonhjnbliaaW.PrintLast Go.Proofs.YtiadhonhjnbliaaW.PrintMore
attribute [local go_sem] max2_int min2_int max_two min_two max_three min_three max_four min_four   -- for this text's walks alone
set_option linter.unusedVariables false
set_option linter.unusedSimpArgs false

attribute [local go_sem high] eqA37
/-! ### barrowref33_Same: function 10 -/
def barrowref33_Same.l0 : Nat → List (S37) → List (S37) → Int → Option (Bool)
 | 0, _, _, _ => none
 | k + 1, x0, x1, x5 => if x5 < (x0.length : Int) then (if 0 ≤ x5 then (if x5 < (x1.length : Int) then (if (!(((rd_T37 x0 x5).f0) == ((rd_T37 x1 x5).f0)) || ((!(((rd_T37 x0 x5).f1.f0) == ((rd_T37 x1 x5).f1.f0)) || ((!(((rd_T37 x0 x5).f1.f1.f0) == ((rd_T37 x1 x5).f1.f1.f0)) || (!(((rd_T37 x0 x5).f1.f1.f1) == ((rd_T37 x1 x5).f1.f1.f1)))) || ((!(((rd_T37 x0 x5).f1.f2.f0) == ((rd_T37 x1 x5).f1.f2.f0)) || (!(((rd_T37 x0 x5).f1.f2.f1) == ((rd_T37 x1 x5).f1.f2.f1)))) || (!(((rd_T37 x0 x5).f1.f3) == ((rd_T37 x1 x5).f1.f3)) || (!(((rd_T37 x0 x5).f1.f4) == ((rd_T37 x1 x5).f1.f4))))))) || (!(((rd_T37 x0 x5).f2) == ((rd_T37 x1 x5).f2)) || (!(((rd_T37 x0 x5).f3) == ((rd_T37 x1 x5).f3)) || (!(((rd_T37 x0 x5).f4) == ((rd_T37 x1 x5).f4)) || ((!(((rd_T37 x0 x5).f5.f0) == ((rd_T37 x1 x5).f5.f0)) || (!(((rd_T37 x0 x5).f5.f1) == ((rd_T37 x1 x5).f5.f1)) || (!(((rd_T37 x0 x5).f5.f2) == ((rd_T37 x1 x5).f5.f2))))) || (!(((rd_T37 x0 x5).f6) == ((rd_T37 x1 x5).f6)) || (!(((rd_T37 x0 x5).f7) == ((rd_T37 x1 x5).f7)))))))))) = true then (some false) else (barrowref33_Same.l0 k x0 x1 (wrap64 (x5 + 1)))) else (none)) else (none)) else (some true)
def barrowref33_Same.f (k : Nat) (l0 : List (S37)) (l1 : List (S37)) : Option (Bool) := if (l0.length : Int) = (l1.length : Int) then (barrowref33_Same.l0 k l0 l1 0) else (some false)
theorem barrowref33_Same.mono_l : ∀ k, (∀ y0 y1 y2, LeO (barrowref33_Same.l0 k y0 y1 y2) (barrowref33_Same.l0 (k + 1) y0 y1 y2))
 | 0 => fun _ _ _ r h => by simp [barrowref33_Same.l0] at h
 | k + 1 => by
  have ih0 := barrowref33_Same.mono_l k
  ·intro y0 y1 y2
   unfold barrowref33_Same.l0
   repeat' first
   | (with_reducible exact ih0 _ _ _)
   | (with_reducible exact LeO.refl _)
   | (with_reducible exact LeO.none _)
   | (with_reducible refine LeO.ite ?_ ?_)
   | (with_reducible refine LeO.bind ?_ (fun _ => ?_))
   | exact ih0 _ _ _
   | exact LeO.none _
   | refine LeO.ite ?_ ?_
   | refine LeO.bind ?_ (fun _ => ?_)
theorem barrowref33_Same.mono : ∀ a0 a1 k, LeO (barrowref33_Same.f k a0 a1) (barrowref33_Same.f (k + 1) a0 a1) := by
 intro a0 a1 k
 have ih0 := barrowref33_Same.mono_l k
 unfold barrowref33_Same.f
 repeat' first
   | (with_reducible exact ih0 _ _ _)
   | (with_reducible exact LeO.refl _)
   | (with_reducible exact LeO.none _)
   | (with_reducible refine LeO.ite ?_ ?_)
   | (with_reducible refine LeO.bind ?_ (fun _ => ?_))
   | exact ih0 _ _ _
   | exact LeO.none _
   | refine LeO.ite ?_ ?_
   | refine LeO.bind ?_ (fun _ => ?_)
set_option maxHeartbeats 8000000 in
set_option maxRecDepth 100000 in
theorem barrowref33_Same.calls (k : Nat) (A0 : Option Addr) (c0 : Nat) (l0 : List (S37)) (A1 : Option Addr) (c1 : Nat) (l1 : List (S37)) (r : Bool) (w : World) (hr0 : Kd.C k37 w A0 l0.length l0) (hc0 : l0.length ≤ c0) (hr1 : Kd.C k37 w A1 l1.length l1) (hc1 : l1.length ≤ c1) (h : barrowref33_Same.f k l0 l1 = some r) :
  Calls Try.prog 10 #[.slice A0 l0.length c0, .slice A1 l1.length c1] w fun e w' => e = .returned (.bool r) ∧ Drawn0 w w' := by
 have hu37 := Try.underlying37
 have HR0 := Aside0.mk hr0
 have HC0 := Aside0.mk hc0
 clear hr0 hc0
 have HR1 := Aside0.mk hr1
 have HC1 := Aside0.mk hc1
 clear hr1 hc1
 have H : (if (l0.length : Int) = (l1.length : Int) then (barrowref33_Same.l0 k l0 l1 0) else (some false)) = some r := h
 clear h
 by_cases c3 : (l0.length : Int) = (l1.length : Int)
 ·rw [if_pos c3] at H
  have c3b0 : ((l0.length : Int) == (l1.length : Int)) = true := beq_iff_eq.mpr c3
  have c3b1 : ((l0.length : Int) != (l1.length : Int)) = false := bne_eq_false_iff_eq.mpr c3
  have c3b2 : (l0.length == l1.length) = true := by first | simpa using c3 | (simp at c3 ⊢; omega)
  clear c3
  have H' := Aside0.mk H
  clear H
  go_enter Try.func10, Try.ntmps10
  go_wp2
  repeat (go_quiet (fail); try go_wp2)
  go_loopg [5] k (fun kq v5 w' => ∃ (x5_1 : Int), v5 = .int .i64 x5_1 ∧ Aside0 (barrowref33_Same.l0 kq l0 l1 x5_1 = some r) ∧ Aside0 (kq ≤ k) ∧ Drawn0 w w')
  case atStart => exact ⟨(0), (by first | rfl | (simp; done) | (simp [*]; done)), H', ⟨Nat.le_refl _⟩, by repeat (first | exact Drawn0.refl _ | apply Drawn0.step)⟩
  case round =>
   clear H'
   try clear c1
   try clear p2
   try clear c3
   try clear c3b0
   try clear c3b1
   try clear c3b2
   obtain ⟨x5_1, rfl, HA, HK1, ⟨m1, rfl⟩⟩ := hrel
   cases gk with
   | zero => exact absurd HA.out (by simp [barrowref33_Same.l0])
   | succ k1 =>
    have H := HA.out
    clear HA
    simp only [barrowref33_Same.l0] at H
    by_cases c4 : x5_1 < (l0.length : Int)
    ·rw [if_pos c4] at H
     have c4b0 : decide (x5_1 < (l0.length : Int)) = true := decide_eq_true c4
     clear c4
     by_cases c5 : 0 ≤ x5_1
     ·rw [if_pos c5] at H
      have c5b0 : decide (0 ≤ x5_1) = true := decide_eq_true c5
      clear c5
      by_cases c6 : x5_1 < (l1.length : Int)
      ·rw [if_pos c6] at H
       have c6b0 : decide (x5_1 < (l1.length : Int)) = true := decide_eq_true c6
       clear c6
       by_cases c7 : (!(((rd_T37 l0 x5_1).f0) == ((rd_T37 l1 x5_1).f0)) || ((!(((rd_T37 l0 x5_1).f1.f0) == ((rd_T37 l1 x5_1).f1.f0)) || ((!(((rd_T37 l0 x5_1).f1.f1.f0) == ((rd_T37 l1 x5_1).f1.f1.f0)) || (!(((rd_T37 l0 x5_1).f1.f1.f1) == ((rd_T37 l1 x5_1).f1.f1.f1)))) || ((!(((rd_T37 l0 x5_1).f1.f2.f0) == ((rd_T37 l1 x5_1).f1.f2.f0)) || (!(((rd_T37 l0 x5_1).f1.f2.f1) == ((rd_T37 l1 x5_1).f1.f2.f1)))) || (!(((rd_T37 l0 x5_1).f1.f3) == ((rd_T37 l1 x5_1).f1.f3)) || (!(((rd_T37 l0 x5_1).f1.f4) == ((rd_T37 l1 x5_1).f1.f4))))))) || (!(((rd_T37 l0 x5_1).f2) == ((rd_T37 l1 x5_1).f2)) || (!(((rd_T37 l0 x5_1).f3) == ((rd_T37 l1 x5_1).f3)) || (!(((rd_T37 l0 x5_1).f4) == ((rd_T37 l1 x5_1).f4)) || ((!(((rd_T37 l0 x5_1).f5.f0) == ((rd_T37 l1 x5_1).f5.f0)) || (!(((rd_T37 l0 x5_1).f5.f1) == ((rd_T37 l1 x5_1).f5.f1)) || (!(((rd_T37 l0 x5_1).f5.f2) == ((rd_T37 l1 x5_1).f5.f2))))) || (!(((rd_T37 l0 x5_1).f6) == ((rd_T37 l1 x5_1).f6)) || (!(((rd_T37 l0 x5_1).f7) == ((rd_T37 l1 x5_1).f7)))))))))) = true
       ·rw [if_pos c7] at H
        have c7b0 : (!(((rd_T37 l0 x5_1).f0) == ((rd_T37 l1 x5_1).f0)) || ((!(((rd_T37 l0 x5_1).f1.f0) == ((rd_T37 l1 x5_1).f1.f0)) || ((!(((rd_T37 l0 x5_1).f1.f1.f0) == ((rd_T37 l1 x5_1).f1.f1.f0)) || (!(((rd_T37 l0 x5_1).f1.f1.f1) == ((rd_T37 l1 x5_1).f1.f1.f1)))) || ((!(((rd_T37 l0 x5_1).f1.f2.f0) == ((rd_T37 l1 x5_1).f1.f2.f0)) || (!(((rd_T37 l0 x5_1).f1.f2.f1) == ((rd_T37 l1 x5_1).f1.f2.f1)))) || (!(((rd_T37 l0 x5_1).f1.f3) == ((rd_T37 l1 x5_1).f1.f3)) || (!(((rd_T37 l0 x5_1).f1.f4) == ((rd_T37 l1 x5_1).f1.f4))))))) || (!(((rd_T37 l0 x5_1).f2) == ((rd_T37 l1 x5_1).f2)) || (!(((rd_T37 l0 x5_1).f3) == ((rd_T37 l1 x5_1).f3)) || (!(((rd_T37 l0 x5_1).f4) == ((rd_T37 l1 x5_1).f4)) || ((!(((rd_T37 l0 x5_1).f5.f0) == ((rd_T37 l1 x5_1).f5.f0)) || (!(((rd_T37 l0 x5_1).f5.f1) == ((rd_T37 l1 x5_1).f5.f1)) || (!(((rd_T37 l0 x5_1).f5.f2) == ((rd_T37 l1 x5_1).f5.f2))))) || (!(((rd_T37 l0 x5_1).f6) == ((rd_T37 l1 x5_1).f6)) || (!(((rd_T37 l0 x5_1).f7) == ((rd_T37 l1 x5_1).f7)))))))))) = true := c7
        clear c7
        obtain rfl := Option.some.inj H
        have p444 : 0 ≤ (x5_1 : Int) := of_decide_eq_true (by first | (with_reducible assumption) | assumption)
        have q444 : x5_1 < (l0.length : Int) := of_decide_eq_true (by first | (with_reducible assumption) | assumption)
        obtain ⟨ad444, e444, hx444_0, hx444_1, hx444_2, hx444_3, hx444_4, hx444_5, hx444_6, hx444_7, hx444_8, hx444_9, hx444_10, hx444_11, hx444_12, hx444_13, hx444_14, hx444_15⟩ := at_T37 HR0.out x5_1 p444 q444
        cases e444
        replace p444 := eq_true p444
        replace q444 := eq_true q444
        have p445 : 0 ≤ (x5_1 : Int) := of_decide_eq_true (by first | (with_reducible assumption) | assumption)
        have q445 : x5_1 < (l1.length : Int) := of_decide_eq_true (by first | (with_reducible assumption) | assumption)
        obtain ⟨ad445, e445, hx445_0, hx445_1, hx445_2, hx445_3, hx445_4, hx445_5, hx445_6, hx445_7, hx445_8, hx445_9, hx445_10, hx445_11, hx445_12, hx445_13, hx445_14, hx445_15⟩ := at_T37 HR1.out x5_1 p445 q445
        cases e445
        replace p445 := eq_true p445
        replace q445 := eq_true q445
        go_wp2
        repeat (go_quiet (fail); try go_wp2)
        go_ret
        exact ⟨by first | rfl | (simp; done) | (simp [*]; done), by repeat (first | exact Drawn0.refl _ | apply Drawn0.step)⟩
       ·rw [if_neg c7] at H
        have c7b0 : (!(((rd_T37 l0 x5_1).f0) == ((rd_T37 l1 x5_1).f0)) || ((!(((rd_T37 l0 x5_1).f1.f0) == ((rd_T37 l1 x5_1).f1.f0)) || ((!(((rd_T37 l0 x5_1).f1.f1.f0) == ((rd_T37 l1 x5_1).f1.f1.f0)) || (!(((rd_T37 l0 x5_1).f1.f1.f1) == ((rd_T37 l1 x5_1).f1.f1.f1)))) || ((!(((rd_T37 l0 x5_1).f1.f2.f0) == ((rd_T37 l1 x5_1).f1.f2.f0)) || (!(((rd_T37 l0 x5_1).f1.f2.f1) == ((rd_T37 l1 x5_1).f1.f2.f1)))) || (!(((rd_T37 l0 x5_1).f1.f3) == ((rd_T37 l1 x5_1).f1.f3)) || (!(((rd_T37 l0 x5_1).f1.f4) == ((rd_T37 l1 x5_1).f1.f4))))))) || (!(((rd_T37 l0 x5_1).f2) == ((rd_T37 l1 x5_1).f2)) || (!(((rd_T37 l0 x5_1).f3) == ((rd_T37 l1 x5_1).f3)) || (!(((rd_T37 l0 x5_1).f4) == ((rd_T37 l1 x5_1).f4)) || ((!(((rd_T37 l0 x5_1).f5.f0) == ((rd_T37 l1 x5_1).f5.f0)) || (!(((rd_T37 l0 x5_1).f5.f1) == ((rd_T37 l1 x5_1).f5.f1)) || (!(((rd_T37 l0 x5_1).f5.f2) == ((rd_T37 l1 x5_1).f5.f2))))) || (!(((rd_T37 l0 x5_1).f6) == ((rd_T37 l1 x5_1).f6)) || (!(((rd_T37 l0 x5_1).f7) == ((rd_T37 l1 x5_1).f7)))))))))) = false := by simpa using c7
        clear c7
        have H' := Aside0.mk H
        clear H
        have p444 : 0 ≤ (x5_1 : Int) := of_decide_eq_true (by first | (with_reducible assumption) | assumption)
        have q444 : x5_1 < (l0.length : Int) := of_decide_eq_true (by first | (with_reducible assumption) | assumption)
        obtain ⟨ad444, e444, hx444_0, hx444_1, hx444_2, hx444_3, hx444_4, hx444_5, hx444_6, hx444_7, hx444_8, hx444_9, hx444_10, hx444_11, hx444_12, hx444_13, hx444_14, hx444_15⟩ := at_T37 HR0.out x5_1 p444 q444
        cases e444
        replace p444 := eq_true p444
        replace q444 := eq_true q444
        have p445 : 0 ≤ (x5_1 : Int) := of_decide_eq_true (by first | (with_reducible assumption) | assumption)
        have q445 : x5_1 < (l1.length : Int) := of_decide_eq_true (by first | (with_reducible assumption) | assumption)
        obtain ⟨ad445, e445, hx445_0, hx445_1, hx445_2, hx445_3, hx445_4, hx445_5, hx445_6, hx445_7, hx445_8, hx445_9, hx445_10, hx445_11, hx445_12, hx445_13, hx445_14, hx445_15⟩ := at_T37 HR1.out x5_1 p445 q445
        cases e445
        replace p445 := eq_true p445
        replace q445 := eq_true q445
        go_wp2
        repeat (go_quiet (fail); try go_wp2)
        go_roundg k1
        case measure => have := HK1.out; omega
        case rel => exact ⟨(wrap64 (x5_1 + 1)), (by first | rfl | (simp; done) | (simp [*]; done)), H', ⟨by have := HK1.out; omega⟩, by repeat (first | exact Drawn0.refl _ | apply Drawn0.step)⟩
      ·rw [if_neg c6] at H
       exact absurd H (by simp)
     ·rw [if_neg c5] at H
      exact absurd H (by simp)
    ·rw [if_neg c4] at H
     have c4b0 : decide (x5_1 < (l0.length : Int)) = false := decide_eq_false c4
     clear c4
     obtain rfl := Option.some.inj H
     go_wp2
     repeat (go_quiet (fail); try go_wp2)
     go_ret
     exact ⟨by first | rfl | (simp; done) | (simp [*]; done), by repeat (first | exact Drawn0.refl _ | apply Drawn0.step)⟩
 ·rw [if_neg c3] at H
  have c3b0 : ((l0.length : Int) == (l1.length : Int)) = false := beq_eq_false_iff_ne.mpr c3
  have c3b1 : ((l0.length : Int) != (l1.length : Int)) = true := bne_iff_ne.mpr c3
  have c3b2 : (l0.length == l1.length) = false := by first | simpa using c3 | (simp at c3 ⊢; omega)
  obtain rfl := Option.some.inj H
  go_enter Try.func10, Try.ntmps10
  go_wp2
  repeat (go_quiet (fail); try go_wp2)
  go_ret
  exact ⟨by first | rfl | (simp; done) | (simp [*]; done), by repeat (first | exact Drawn0.refl _ | apply Drawn0.step)⟩

/-! ### barrowref33_one: function 31 -/
def barrowref33_one.f (a0_0 : Int) (a0_1 : Int) (a0_2 : Int) (a0_3 : Int) (a0_4 : Int) (a0_5 : Int) (a0_6 : Int) (a0_7 : Int) (a0_8 : Int) (a0_9 : Int) (a0_10 : Int) (a0_11 : Int) (a0_12 : Int) (a0_13 : Int) (a0_14 : Int) (a0_15 : Int) : Option (Bool) := (barrowref32_Right.f a0_1 a0_2 a0_3 a0_4 a0_5 a0_6 a0_7).bind fun t518 => (if t518 = true then (if a0_9 ≥ 1 then (if a0_9 ≤ 1000000 then (if a0_15 ≥ 0 then (if a0_15 ≤ 2 then (some true) else (some false)) else (some false)) else (some false)) else (some false)) else (some false))
def barrowref33_one.Post (r : Bool) (S : Nat → Prop) (L : List Asr) (w : World) (e : Ending) (w' : World) : Prop := e = .returned (.bool r) ∧ SL (L) w' S ∧ Keep S w w'
set_option maxHeartbeats 8000000 in
set_option maxRecDepth 100000 in
theorem barrowref33_one.slcalls (a0_0 : Int) (a0_1 : Int) (a0_2 : Int) (a0_3 : Int) (a0_4 : Int) (a0_5 : Int) (a0_6 : Int) (a0_7 : Int) (a0_8 : Int) (a0_9 : Int) (a0_10 : Int) (a0_11 : Int) (a0_12 : Int) (a0_13 : Int) (a0_14 : Int) (a0_15 : Int) (r : Bool) (S : Nat → Prop) (L : List Asr) (w : World) (hf : Fresh S w) (hs : SL (L) w S) (h : barrowref33_one.f a0_0 a0_1 a0_2 a0_3 a0_4 a0_5 a0_6 a0_7 a0_8 a0_9 a0_10 a0_11 a0_12 a0_13 a0_14 a0_15 = some r) :
  Calls Try.prog 31 #[.agg #[.int .i64 a0_0, .int .i64 a0_1, .int .i64 a0_2, .int .i64 a0_3, .int .i64 a0_4, .int .i64 a0_5, .int .i64 a0_6, .int .i64 a0_7, .int .i64 a0_8, .int .i64 a0_9, .int .i64 a0_10, .int .i64 a0_11, .int .i64 a0_12, .int .i64 a0_13, .int .i64 a0_14, .int .i64 a0_15]] w (barrowref33_one.Post r S L w) := by
 have HF := Aside0.mk hf
 have HS := Aside0.mk hs
 have HK := Aside0.mk (Keep.refl S w)
 clear hf hs
 have hu33 := Try.underlying33
 have hu37 := Try.underlying37
 have H : ((barrowref32_Right.f a0_1 a0_2 a0_3 a0_4 a0_5 a0_6 a0_7).bind fun t518 => (if t518 = true then (if a0_9 ≥ 1 then (if a0_9 ≤ 1000000 then (if a0_15 ≥ 0 then (if a0_15 ≤ 2 then (some true) else (some false)) else (some false)) else (some false)) else (some false)) else (some false))) = some r := h
 clear h
 replace H := Option.bind_eq_some_iff.1 H
 obtain ⟨t518, Hc10, H⟩ := H
 try dsimp only at H
 have Hc1 := Aside0.mk Hc10
 clear Hc10
 by_cases c2 : t518 = true
 ·subst c2
  rw [if_pos rfl] at H
  by_cases c3 : a0_9 ≥ 1
  ·rw [if_pos c3] at H
   have c3b0 : decide (1 ≤ a0_9) = true := decide_eq_true c3
   clear c3
   by_cases c4 : a0_9 ≤ 1000000
   ·rw [if_pos c4] at H
    have c4b0 : decide (a0_9 ≤ 1000000) = true := decide_eq_true c4
    clear c4
    by_cases c5 : a0_15 ≥ 0
    ·rw [if_pos c5] at H
     have c5b0 : decide (0 ≤ a0_15) = true := decide_eq_true c5
     clear c5
     by_cases c6 : a0_15 ≤ 2
     ·rw [if_pos c6] at H
      have c6b0 : decide (a0_15 ≤ 2) = true := decide_eq_true c6
      clear c6
      obtain rfl := Option.some.inj H
      go_enter Try.func31, Try.ntmps31
      go_wp2_with (first | ((with_reducible refine gate_dst (N := 1) rfl ?_); refine wpList_plain rfl (fun K_ hK_ => ?_); refine op_box (S := S) (cs := #[.int .i64 a0_0, .int .i64 a0_1, .int .i64 a0_2, .int .i64 a0_3, .int .i64 a0_4, .int .i64 a0_5, .int .i64 a0_6, .int .i64 a0_7, .int .i64 a0_8, .int .i64 a0_9, .int .i64 a0_10, .int .i64 a0_11, .int .i64 a0_12, .int .i64 a0_13, .int .i64 a0_14, .int .i64 a0_15]) (t := 37) (HF.out.keep HK.out) HS.out (by first | (go_simp; done) | (go_simp; rfl)) ?_; intro g3000064 w7 hs_ hk_; refine hK_ _ _ ?_; clear hK_ K_; replace HS := Aside0.mk (hs_); replace HK := Aside0.mk (HK.out.trans hk_); have hb_ := SL.at_ HS.out; have hz3000064_0_1 := ((blk_cell hb_ 0).trans rfl : _ = some (.int .i64 a0_0)); have hz3000064_1_1 := ((blk_cell hb_ 1).trans rfl : _ = some (.int .i64 a0_1)); have hz3000064_2_1 := ((blk_cell hb_ 2).trans rfl : _ = some (.int .i64 a0_2)); have hz3000064_3_1 := ((blk_cell hb_ 3).trans rfl : _ = some (.int .i64 a0_3)); have hz3000064_4_1 := ((blk_cell hb_ 4).trans rfl : _ = some (.int .i64 a0_4)); have hz3000064_5_1 := ((blk_cell hb_ 5).trans rfl : _ = some (.int .i64 a0_5)); have hz3000064_6_1 := ((blk_cell hb_ 6).trans rfl : _ = some (.int .i64 a0_6)); have hz3000064_7_1 := ((blk_cell hb_ 7).trans rfl : _ = some (.int .i64 a0_7)); have hz3000064_8_1 := ((blk_cell hb_ 8).trans rfl : _ = some (.int .i64 a0_8)); have hz3000064_9_1 := ((blk_cell hb_ 9).trans rfl : _ = some (.int .i64 a0_9)); have hz3000064_10_1 := ((blk_cell hb_ 10).trans rfl : _ = some (.int .i64 a0_10)); have hz3000064_11_1 := ((blk_cell hb_ 11).trans rfl : _ = some (.int .i64 a0_11)); have hz3000064_12_1 := ((blk_cell hb_ 12).trans rfl : _ = some (.int .i64 a0_12)); have hz3000064_13_1 := ((blk_cell hb_ 13).trans rfl : _ = some (.int .i64 a0_13)); have hz3000064_14_1 := ((blk_cell hb_ 14).trans rfl : _ = some (.int .i64 a0_14)); have hz3000064_15_1 := ((blk_cell hb_ 15).trans rfl : _ = some (.int .i64 a0_15)); clear hb_) | ((with_reducible refine gate_dst (N := 6) rfl ?_); refine goesL_ (some 6) rfl rfl Try.func39 (by kernel_rfl) rfl #[.agg #[.int .i64 a0_1, .int .i64 a0_2, .int .i64 a0_3, .int .i64 a0_4, .int .i64 a0_5, .int .i64 a0_6, .int .i64 a0_7]] rfl (by (try simp only [List.map_toArray, List.map_cons, List.map_nil]); first | done | rfl | (simp; done)) ?_; (with_reducible refine (barrowref32_Right.calls _ _ _ _ _ _ _ _ _  Hc1.out).mono ?_); rintro e_ w8 ⟨rfl, hb_⟩; refine ⟨_, rfl, ?_⟩; replace HS := Aside0.mk (HS.out.below hb_); replace HK := Aside0.mk (HK.out.trans (Keep.below hb_)); (try clear hz3000064_0_1 hz3000064_1_1 hz3000064_2_1 hz3000064_3_1 hz3000064_4_1 hz3000064_5_1 hz3000064_6_1 hz3000064_7_1 hz3000064_8_1 hz3000064_9_1 hz3000064_10_1 hz3000064_11_1 hz3000064_12_1 hz3000064_13_1 hz3000064_14_1 hz3000064_15_1); have hb_ := SL.at_ HS.out; have hz3000064_0_2 := ((blk_cell hb_ 0).trans rfl : _ = some (.int .i64 a0_0)); have hz3000064_1_2 := ((blk_cell hb_ 1).trans rfl : _ = some (.int .i64 a0_1)); have hz3000064_2_2 := ((blk_cell hb_ 2).trans rfl : _ = some (.int .i64 a0_2)); have hz3000064_3_2 := ((blk_cell hb_ 3).trans rfl : _ = some (.int .i64 a0_3)); have hz3000064_4_2 := ((blk_cell hb_ 4).trans rfl : _ = some (.int .i64 a0_4)); have hz3000064_5_2 := ((blk_cell hb_ 5).trans rfl : _ = some (.int .i64 a0_5)); have hz3000064_6_2 := ((blk_cell hb_ 6).trans rfl : _ = some (.int .i64 a0_6)); have hz3000064_7_2 := ((blk_cell hb_ 7).trans rfl : _ = some (.int .i64 a0_7)); have hz3000064_8_2 := ((blk_cell hb_ 8).trans rfl : _ = some (.int .i64 a0_8)); have hz3000064_9_2 := ((blk_cell hb_ 9).trans rfl : _ = some (.int .i64 a0_9)); have hz3000064_10_2 := ((blk_cell hb_ 10).trans rfl : _ = some (.int .i64 a0_10)); have hz3000064_11_2 := ((blk_cell hb_ 11).trans rfl : _ = some (.int .i64 a0_11)); have hz3000064_12_2 := ((blk_cell hb_ 12).trans rfl : _ = some (.int .i64 a0_12)); have hz3000064_13_2 := ((blk_cell hb_ 13).trans rfl : _ = some (.int .i64 a0_13)); have hz3000064_14_2 := ((blk_cell hb_ 14).trans rfl : _ = some (.int .i64 a0_14)); have hz3000064_15_2 := ((blk_cell hb_ 15).trans rfl : _ = some (.int .i64 a0_15)); clear hb_))
      go_ret
      replace HS := Aside0.mk (SL.tail HS.out)
      unfold barrowref33_one.Post
      exact ⟨by first | rfl | (simp; done) | (simp [*]; done) | (simp at c6b0 ⊢; first | exact c6b0 | (simp [c6b0]; done)), HS.out, HK.out⟩
     ·rw [if_neg c6] at H
      have c6b0 : decide (a0_15 ≤ 2) = false := decide_eq_false c6
      clear c6
      obtain rfl := Option.some.inj H
      go_enter Try.func31, Try.ntmps31
      go_wp2_with (first | ((with_reducible refine gate_dst (N := 1) rfl ?_); refine wpList_plain rfl (fun K_ hK_ => ?_); refine op_box (S := S) (cs := #[.int .i64 a0_0, .int .i64 a0_1, .int .i64 a0_2, .int .i64 a0_3, .int .i64 a0_4, .int .i64 a0_5, .int .i64 a0_6, .int .i64 a0_7, .int .i64 a0_8, .int .i64 a0_9, .int .i64 a0_10, .int .i64 a0_11, .int .i64 a0_12, .int .i64 a0_13, .int .i64 a0_14, .int .i64 a0_15]) (t := 37) (HF.out.keep HK.out) HS.out (by first | (go_simp; done) | (go_simp; rfl)) ?_; intro g3000064 w9 hs_ hk_; refine hK_ _ _ ?_; clear hK_ K_; replace HS := Aside0.mk (hs_); replace HK := Aside0.mk (HK.out.trans hk_); have hb_ := SL.at_ HS.out; have hz3000064_0_1 := ((blk_cell hb_ 0).trans rfl : _ = some (.int .i64 a0_0)); have hz3000064_1_1 := ((blk_cell hb_ 1).trans rfl : _ = some (.int .i64 a0_1)); have hz3000064_2_1 := ((blk_cell hb_ 2).trans rfl : _ = some (.int .i64 a0_2)); have hz3000064_3_1 := ((blk_cell hb_ 3).trans rfl : _ = some (.int .i64 a0_3)); have hz3000064_4_1 := ((blk_cell hb_ 4).trans rfl : _ = some (.int .i64 a0_4)); have hz3000064_5_1 := ((blk_cell hb_ 5).trans rfl : _ = some (.int .i64 a0_5)); have hz3000064_6_1 := ((blk_cell hb_ 6).trans rfl : _ = some (.int .i64 a0_6)); have hz3000064_7_1 := ((blk_cell hb_ 7).trans rfl : _ = some (.int .i64 a0_7)); have hz3000064_8_1 := ((blk_cell hb_ 8).trans rfl : _ = some (.int .i64 a0_8)); have hz3000064_9_1 := ((blk_cell hb_ 9).trans rfl : _ = some (.int .i64 a0_9)); have hz3000064_10_1 := ((blk_cell hb_ 10).trans rfl : _ = some (.int .i64 a0_10)); have hz3000064_11_1 := ((blk_cell hb_ 11).trans rfl : _ = some (.int .i64 a0_11)); have hz3000064_12_1 := ((blk_cell hb_ 12).trans rfl : _ = some (.int .i64 a0_12)); have hz3000064_13_1 := ((blk_cell hb_ 13).trans rfl : _ = some (.int .i64 a0_13)); have hz3000064_14_1 := ((blk_cell hb_ 14).trans rfl : _ = some (.int .i64 a0_14)); have hz3000064_15_1 := ((blk_cell hb_ 15).trans rfl : _ = some (.int .i64 a0_15)); clear hb_) | ((with_reducible refine gate_dst (N := 6) rfl ?_); refine goesL_ (some 6) rfl rfl Try.func39 (by kernel_rfl) rfl #[.agg #[.int .i64 a0_1, .int .i64 a0_2, .int .i64 a0_3, .int .i64 a0_4, .int .i64 a0_5, .int .i64 a0_6, .int .i64 a0_7]] rfl (by (try simp only [List.map_toArray, List.map_cons, List.map_nil]); first | done | rfl | (simp; done)) ?_; (with_reducible refine (barrowref32_Right.calls _ _ _ _ _ _ _ _ _  Hc1.out).mono ?_); rintro e_ w10 ⟨rfl, hb_⟩; refine ⟨_, rfl, ?_⟩; replace HS := Aside0.mk (HS.out.below hb_); replace HK := Aside0.mk (HK.out.trans (Keep.below hb_)); (try clear hz3000064_0_1 hz3000064_1_1 hz3000064_2_1 hz3000064_3_1 hz3000064_4_1 hz3000064_5_1 hz3000064_6_1 hz3000064_7_1 hz3000064_8_1 hz3000064_9_1 hz3000064_10_1 hz3000064_11_1 hz3000064_12_1 hz3000064_13_1 hz3000064_14_1 hz3000064_15_1); have hb_ := SL.at_ HS.out; have hz3000064_0_2 := ((blk_cell hb_ 0).trans rfl : _ = some (.int .i64 a0_0)); have hz3000064_1_2 := ((blk_cell hb_ 1).trans rfl : _ = some (.int .i64 a0_1)); have hz3000064_2_2 := ((blk_cell hb_ 2).trans rfl : _ = some (.int .i64 a0_2)); have hz3000064_3_2 := ((blk_cell hb_ 3).trans rfl : _ = some (.int .i64 a0_3)); have hz3000064_4_2 := ((blk_cell hb_ 4).trans rfl : _ = some (.int .i64 a0_4)); have hz3000064_5_2 := ((blk_cell hb_ 5).trans rfl : _ = some (.int .i64 a0_5)); have hz3000064_6_2 := ((blk_cell hb_ 6).trans rfl : _ = some (.int .i64 a0_6)); have hz3000064_7_2 := ((blk_cell hb_ 7).trans rfl : _ = some (.int .i64 a0_7)); have hz3000064_8_2 := ((blk_cell hb_ 8).trans rfl : _ = some (.int .i64 a0_8)); have hz3000064_9_2 := ((blk_cell hb_ 9).trans rfl : _ = some (.int .i64 a0_9)); have hz3000064_10_2 := ((blk_cell hb_ 10).trans rfl : _ = some (.int .i64 a0_10)); have hz3000064_11_2 := ((blk_cell hb_ 11).trans rfl : _ = some (.int .i64 a0_11)); have hz3000064_12_2 := ((blk_cell hb_ 12).trans rfl : _ = some (.int .i64 a0_12)); have hz3000064_13_2 := ((blk_cell hb_ 13).trans rfl : _ = some (.int .i64 a0_13)); have hz3000064_14_2 := ((blk_cell hb_ 14).trans rfl : _ = some (.int .i64 a0_14)); have hz3000064_15_2 := ((blk_cell hb_ 15).trans rfl : _ = some (.int .i64 a0_15)); clear hb_))
      go_ret
      replace HS := Aside0.mk (SL.tail HS.out)
      unfold barrowref33_one.Post
      exact ⟨by first | rfl | (simp; done) | (simp [*]; done) | (simp at c6b0 ⊢; first | exact c6b0 | (simp [c6b0]; done)), HS.out, HK.out⟩
    ·rw [if_neg c5] at H
     have c5b0 : decide (0 ≤ a0_15) = false := decide_eq_false c5
     clear c5
     obtain rfl := Option.some.inj H
     go_enter Try.func31, Try.ntmps31
     go_wp2_with (first | ((with_reducible refine gate_dst (N := 1) rfl ?_); refine wpList_plain rfl (fun K_ hK_ => ?_); refine op_box (S := S) (cs := #[.int .i64 a0_0, .int .i64 a0_1, .int .i64 a0_2, .int .i64 a0_3, .int .i64 a0_4, .int .i64 a0_5, .int .i64 a0_6, .int .i64 a0_7, .int .i64 a0_8, .int .i64 a0_9, .int .i64 a0_10, .int .i64 a0_11, .int .i64 a0_12, .int .i64 a0_13, .int .i64 a0_14, .int .i64 a0_15]) (t := 37) (HF.out.keep HK.out) HS.out (by first | (go_simp; done) | (go_simp; rfl)) ?_; intro g3000064 w11 hs_ hk_; refine hK_ _ _ ?_; clear hK_ K_; replace HS := Aside0.mk (hs_); replace HK := Aside0.mk (HK.out.trans hk_); have hb_ := SL.at_ HS.out; have hz3000064_0_1 := ((blk_cell hb_ 0).trans rfl : _ = some (.int .i64 a0_0)); have hz3000064_1_1 := ((blk_cell hb_ 1).trans rfl : _ = some (.int .i64 a0_1)); have hz3000064_2_1 := ((blk_cell hb_ 2).trans rfl : _ = some (.int .i64 a0_2)); have hz3000064_3_1 := ((blk_cell hb_ 3).trans rfl : _ = some (.int .i64 a0_3)); have hz3000064_4_1 := ((blk_cell hb_ 4).trans rfl : _ = some (.int .i64 a0_4)); have hz3000064_5_1 := ((blk_cell hb_ 5).trans rfl : _ = some (.int .i64 a0_5)); have hz3000064_6_1 := ((blk_cell hb_ 6).trans rfl : _ = some (.int .i64 a0_6)); have hz3000064_7_1 := ((blk_cell hb_ 7).trans rfl : _ = some (.int .i64 a0_7)); have hz3000064_8_1 := ((blk_cell hb_ 8).trans rfl : _ = some (.int .i64 a0_8)); have hz3000064_9_1 := ((blk_cell hb_ 9).trans rfl : _ = some (.int .i64 a0_9)); have hz3000064_10_1 := ((blk_cell hb_ 10).trans rfl : _ = some (.int .i64 a0_10)); have hz3000064_11_1 := ((blk_cell hb_ 11).trans rfl : _ = some (.int .i64 a0_11)); have hz3000064_12_1 := ((blk_cell hb_ 12).trans rfl : _ = some (.int .i64 a0_12)); have hz3000064_13_1 := ((blk_cell hb_ 13).trans rfl : _ = some (.int .i64 a0_13)); have hz3000064_14_1 := ((blk_cell hb_ 14).trans rfl : _ = some (.int .i64 a0_14)); have hz3000064_15_1 := ((blk_cell hb_ 15).trans rfl : _ = some (.int .i64 a0_15)); clear hb_) | ((with_reducible refine gate_dst (N := 6) rfl ?_); refine goesL_ (some 6) rfl rfl Try.func39 (by kernel_rfl) rfl #[.agg #[.int .i64 a0_1, .int .i64 a0_2, .int .i64 a0_3, .int .i64 a0_4, .int .i64 a0_5, .int .i64 a0_6, .int .i64 a0_7]] rfl (by (try simp only [List.map_toArray, List.map_cons, List.map_nil]); first | done | rfl | (simp; done)) ?_; (with_reducible refine (barrowref32_Right.calls _ _ _ _ _ _ _ _ _  Hc1.out).mono ?_); rintro e_ w12 ⟨rfl, hb_⟩; refine ⟨_, rfl, ?_⟩; replace HS := Aside0.mk (HS.out.below hb_); replace HK := Aside0.mk (HK.out.trans (Keep.below hb_)); (try clear hz3000064_0_1 hz3000064_1_1 hz3000064_2_1 hz3000064_3_1 hz3000064_4_1 hz3000064_5_1 hz3000064_6_1 hz3000064_7_1 hz3000064_8_1 hz3000064_9_1 hz3000064_10_1 hz3000064_11_1 hz3000064_12_1 hz3000064_13_1 hz3000064_14_1 hz3000064_15_1); have hb_ := SL.at_ HS.out; have hz3000064_0_2 := ((blk_cell hb_ 0).trans rfl : _ = some (.int .i64 a0_0)); have hz3000064_1_2 := ((blk_cell hb_ 1).trans rfl : _ = some (.int .i64 a0_1)); have hz3000064_2_2 := ((blk_cell hb_ 2).trans rfl : _ = some (.int .i64 a0_2)); have hz3000064_3_2 := ((blk_cell hb_ 3).trans rfl : _ = some (.int .i64 a0_3)); have hz3000064_4_2 := ((blk_cell hb_ 4).trans rfl : _ = some (.int .i64 a0_4)); have hz3000064_5_2 := ((blk_cell hb_ 5).trans rfl : _ = some (.int .i64 a0_5)); have hz3000064_6_2 := ((blk_cell hb_ 6).trans rfl : _ = some (.int .i64 a0_6)); have hz3000064_7_2 := ((blk_cell hb_ 7).trans rfl : _ = some (.int .i64 a0_7)); have hz3000064_8_2 := ((blk_cell hb_ 8).trans rfl : _ = some (.int .i64 a0_8)); have hz3000064_9_2 := ((blk_cell hb_ 9).trans rfl : _ = some (.int .i64 a0_9)); have hz3000064_10_2 := ((blk_cell hb_ 10).trans rfl : _ = some (.int .i64 a0_10)); have hz3000064_11_2 := ((blk_cell hb_ 11).trans rfl : _ = some (.int .i64 a0_11)); have hz3000064_12_2 := ((blk_cell hb_ 12).trans rfl : _ = some (.int .i64 a0_12)); have hz3000064_13_2 := ((blk_cell hb_ 13).trans rfl : _ = some (.int .i64 a0_13)); have hz3000064_14_2 := ((blk_cell hb_ 14).trans rfl : _ = some (.int .i64 a0_14)); have hz3000064_15_2 := ((blk_cell hb_ 15).trans rfl : _ = some (.int .i64 a0_15)); clear hb_))
     go_ret
     replace HS := Aside0.mk (SL.tail HS.out)
     unfold barrowref33_one.Post
     exact ⟨by first | rfl | (simp; done) | (simp [*]; done) | (simp at c5b0 ⊢; first | exact c5b0 | (simp [c5b0]; done)), HS.out, HK.out⟩
   ·rw [if_neg c4] at H
    have c4b0 : decide (a0_9 ≤ 1000000) = false := decide_eq_false c4
    clear c4
    obtain rfl := Option.some.inj H
    go_enter Try.func31, Try.ntmps31
    go_wp2_with (first | ((with_reducible refine gate_dst (N := 1) rfl ?_); refine wpList_plain rfl (fun K_ hK_ => ?_); refine op_box (S := S) (cs := #[.int .i64 a0_0, .int .i64 a0_1, .int .i64 a0_2, .int .i64 a0_3, .int .i64 a0_4, .int .i64 a0_5, .int .i64 a0_6, .int .i64 a0_7, .int .i64 a0_8, .int .i64 a0_9, .int .i64 a0_10, .int .i64 a0_11, .int .i64 a0_12, .int .i64 a0_13, .int .i64 a0_14, .int .i64 a0_15]) (t := 37) (HF.out.keep HK.out) HS.out (by first | (go_simp; done) | (go_simp; rfl)) ?_; intro g3000064 w13 hs_ hk_; refine hK_ _ _ ?_; clear hK_ K_; replace HS := Aside0.mk (hs_); replace HK := Aside0.mk (HK.out.trans hk_); have hb_ := SL.at_ HS.out; have hz3000064_0_1 := ((blk_cell hb_ 0).trans rfl : _ = some (.int .i64 a0_0)); have hz3000064_1_1 := ((blk_cell hb_ 1).trans rfl : _ = some (.int .i64 a0_1)); have hz3000064_2_1 := ((blk_cell hb_ 2).trans rfl : _ = some (.int .i64 a0_2)); have hz3000064_3_1 := ((blk_cell hb_ 3).trans rfl : _ = some (.int .i64 a0_3)); have hz3000064_4_1 := ((blk_cell hb_ 4).trans rfl : _ = some (.int .i64 a0_4)); have hz3000064_5_1 := ((blk_cell hb_ 5).trans rfl : _ = some (.int .i64 a0_5)); have hz3000064_6_1 := ((blk_cell hb_ 6).trans rfl : _ = some (.int .i64 a0_6)); have hz3000064_7_1 := ((blk_cell hb_ 7).trans rfl : _ = some (.int .i64 a0_7)); have hz3000064_8_1 := ((blk_cell hb_ 8).trans rfl : _ = some (.int .i64 a0_8)); have hz3000064_9_1 := ((blk_cell hb_ 9).trans rfl : _ = some (.int .i64 a0_9)); have hz3000064_10_1 := ((blk_cell hb_ 10).trans rfl : _ = some (.int .i64 a0_10)); have hz3000064_11_1 := ((blk_cell hb_ 11).trans rfl : _ = some (.int .i64 a0_11)); have hz3000064_12_1 := ((blk_cell hb_ 12).trans rfl : _ = some (.int .i64 a0_12)); have hz3000064_13_1 := ((blk_cell hb_ 13).trans rfl : _ = some (.int .i64 a0_13)); have hz3000064_14_1 := ((blk_cell hb_ 14).trans rfl : _ = some (.int .i64 a0_14)); have hz3000064_15_1 := ((blk_cell hb_ 15).trans rfl : _ = some (.int .i64 a0_15)); clear hb_) | ((with_reducible refine gate_dst (N := 6) rfl ?_); refine goesL_ (some 6) rfl rfl Try.func39 (by kernel_rfl) rfl #[.agg #[.int .i64 a0_1, .int .i64 a0_2, .int .i64 a0_3, .int .i64 a0_4, .int .i64 a0_5, .int .i64 a0_6, .int .i64 a0_7]] rfl (by (try simp only [List.map_toArray, List.map_cons, List.map_nil]); first | done | rfl | (simp; done)) ?_; (with_reducible refine (barrowref32_Right.calls _ _ _ _ _ _ _ _ _  Hc1.out).mono ?_); rintro e_ w14 ⟨rfl, hb_⟩; refine ⟨_, rfl, ?_⟩; replace HS := Aside0.mk (HS.out.below hb_); replace HK := Aside0.mk (HK.out.trans (Keep.below hb_)); (try clear hz3000064_0_1 hz3000064_1_1 hz3000064_2_1 hz3000064_3_1 hz3000064_4_1 hz3000064_5_1 hz3000064_6_1 hz3000064_7_1 hz3000064_8_1 hz3000064_9_1 hz3000064_10_1 hz3000064_11_1 hz3000064_12_1 hz3000064_13_1 hz3000064_14_1 hz3000064_15_1); have hb_ := SL.at_ HS.out; have hz3000064_0_2 := ((blk_cell hb_ 0).trans rfl : _ = some (.int .i64 a0_0)); have hz3000064_1_2 := ((blk_cell hb_ 1).trans rfl : _ = some (.int .i64 a0_1)); have hz3000064_2_2 := ((blk_cell hb_ 2).trans rfl : _ = some (.int .i64 a0_2)); have hz3000064_3_2 := ((blk_cell hb_ 3).trans rfl : _ = some (.int .i64 a0_3)); have hz3000064_4_2 := ((blk_cell hb_ 4).trans rfl : _ = some (.int .i64 a0_4)); have hz3000064_5_2 := ((blk_cell hb_ 5).trans rfl : _ = some (.int .i64 a0_5)); have hz3000064_6_2 := ((blk_cell hb_ 6).trans rfl : _ = some (.int .i64 a0_6)); have hz3000064_7_2 := ((blk_cell hb_ 7).trans rfl : _ = some (.int .i64 a0_7)); have hz3000064_8_2 := ((blk_cell hb_ 8).trans rfl : _ = some (.int .i64 a0_8)); have hz3000064_9_2 := ((blk_cell hb_ 9).trans rfl : _ = some (.int .i64 a0_9)); have hz3000064_10_2 := ((blk_cell hb_ 10).trans rfl : _ = some (.int .i64 a0_10)); have hz3000064_11_2 := ((blk_cell hb_ 11).trans rfl : _ = some (.int .i64 a0_11)); have hz3000064_12_2 := ((blk_cell hb_ 12).trans rfl : _ = some (.int .i64 a0_12)); have hz3000064_13_2 := ((blk_cell hb_ 13).trans rfl : _ = some (.int .i64 a0_13)); have hz3000064_14_2 := ((blk_cell hb_ 14).trans rfl : _ = some (.int .i64 a0_14)); have hz3000064_15_2 := ((blk_cell hb_ 15).trans rfl : _ = some (.int .i64 a0_15)); clear hb_))
    go_ret
    replace HS := Aside0.mk (SL.tail HS.out)
    unfold barrowref33_one.Post
    exact ⟨by first | rfl | (simp; done) | (simp [*]; done) | (simp at c4b0 ⊢; first | exact c4b0 | (simp [c4b0]; done)), HS.out, HK.out⟩
  ·rw [if_neg c3] at H
   have c3b0 : decide (1 ≤ a0_9) = false := decide_eq_false c3
   clear c3
   obtain rfl := Option.some.inj H
   go_enter Try.func31, Try.ntmps31
   go_wp2_with (first | ((with_reducible refine gate_dst (N := 1) rfl ?_); refine wpList_plain rfl (fun K_ hK_ => ?_); refine op_box (S := S) (cs := #[.int .i64 a0_0, .int .i64 a0_1, .int .i64 a0_2, .int .i64 a0_3, .int .i64 a0_4, .int .i64 a0_5, .int .i64 a0_6, .int .i64 a0_7, .int .i64 a0_8, .int .i64 a0_9, .int .i64 a0_10, .int .i64 a0_11, .int .i64 a0_12, .int .i64 a0_13, .int .i64 a0_14, .int .i64 a0_15]) (t := 37) (HF.out.keep HK.out) HS.out (by first | (go_simp; done) | (go_simp; rfl)) ?_; intro g3000064 w15 hs_ hk_; refine hK_ _ _ ?_; clear hK_ K_; replace HS := Aside0.mk (hs_); replace HK := Aside0.mk (HK.out.trans hk_); have hb_ := SL.at_ HS.out; have hz3000064_0_1 := ((blk_cell hb_ 0).trans rfl : _ = some (.int .i64 a0_0)); have hz3000064_1_1 := ((blk_cell hb_ 1).trans rfl : _ = some (.int .i64 a0_1)); have hz3000064_2_1 := ((blk_cell hb_ 2).trans rfl : _ = some (.int .i64 a0_2)); have hz3000064_3_1 := ((blk_cell hb_ 3).trans rfl : _ = some (.int .i64 a0_3)); have hz3000064_4_1 := ((blk_cell hb_ 4).trans rfl : _ = some (.int .i64 a0_4)); have hz3000064_5_1 := ((blk_cell hb_ 5).trans rfl : _ = some (.int .i64 a0_5)); have hz3000064_6_1 := ((blk_cell hb_ 6).trans rfl : _ = some (.int .i64 a0_6)); have hz3000064_7_1 := ((blk_cell hb_ 7).trans rfl : _ = some (.int .i64 a0_7)); have hz3000064_8_1 := ((blk_cell hb_ 8).trans rfl : _ = some (.int .i64 a0_8)); have hz3000064_9_1 := ((blk_cell hb_ 9).trans rfl : _ = some (.int .i64 a0_9)); have hz3000064_10_1 := ((blk_cell hb_ 10).trans rfl : _ = some (.int .i64 a0_10)); have hz3000064_11_1 := ((blk_cell hb_ 11).trans rfl : _ = some (.int .i64 a0_11)); have hz3000064_12_1 := ((blk_cell hb_ 12).trans rfl : _ = some (.int .i64 a0_12)); have hz3000064_13_1 := ((blk_cell hb_ 13).trans rfl : _ = some (.int .i64 a0_13)); have hz3000064_14_1 := ((blk_cell hb_ 14).trans rfl : _ = some (.int .i64 a0_14)); have hz3000064_15_1 := ((blk_cell hb_ 15).trans rfl : _ = some (.int .i64 a0_15)); clear hb_) | ((with_reducible refine gate_dst (N := 6) rfl ?_); refine goesL_ (some 6) rfl rfl Try.func39 (by kernel_rfl) rfl #[.agg #[.int .i64 a0_1, .int .i64 a0_2, .int .i64 a0_3, .int .i64 a0_4, .int .i64 a0_5, .int .i64 a0_6, .int .i64 a0_7]] rfl (by (try simp only [List.map_toArray, List.map_cons, List.map_nil]); first | done | rfl | (simp; done)) ?_; (with_reducible refine (barrowref32_Right.calls _ _ _ _ _ _ _ _ _  Hc1.out).mono ?_); rintro e_ w16 ⟨rfl, hb_⟩; refine ⟨_, rfl, ?_⟩; replace HS := Aside0.mk (HS.out.below hb_); replace HK := Aside0.mk (HK.out.trans (Keep.below hb_)); (try clear hz3000064_0_1 hz3000064_1_1 hz3000064_2_1 hz3000064_3_1 hz3000064_4_1 hz3000064_5_1 hz3000064_6_1 hz3000064_7_1 hz3000064_8_1 hz3000064_9_1 hz3000064_10_1 hz3000064_11_1 hz3000064_12_1 hz3000064_13_1 hz3000064_14_1 hz3000064_15_1); have hb_ := SL.at_ HS.out; have hz3000064_0_2 := ((blk_cell hb_ 0).trans rfl : _ = some (.int .i64 a0_0)); have hz3000064_1_2 := ((blk_cell hb_ 1).trans rfl : _ = some (.int .i64 a0_1)); have hz3000064_2_2 := ((blk_cell hb_ 2).trans rfl : _ = some (.int .i64 a0_2)); have hz3000064_3_2 := ((blk_cell hb_ 3).trans rfl : _ = some (.int .i64 a0_3)); have hz3000064_4_2 := ((blk_cell hb_ 4).trans rfl : _ = some (.int .i64 a0_4)); have hz3000064_5_2 := ((blk_cell hb_ 5).trans rfl : _ = some (.int .i64 a0_5)); have hz3000064_6_2 := ((blk_cell hb_ 6).trans rfl : _ = some (.int .i64 a0_6)); have hz3000064_7_2 := ((blk_cell hb_ 7).trans rfl : _ = some (.int .i64 a0_7)); have hz3000064_8_2 := ((blk_cell hb_ 8).trans rfl : _ = some (.int .i64 a0_8)); have hz3000064_9_2 := ((blk_cell hb_ 9).trans rfl : _ = some (.int .i64 a0_9)); have hz3000064_10_2 := ((blk_cell hb_ 10).trans rfl : _ = some (.int .i64 a0_10)); have hz3000064_11_2 := ((blk_cell hb_ 11).trans rfl : _ = some (.int .i64 a0_11)); have hz3000064_12_2 := ((blk_cell hb_ 12).trans rfl : _ = some (.int .i64 a0_12)); have hz3000064_13_2 := ((blk_cell hb_ 13).trans rfl : _ = some (.int .i64 a0_13)); have hz3000064_14_2 := ((blk_cell hb_ 14).trans rfl : _ = some (.int .i64 a0_14)); have hz3000064_15_2 := ((blk_cell hb_ 15).trans rfl : _ = some (.int .i64 a0_15)); clear hb_))
   go_ret
   replace HS := Aside0.mk (SL.tail HS.out)
   unfold barrowref33_one.Post
   exact ⟨by first | rfl | (simp; done) | (simp [*]; done) | (simp at c3b0 ⊢; first | exact c3b0 | (simp [c3b0]; done)), HS.out, HK.out⟩
 ·replace c2 := Bool.eq_false_iff.mpr c2
  subst c2
  rw [if_neg (show ¬ (false = true) by decide)] at H
  obtain rfl := Option.some.inj H
  go_enter Try.func31, Try.ntmps31
  go_wp2_with (first | ((with_reducible refine gate_dst (N := 1) rfl ?_); refine wpList_plain rfl (fun K_ hK_ => ?_); refine op_box (S := S) (cs := #[.int .i64 a0_0, .int .i64 a0_1, .int .i64 a0_2, .int .i64 a0_3, .int .i64 a0_4, .int .i64 a0_5, .int .i64 a0_6, .int .i64 a0_7, .int .i64 a0_8, .int .i64 a0_9, .int .i64 a0_10, .int .i64 a0_11, .int .i64 a0_12, .int .i64 a0_13, .int .i64 a0_14, .int .i64 a0_15]) (t := 37) (HF.out.keep HK.out) HS.out (by first | (go_simp; done) | (go_simp; rfl)) ?_; intro g3000064 w17 hs_ hk_; refine hK_ _ _ ?_; clear hK_ K_; replace HS := Aside0.mk (hs_); replace HK := Aside0.mk (HK.out.trans hk_); have hb_ := SL.at_ HS.out; have hz3000064_0_1 := ((blk_cell hb_ 0).trans rfl : _ = some (.int .i64 a0_0)); have hz3000064_1_1 := ((blk_cell hb_ 1).trans rfl : _ = some (.int .i64 a0_1)); have hz3000064_2_1 := ((blk_cell hb_ 2).trans rfl : _ = some (.int .i64 a0_2)); have hz3000064_3_1 := ((blk_cell hb_ 3).trans rfl : _ = some (.int .i64 a0_3)); have hz3000064_4_1 := ((blk_cell hb_ 4).trans rfl : _ = some (.int .i64 a0_4)); have hz3000064_5_1 := ((blk_cell hb_ 5).trans rfl : _ = some (.int .i64 a0_5)); have hz3000064_6_1 := ((blk_cell hb_ 6).trans rfl : _ = some (.int .i64 a0_6)); have hz3000064_7_1 := ((blk_cell hb_ 7).trans rfl : _ = some (.int .i64 a0_7)); have hz3000064_8_1 := ((blk_cell hb_ 8).trans rfl : _ = some (.int .i64 a0_8)); have hz3000064_9_1 := ((blk_cell hb_ 9).trans rfl : _ = some (.int .i64 a0_9)); have hz3000064_10_1 := ((blk_cell hb_ 10).trans rfl : _ = some (.int .i64 a0_10)); have hz3000064_11_1 := ((blk_cell hb_ 11).trans rfl : _ = some (.int .i64 a0_11)); have hz3000064_12_1 := ((blk_cell hb_ 12).trans rfl : _ = some (.int .i64 a0_12)); have hz3000064_13_1 := ((blk_cell hb_ 13).trans rfl : _ = some (.int .i64 a0_13)); have hz3000064_14_1 := ((blk_cell hb_ 14).trans rfl : _ = some (.int .i64 a0_14)); have hz3000064_15_1 := ((blk_cell hb_ 15).trans rfl : _ = some (.int .i64 a0_15)); clear hb_) | ((with_reducible refine gate_dst (N := 6) rfl ?_); refine goesL_ (some 6) rfl rfl Try.func39 (by kernel_rfl) rfl #[.agg #[.int .i64 a0_1, .int .i64 a0_2, .int .i64 a0_3, .int .i64 a0_4, .int .i64 a0_5, .int .i64 a0_6, .int .i64 a0_7]] rfl (by (try simp only [List.map_toArray, List.map_cons, List.map_nil]); first | done | rfl | (simp; done)) ?_; (with_reducible refine (barrowref32_Right.calls _ _ _ _ _ _ _ _ _  Hc1.out).mono ?_); rintro e_ w18 ⟨rfl, hb_⟩; refine ⟨_, rfl, ?_⟩; replace HS := Aside0.mk (HS.out.below hb_); replace HK := Aside0.mk (HK.out.trans (Keep.below hb_)); (try clear hz3000064_0_1 hz3000064_1_1 hz3000064_2_1 hz3000064_3_1 hz3000064_4_1 hz3000064_5_1 hz3000064_6_1 hz3000064_7_1 hz3000064_8_1 hz3000064_9_1 hz3000064_10_1 hz3000064_11_1 hz3000064_12_1 hz3000064_13_1 hz3000064_14_1 hz3000064_15_1)))
  go_ret
  replace HS := Aside0.mk (SL.tail HS.out)
  unfold barrowref33_one.Post
  exact ⟨by first | rfl | (simp; done) | (simp [*]; done), HS.out, HK.out⟩
theorem barrowref33_one.calls (a0_0 : Int) (a0_1 : Int) (a0_2 : Int) (a0_3 : Int) (a0_4 : Int) (a0_5 : Int) (a0_6 : Int) (a0_7 : Int) (a0_8 : Int) (a0_9 : Int) (a0_10 : Int) (a0_11 : Int) (a0_12 : Int) (a0_13 : Int) (a0_14 : Int) (a0_15 : Int) (r : Bool) (w : World) (h : barrowref33_one.f a0_0 a0_1 a0_2 a0_3 a0_4 a0_5 a0_6 a0_7 a0_8 a0_9 a0_10 a0_11 a0_12 a0_13 a0_14 a0_15 = some r) :
  Calls Try.prog 31 #[.agg #[.int .i64 a0_0, .int .i64 a0_1, .int .i64 a0_2, .int .i64 a0_3, .int .i64 a0_4, .int .i64 a0_5, .int .i64 a0_6, .int .i64 a0_7, .int .i64 a0_8, .int .i64 a0_9, .int .i64 a0_10, .int .i64 a0_11, .int .i64 a0_12, .int .i64 a0_13, .int .i64 a0_14, .int .i64 a0_15]] w fun e w' => e = .returned (.bool r) ∧ Below w.heap.size w w' :=
 (barrowref33_one.slcalls a0_0 a0_1 a0_2 a0_3 a0_4 a0_5 a0_6 a0_7 a0_8 a0_9 a0_10 a0_11 a0_12 a0_13 a0_14 a0_15 r (news w) [] w (fresh_news w) trivial h).mono fun _ _ h => ⟨h.1, h.2.2.to_below⟩

end Go.Proofs.Ytiadhonhjnbliaa.XZT
