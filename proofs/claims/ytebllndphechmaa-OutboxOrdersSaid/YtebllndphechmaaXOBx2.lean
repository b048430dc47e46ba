-- Written by xprint.py (a program of this session) for this claim
import Derived.Test.YtebllndphechmaaXOBx0
namespace Go.Proofs.Ytebllndphechmaa.XOB
open Go.Proofs.YtebllndphechmaaV Go.Proofs.YtebllndphechmaaS
open Go.RowKit Go.Proofs.YtebllndphechmaaW.PrintWords Go.Proofs.YtebllndphechmaaW.PrintLast Go.Proofs.YtebllndphechmaaW.PrintMore
attribute [local go_sem] max2_int min2_int max_two min_two max_three min_three max_four min_four   -- for this text's walks alone
set_option linter.unusedVariables false
set_option linter.unusedSimpArgs false

/-! ### barrowref04_Same: function 11 -/
def barrowref04_Same.l0 : Nat → List (List Int) → List (List Int) → Int → Option (Bool)
  | 0, _, _, _ => none
  | k + 1, x0, x1, x5 => if x5 < (x0.length : Int) then (if 0 ≤ x5 then (if x5 < (x1.length : Int) then (if (strOfNums (rd_L1 x0 x5)).toList = (strOfNums (rd_L1 x1 x5)).toList then (barrowref04_Same.l0 k x0 x1 (wrap64 (x5 + 1))) else (some false)) else (none)) else (none)) else (some true)
def barrowref04_Same.f (k : Nat) (l0 : List (List Int)) (l1 : List (List Int)) : Option (Bool) := if (l0.length : Int) = (l1.length : Int) then (barrowref04_Same.l0 k l0 l1 0) else (some false)
theorem barrowref04_Same.mono_l : ∀ k, (∀ y0 y1 y2, LeO (barrowref04_Same.l0 k y0 y1 y2) (barrowref04_Same.l0 (k + 1) y0 y1 y2))
  | 0 => fun _ _ _ r h => by simp [barrowref04_Same.l0] at h
  | k + 1 => by
    have ih0 := barrowref04_Same.mono_l k
    · intro y0 y1 y2
      unfold barrowref04_Same.l0
      repeat' first
      | (with_reducible exact ih0 _ _ _)
      | (with_reducible exact LeO.refl _)
      | (with_reducible exact LeO.none _)
      | (with_reducible refine LeO.ite ?_ ?_)
      | (with_reducible refine LeO.bind ?_ (fun _ => ?_))
      | exact ih0 _ _ _
      | exact LeO.none _
      | refine LeO.ite ?_ ?_
      | refine LeO.bind ?_ (fun _ => ?_)
theorem barrowref04_Same.mono : ∀ a0 a1 k, LeO (barrowref04_Same.f k a0 a1) (barrowref04_Same.f (k + 1) a0 a1) := by
  intro a0 a1 k
  have ih0 := barrowref04_Same.mono_l k
  unfold barrowref04_Same.f
  repeat' first
      | (with_reducible exact ih0 _ _ _)
      | (with_reducible exact LeO.refl _)
      | (with_reducible exact LeO.none _)
      | (with_reducible refine LeO.ite ?_ ?_)
      | (with_reducible refine LeO.bind ?_ (fun _ => ?_))
      | exact ih0 _ _ _
      | exact LeO.none _
      | refine LeO.ite ?_ ?_
      | refine LeO.bind ?_ (fun _ => ?_)
set_option maxHeartbeats 8000000 in
set_option maxRecDepth 100000 in
theorem barrowref04_Same.calls (k : Nat) (A0 : Option Addr) (c0 : Nat) (l0 : List (List Int)) (A1 : Option Addr) (c1 : Nat) (l1 : List (List Int)) (r : Bool) (w : World) (hr0 : Kd.C (Kd.slice 5 (Kd.int .u8)) w A0 l0.length l0) (hc0 : l0.length ≤ c0) (hr1 : Kd.C (Kd.slice 5 (Kd.int .u8)) w A1 l1.length l1) (hc1 : l1.length ≤ c1) (h : barrowref04_Same.f k l0 l1 = some r) :
    Calls Try.prog 11 #[.slice A0 l0.length c0, .slice A1 l1.length c1] w fun e w' => e = .returned (.bool r) ∧ Drawn0 w w' := by
  have HR0 := Aside0.mk hr0
  have HC0 := Aside0.mk hc0
  clear hr0 hc0
  have HR1 := Aside0.mk hr1
  have HC1 := Aside0.mk hc1
  clear hr1 hc1
  have H : (if (l0.length : Int) = (l1.length : Int) then (barrowref04_Same.l0 k l0 l1 0) else (some false)) = some r := h
  clear h
  by_cases c3 : (l0.length : Int) = (l1.length : Int)
  · rw [if_pos c3] at H
    have c3b0 : ((l0.length : Int) == (l1.length : Int)) = true := beq_iff_eq.mpr c3
    have c3b1 : ((l0.length : Int) != (l1.length : Int)) = false := bne_eq_false_iff_eq.mpr c3
    have c3b2 : (l0.length == l1.length) = true := by first | simpa using c3 | (simp at c3 ⊢; omega)
    clear c3
    have H' := Aside0.mk H
    clear H
    go_enter Try.func11, Try.ntmps11
    go_wp2
    repeat (go_quiet (fail); try go_wp2)
    go_loopg [5] k (fun kq v5 w' => ∃ (x5_1 : Int), v5 = .int .i64 x5_1 ∧ Aside0 (barrowref04_Same.l0 kq l0 l1 x5_1 = some r) ∧ Aside0 (kq ≤ k) ∧ Drawn0 w w')
    case atStart => exact ⟨(0), (by first | rfl | (simp; done) | (simp [*]; done)), H', ⟨Nat.le_refl _⟩, by repeat (first | exact Drawn0.refl _ | apply Drawn0.step)⟩
    case round =>
      clear H'
      try clear c1
      try clear p2
      try clear c3
      try clear c3b0
      try clear c3b1
      try clear c3b2
      obtain ⟨x5_1, rfl, HA, HK1, ⟨m1, rfl⟩⟩ := hrel
      cases gk with
      | zero => exact absurd HA.out (by simp [barrowref04_Same.l0])
      | succ k1 =>
        have H := HA.out
        clear HA
        simp only [barrowref04_Same.l0] at H
        by_cases c4 : x5_1 < (l0.length : Int)
        · rw [if_pos c4] at H
          have c4b0 : decide (x5_1 < (l0.length : Int)) = true := decide_eq_true c4
          clear c4
          by_cases c5 : 0 ≤ x5_1
          · rw [if_pos c5] at H
            have c5b0 : decide (0 ≤ x5_1) = true := decide_eq_true c5
            clear c5
            by_cases c6 : x5_1 < (l1.length : Int)
            · rw [if_pos c6] at H
              have c6b0 : decide (x5_1 < (l1.length : Int)) = true := decide_eq_true c6
              clear c6
              by_cases c7 : (strOfNums (rd_L1 l0 x5_1)).toList = (strOfNums (rd_L1 l1 x5_1)).toList
              · rw [if_pos c7] at H
                have c7b0 : ((strOfNums (rd_L1 l0 x5_1)).toList == (strOfNums (rd_L1 l1 x5_1)).toList) = true := beq_iff_eq.mpr c7
                have c7b1 : ((strOfNums (rd_L1 l0 x5_1)).toList != (strOfNums (rd_L1 l1 x5_1)).toList) = false := bne_eq_false_iff_eq.mpr c7
                clear c7
                have H' := Aside0.mk H
                clear H
                have p174 : 0 ≤ (x5_1 : Int) := of_decide_eq_true (by first | (with_reducible assumption) | assumption)
                have q174 : x5_1 < (l0.length : Int) := of_decide_eq_true (by first | (with_reducible assumption) | assumption)
                obtain ⟨ad174, A174_0, c174_0, e174, hx174_0, hl174_0, hi174_0⟩ := at_L1 HR0.out x5_1 p174 q174
                cases e174
                have HR174_0 := Aside0.mk hi174_0
                have HC174_0 := Aside0.mk hl174_0
                clear hi174_0 hl174_0
                replace p174 := eq_true p174
                replace q174 := eq_true q174
                have hcv8 := Kd.C_string (P := Try.prog) (A := A174_0) (c := c174_0) Try.underlying32 Try.underlying5 Try.underlying9 HR174_0.out
                have hcvd8 := fun n_ : Nat => Kd.C_string (P := Try.prog) (A := A174_0) (c := c174_0) Try.underlying32 Try.underlying5 Try.underlying9 (Kd.C_drewN HR174_0.out n_)
                have p175 : 0 ≤ (x5_1 : Int) := of_decide_eq_true (by first | (with_reducible assumption) | assumption)
                have q175 : x5_1 < (l1.length : Int) := of_decide_eq_true (by first | (with_reducible assumption) | assumption)
                obtain ⟨ad175, A175_0, c175_0, e175, hx175_0, hl175_0, hi175_0⟩ := at_L1 HR1.out x5_1 p175 q175
                cases e175
                have HR175_0 := Aside0.mk hi175_0
                have HC175_0 := Aside0.mk hl175_0
                clear hi175_0 hl175_0
                replace p175 := eq_true p175
                replace q175 := eq_true q175
                have hcv9 := Kd.C_string (P := Try.prog) (A := A175_0) (c := c175_0) Try.underlying32 Try.underlying5 Try.underlying9 HR175_0.out
                have hcvd9 := fun n_ : Nat => Kd.C_string (P := Try.prog) (A := A175_0) (c := c175_0) Try.underlying32 Try.underlying5 Try.underlying9 (Kd.C_drewN HR175_0.out n_)
                go_wp2
                repeat (go_quiet (fail); try go_wp2)
                go_roundg k1
                case measure => have := HK1.out; omega
                case rel => exact ⟨(wrap64 (x5_1 + 1)), (by first | rfl | (simp; done) | (simp [*]; done)), H', ⟨by have := HK1.out; omega⟩, by repeat (first | exact Drawn0.refl _ | apply Drawn0.step)⟩
              · rw [if_neg c7] at H
                have c7b0 : ((strOfNums (rd_L1 l0 x5_1)).toList == (strOfNums (rd_L1 l1 x5_1)).toList) = false := beq_eq_false_iff_ne.mpr c7
                have c7b1 : ((strOfNums (rd_L1 l0 x5_1)).toList != (strOfNums (rd_L1 l1 x5_1)).toList) = true := bne_iff_ne.mpr c7
                obtain rfl := Option.some.inj H
                have p174 : 0 ≤ (x5_1 : Int) := of_decide_eq_true (by first | (with_reducible assumption) | assumption)
                have q174 : x5_1 < (l0.length : Int) := of_decide_eq_true (by first | (with_reducible assumption) | assumption)
                obtain ⟨ad174, A174_0, c174_0, e174, hx174_0, hl174_0, hi174_0⟩ := at_L1 HR0.out x5_1 p174 q174
                cases e174
                have HR174_0 := Aside0.mk hi174_0
                have HC174_0 := Aside0.mk hl174_0
                clear hi174_0 hl174_0
                replace p174 := eq_true p174
                replace q174 := eq_true q174
                have hcv10 := Kd.C_string (P := Try.prog) (A := A174_0) (c := c174_0) Try.underlying32 Try.underlying5 Try.underlying9 HR174_0.out
                have hcvd10 := fun n_ : Nat => Kd.C_string (P := Try.prog) (A := A174_0) (c := c174_0) Try.underlying32 Try.underlying5 Try.underlying9 (Kd.C_drewN HR174_0.out n_)
                have p175 : 0 ≤ (x5_1 : Int) := of_decide_eq_true (by first | (with_reducible assumption) | assumption)
                have q175 : x5_1 < (l1.length : Int) := of_decide_eq_true (by first | (with_reducible assumption) | assumption)
                obtain ⟨ad175, A175_0, c175_0, e175, hx175_0, hl175_0, hi175_0⟩ := at_L1 HR1.out x5_1 p175 q175
                cases e175
                have HR175_0 := Aside0.mk hi175_0
                have HC175_0 := Aside0.mk hl175_0
                clear hi175_0 hl175_0
                replace p175 := eq_true p175
                replace q175 := eq_true q175
                have hcv11 := Kd.C_string (P := Try.prog) (A := A175_0) (c := c175_0) Try.underlying32 Try.underlying5 Try.underlying9 HR175_0.out
                have hcvd11 := fun n_ : Nat => Kd.C_string (P := Try.prog) (A := A175_0) (c := c175_0) Try.underlying32 Try.underlying5 Try.underlying9 (Kd.C_drewN HR175_0.out n_)
                go_wp2
                repeat (go_quiet (fail); try go_wp2)
                go_ret
                exact ⟨by first | rfl | (simp; done) | (simp [*]; done), by repeat (first | exact Drawn0.refl _ | apply Drawn0.step)⟩
            · rw [if_neg c6] at H
              exact absurd H (by simp)
          · rw [if_neg c5] at H
            exact absurd H (by simp)
        · rw [if_neg c4] at H
          have c4b0 : decide (x5_1 < (l0.length : Int)) = false := decide_eq_false c4
          clear c4
          obtain rfl := Option.some.inj H
          go_wp2
          repeat (go_quiet (fail); try go_wp2)
          go_ret
          exact ⟨by first | rfl | (simp; done) | (simp [*]; done), by repeat (first | exact Drawn0.refl _ | apply Drawn0.step)⟩
  · rw [if_neg c3] at H
    have c3b0 : ((l0.length : Int) == (l1.length : Int)) = false := beq_eq_false_iff_ne.mpr c3
    have c3b1 : ((l0.length : Int) != (l1.length : Int)) = true := bne_iff_ne.mpr c3
    have c3b2 : (l0.length == l1.length) = false := by first | simpa using c3 | (simp at c3 ⊢; omega)
    obtain rfl := Option.some.inj H
    go_enter Try.func11, Try.ntmps11
    go_wp2
    repeat (go_quiet (fail); try go_wp2)
    go_ret
    exact ⟨by first | rfl | (simp; done) | (simp [*]; done), by repeat (first | exact Drawn0.refl _ | apply Drawn0.step)⟩

-- NOT PRINTED: function 12 (barrowref26_Box_Drain)

/-! ### barrowref26_Box_Put: function 14 -/
def barrowref26_Box_Put.f (l1 : List Int) (s0_0 : List (List Int)) (s0_1 : Int) (s0_2 : Bool) : Option (Bool × (List (List Int)) × Bool) := if s0_2 = true then (some (false, s0_0, s0_2)) else (if (s0_0.length : Int) ≥ s0_1 then (some (false, ([] : List (List Int)), true)) else ((some (([] : List Int) : List Int)).bind fun y183 => (if y183.length + l1.length < 140737488355328 then ((some (y183 ++ l1 : List Int)).bind fun y184 => ((some (([y184] : List (List Int)) : List (List Int))).bind fun y187 => (if s0_0.length + y187.length < 5864062014805 then ((some (s0_0 ++ y187 : List (List Int))).bind fun y188 => (some (true, y188, s0_2))) else (none)))) else (none))))
def barrowref26_Box_Put.T3 : Bool × List (List Nat × List Nat) := (true, [([], []), ([0], [0]), ([1], [1]), ([2], [2]), ([3], [3]), ([], []), ([5], [5]), ([6], [6]), ([7], [7]), ([4, 8], [4, 8])])
def barrowref26_Box_Put.B3 : List Nat := [0, 1, 3, 7, 15, 0, 32, 96, 224, 511]
theorem barrowref26_Box_Put.tab3 : rtab .any (opsOf Try.f14 3) = barrowref26_Box_Put.T3 := by kernel_rfl
theorem barrowref26_Box_Put.bits3 : waitsOk barrowref26_Box_Put.T3.2 barrowref26_Box_Put.B3 = true := by kernel_rfl
def barrowref26_Box_Put.T7 : Bool × List (List Nat × List Nat) := (true, [([], []), ([], []), ([1], [1]), ([2], [2]), ([3], [3]), ([], []), ([], []), ([5, 6], [5, 6]), ([7], [7]), ([4, 8, 7], [4, 8]), ([0, 0, 1, 2, 3, 4, 5, 6, 7, 8, 9], [0]), ([10, 0, 1, 2, 3, 4, 5, 6, 7, 8, 9], [10]), ([11, 9, 9, 0, 1, 2, 3, 4, 5, 6, 7, 8, 9], [9, 11])])
def barrowref26_Box_Put.B7 : List Nat := [0, 0, 2, 6, 14, 0, 0, 96, 224, 510, 1023, 2047, 4095]
theorem barrowref26_Box_Put.tab7 : rtab .any (opsOf Try.f14 7) = barrowref26_Box_Put.T7 := by kernel_rfl
theorem barrowref26_Box_Put.bits7 : waitsOk barrowref26_Box_Put.T7.2 barrowref26_Box_Put.B7 = true := by kernel_rfl
def barrowref26_Box_Put.Post (b0 : Nat) (s0_1 : Int) (r1 : Bool) (r2 : List (List Int)) (r3 : Bool) (S : Nat → Prop) (L : List Asr) (w : World) (e : Ending) (w' : World) : Prop := ∃ (Ar2 : Option Addr) (cr2 : Nat), e = .returned (.bool r1) ∧ SL (cells b0 36 [.slice Ar2 r2.length cr2, .int .i64 s0_1, .bool r3].toArray :: rows (inn (Kd.int .u8) 5) 1 32 (.slice Ar2 r2.length cr2) r2 :: L) w' S ∧ Keep S w w'
set_option maxHeartbeats 8000000 in
set_option maxRecDepth 100000 in
theorem barrowref26_Box_Put.slcalls (A1 : Option Addr) (c1 : Nat) (l1 : List Int) (b0 : Nat) (As0_0 : Option Addr) (cs0_0 : Nat) (s0_0 : List (List Int)) (s0_1 : Int) (s0_2 : Bool) (r1 : Bool) (r2 : List (List Int)) (r3 : Bool) (S : Nat → Prop) (L : List Asr) (w : World) (hf : Fresh S w) (hs : SL (cells b0 36 [.slice As0_0 s0_0.length cs0_0, .int .i64 s0_1, .bool s0_2].toArray :: rows (inn (Kd.int .u8) 5) 1 32 (.slice As0_0 s0_0.length cs0_0) s0_0 :: L) w S) (hr1 : RO S w (fun w_ => Kd.C (Kd.int .u8) w_ A1 l1.length l1)) (hc1 : l1.length ≤ c1) (h : barrowref26_Box_Put.f l1 s0_0 s0_1 s0_2 = some (r1, r2, r3)) :
    Calls Try.prog 14 #[.pointer (some ⟨b0, 0, none⟩), .slice A1 l1.length c1] w (barrowref26_Box_Put.Post b0 s0_1 r1 r2 r3 S L w) := by
  have HR1 := Aside0.mk hr1
  have HC1 := Aside0.mk hc1
  clear hr1 hc1
  have HF := Aside0.mk hf
  have HS := Aside0.mk hs
  have HK := Aside0.mk (Keep.refl S w)
  clear hf hs
  have H : (if s0_2 = true then (some (false, s0_0, s0_2)) else (if (s0_0.length : Int) ≥ s0_1 then (some (false, ([] : List (List Int)), true)) else ((some (([] : List Int) : List Int)).bind fun y183 => (if y183.length + l1.length < 140737488355328 then ((some (y183 ++ l1 : List Int)).bind fun y184 => ((some (([y184] : List (List Int)) : List (List Int))).bind fun y187 => (if s0_0.length + y187.length < 5864062014805 then ((some (s0_0 ++ y187 : List (List Int))).bind fun y188 => (some (true, y188, s0_2))) else (none)))) else (none))))) = some (r1, r2, r3) := h
  clear h
  by_cases c1 : s0_2 = true
  · subst c1
    rw [if_pos rfl] at H
    simp only [Option.some.injEq, Prod.mk.injEq] at H
    obtain ⟨rfl, rfl, rfl⟩ := H
    have hb_ := SL.at_ HS.out
    have hz0_0_0 := ((blk_cell hb_ 0).trans rfl : _ = some (.slice As0_0 s0_0.length cs0_0))
    have hz0_1_0 := ((blk_cell hb_ 1).trans rfl : _ = some (.int .i64 s0_1))
    have hz0_2_0 := ((blk_cell hb_ 2).trans rfl : _ = some (.bool true))
    clear hb_
    go_enter Try.func14, Try.ntmps14
    go_wp2
    go_ret
    unfold barrowref26_Box_Put.Post
    exact ⟨As0_0, cs0_0, by first | rfl | (simp; done) | (simp [*]; done), HS.out, HK.out⟩
  · replace c1 := Bool.eq_false_iff.mpr c1
    subst c1
    rw [if_neg (show ¬ (false = true) by decide)] at H
    by_cases c2 : (s0_0.length : Int) ≥ s0_1
    · rw [if_pos c2] at H
      have c2b0 : decide (s0_1 ≤ (s0_0.length : Int)) = true := decide_eq_true c2
      clear c2
      simp only [Option.some.injEq, Prod.mk.injEq] at H
      obtain ⟨rfl, rfl, rfl⟩ := H
      have hb_ := SL.at_ HS.out
      have hz0_0_0 := ((blk_cell hb_ 0).trans rfl : _ = some (.slice As0_0 s0_0.length cs0_0))
      have hz0_1_0 := ((blk_cell hb_ 1).trans rfl : _ = some (.int .i64 s0_1))
      have hz0_2_0 := ((blk_cell hb_ 2).trans rfl : _ = some (.bool false))
      clear hb_
      go_enter Try.func14, Try.ntmps14
      try go_wp2
      refine start_ (n := 10) (S := fun w' => w'.cell? ⟨b0, 0, none⟩ = some (.slice As0_0 s0_0.length cs0_0) ∧ w'.cell? ⟨b0, 1, none⟩ = some (.int .i64 s0_1)) (ds := []) #[false, false, false, false, false, false, false, false, false, false] (by kernel_rfl) rfl rfl ⟨(((blk_cell (SL.at_ HS.out) 0).trans rfl)), (((blk_cell (SL.at_ HS.out) 1).trans rfl))⟩ (fun hHeld => ?_); refine with_tabW barrowref26_Box_Put.tab3 barrowref26_Box_Put.bits3 (fun HT_ HW_ => ?_)
      replace HK := Aside0.mk (Keep.drew HK.out)
      replace HS := Aside0.mk (SL.drew HS.out)
      refine pure_ (i := 0) (N := some 9) (v := ?_) (a' := ?_) #[true, false, false, false, false, false, false, false, false, false] rfl rfl (any_of HT_.out (by kernel_rfl)) (fun _ _ _ h => h) (Or.inl ⟨by rfl, ?_⟩) ?_ ?_; rotate_left; · (intro w'; go_simp; with_reducible rfl)
      rotate_left; · (simp only [Act.put, sT, sZ, sS, i64_w, i32_w]; rfl)
      refine pure_ (i := 1) (N := some 10) (v := ?_) (a' := ?_) #[true, true, false, false, false, false, false, false, false, false] rfl rfl (any_of HT_.out (by kernel_rfl)) (fun _ _ _ h => h) (Or.inl ⟨by rfl, ?_⟩) ?_ ?_; rotate_left; · (intro w'; go_simp; with_reducible rfl)
      rotate_left; · (simp only [Act.put, sT, sZ, sS, i64_w, i32_w]; rfl)
      refine pure_ (i := 2) (N := some 11) (v := ?_) (a' := ?_) #[true, true, true, false, false, false, false, false, false, false] rfl rfl (any_of HT_.out (by kernel_rfl)) (fun _ _ _ h => h) (Or.inl ⟨by rfl, ?_⟩) ?_ ?_; rotate_left; · (intro w'; go_simp; with_reducible rfl)
      rotate_left; · (simp only [Act.put, sT, sZ, sS, i64_w, i32_w]; rfl)
      refine pure_ (i := 5) (N := some 14) (v := ?_) (a' := ?_) #[true, true, true, false, false, true, false, false, false, false] rfl rfl (any_of HT_.out (by kernel_rfl)) (fun _ _ _ h => h) (Or.inl ⟨by rfl, ?_⟩) ?_ ?_; rotate_left; · (intro w'; go_simp; with_reducible rfl)
      rotate_left; · (simp only [Act.put, sT, sZ, sS, i64_w, i32_w]; rfl)
      refine pure_ (i := 6) (N := some 15) (v := ?_) (a' := ?_) #[true, true, true, false, false, true, true, false, false, false] rfl rfl (any_of HT_.out (by kernel_rfl)) (fun _ _ _ h => h) (Or.inl ⟨by rfl, ?_⟩) ?_ ?_; rotate_left; · (intro w'; go_simp; with_reducible rfl)
      rotate_left; · (simp only [Act.put, sT, sZ, sS, i64_w, i32_w]; rfl)
      refine pure_ (i := 7) (N := some 16) (v := ?_) (a' := ?_) #[true, true, true, false, false, true, true, true, false, false] rfl rfl (any_of HT_.out (by kernel_rfl)) (fun _ _ _ h => h) (Or.inl ⟨by rfl, ?_⟩) ?_ ?_; rotate_left; · (intro w'; go_simp; with_reducible rfl)
      rotate_left; · (simp only [Act.put, sT, sZ, sS, i64_w, i32_w]; rfl)
      refine take_ (i := 3) (N := some 12) (v := ?_) (a' := ?_) #[true, true, true, true, false, true, true, true, false, false] rfl rfl (take_ofW HT_.out HW_.out (by kernel_rfl)) (fun _ _ _ h => h) (Or.inl ⟨by rfl, ?_⟩) hHeld ?_ ?_; rotate_left
      · rintro w' ⟨s0, s1⟩
        go_simp
        with_reducible rfl
      rotate_left; · (simp only [Act.put, sT, sZ, sS, i64_w, i32_w]; rfl)
      refine pure_ (i := 4) (N := some 13) (v := ?_) (a' := ?_) #[true, true, true, true, true, true, true, true, false, false] rfl rfl (any_of HT_.out (by kernel_rfl)) (fun _ _ _ h => h) (Or.inl ⟨by rfl, ?_⟩) ?_ ?_; rotate_left; · (intro w'; go_simp; with_reducible rfl)
      rotate_left; · (simp only [Act.put, sT, sZ, sS, i64_w, i32_w]; rfl)
      refine take_ (i := 8) (N := some 17) (v := ?_) (a' := ?_) #[true, true, true, true, true, true, true, true, true, false] rfl rfl (take_ofW HT_.out HW_.out (by kernel_rfl)) (fun _ _ _ h => h) (Or.inl ⟨by rfl, ?_⟩) hHeld ?_ ?_; rotate_left
      · rintro w' ⟨s0, s1⟩
        go_simp
        with_reducible rfl
      rotate_left; · (simp only [Act.put, sT, sZ, sS, i64_w, i32_w]; rfl)
      refine pure_ (i := 9) (N := some 18) (v := ?_) (a' := ?_) #[true, true, true, true, true, true, true, true, true, true] rfl rfl (any_of HT_.out (by kernel_rfl)) (fun _ _ _ h => h) (Or.inl ⟨by rfl, ?_⟩) ?_ ?_; rotate_left; · (intro w'; go_simp; with_reducible rfl)
      rotate_left; · (simp only [Act.put, sT, sZ, sS, i64_w, i32_w]; rfl)
      refine done_ (done_of HT_.out (by kernel_rfl)) ?_
      try go_wp2_with (first | ((with_reducible refine gate_store (t := 23) (p := 21) (v := (.const (.slice none 0 0))) rfl ?_); refine wpList_plain rfl (fun K_ hK_ => ?_); refine op_store (S := S) 23 (.tmp 21) (.const (.slice none 0 0)) rfl b0 0 (.slice none 0 0) [.slice none 0 0] rfl rfl rfl (by kernel_rfl) (by simp [Value.oneCell']) HS.out (by simp) ?_; intro w3 hs_ hk_; refine hK_ _ _ ?_; clear hK_ K_; replace HS := Aside0.mk ((show SL (cells b0 36 [.slice none 0 0, .int .i64 s0_1, .bool false].toArray :: _) _ _ from hs_)); replace HK := Aside0.mk (HK.out.trans hk_)) | ((with_reducible refine gate_store (t := 4) (p := 24) (v := (.const (.bool true))) rfl ?_); refine wpList_plain rfl (fun K_ hK_ => ?_); refine op_store (S := S) 4 (.tmp 24) (.const (.bool true)) rfl b0 2 (.bool true) [.bool true] rfl rfl rfl (by kernel_rfl) (by simp [Value.oneCell']) HS.out (by simp) ?_; intro w4 hs_ hk_; refine hK_ _ _ ?_; clear hK_ K_; replace HS := Aside0.mk ((show SL (cells b0 36 [.slice none 0 0, .int .i64 s0_1, .bool true].toArray :: _) _ _ from hs_)); replace HK := Aside0.mk (HK.out.trans hk_); have n2_ := Aside0.mk (rows_nil (inn (Kd.int .u8) 5) 1 32 HS.out); clear HS; have HS := n2_; clear n2_))
      go_ret
      replace HS := Aside0.mk (SL.get1 (SL.tail (SL.get2 HS.out)))
      unfold barrowref26_Box_Put.Post
      exact ⟨none, 0, by first | rfl | (simp; done) | (simp [*]; done) | (simp at c2b0 ⊢; first | exact c2b0 | (simp [c2b0]; done)), HS.out, HK.out⟩
    · rw [if_neg c2] at H
      have c2b0 : decide (s0_1 ≤ (s0_0.length : Int)) = false := decide_eq_false c2
      clear c2
      replace H := Option.bind_eq_some_iff.1 H
      obtain ⟨y183, hy1830, H⟩ := H
      try dsimp only at H
      have hy183 := Option.some.inj hy1830
      clear hy1830
      have Ny183 := Aside0.mk hy183
      clear hy183
      by_cases c5 : y183.length + l1.length < 140737488355328
      · rw [if_pos c5] at H
        have LMc5 := Aside0.mk c5
        clear c5
        replace H := Option.bind_eq_some_iff.1 H
        obtain ⟨y184, hy1840, H⟩ := H
        try dsimp only at H
        have hy184 := Option.some.inj hy1840
        clear hy1840
        have Ny184 := Aside0.mk hy184
        clear hy184
        replace H := Option.bind_eq_some_iff.1 H
        obtain ⟨y187, hy1870, H⟩ := H
        try dsimp only at H
        have hy187 := Option.some.inj hy1870
        clear hy1870
        have Ny187 := Aside0.mk hy187
        clear hy187
        by_cases c6 : s0_0.length + y187.length < 5864062014805
        · rw [if_pos c6] at H
          have LMc6 := Aside0.mk c6
          clear c6
          replace H := Option.bind_eq_some_iff.1 H
          obtain ⟨y188, hy1880, H⟩ := H
          try dsimp only at H
          have hy188 := Option.some.inj hy1880
          clear hy1880
          have Ny188 := Aside0.mk hy188
          clear hy188
          simp only [Option.some.injEq, Prod.mk.injEq] at H
          obtain ⟨rfl, rfl, rfl⟩ := H
          have hb_ := SL.at_ HS.out
          have hz0_0_0 := ((blk_cell hb_ 0).trans rfl : _ = some (.slice As0_0 s0_0.length cs0_0))
          have hz0_1_0 := ((blk_cell hb_ 1).trans rfl : _ = some (.int .i64 s0_1))
          have hz0_2_0 := ((blk_cell hb_ 2).trans rfl : _ = some (.bool false))
          clear hb_
          go_enter Try.func14, Try.ntmps14
          try go_wp2
          refine start_ (n := 10) (S := fun w' => w'.cell? ⟨b0, 0, none⟩ = some (.slice As0_0 s0_0.length cs0_0) ∧ w'.cell? ⟨b0, 1, none⟩ = some (.int .i64 s0_1)) (ds := []) #[false, false, false, false, false, false, false, false, false, false] (by kernel_rfl) rfl rfl ⟨(((blk_cell (SL.at_ HS.out) 0).trans rfl)), (((blk_cell (SL.at_ HS.out) 1).trans rfl))⟩ (fun hHeld => ?_); refine with_tabW barrowref26_Box_Put.tab3 barrowref26_Box_Put.bits3 (fun HT_ HW_ => ?_)
          replace HK := Aside0.mk (Keep.drew HK.out)
          replace HS := Aside0.mk (SL.drew HS.out)
          refine pure_ (i := 0) (N := some 9) (v := ?_) (a' := ?_) #[true, false, false, false, false, false, false, false, false, false] rfl rfl (any_of HT_.out (by kernel_rfl)) (fun _ _ _ h => h) (Or.inl ⟨by rfl, ?_⟩) ?_ ?_; rotate_left; · (intro w'; go_simp; with_reducible rfl)
          rotate_left; · (simp only [Act.put, sT, sZ, sS, i64_w, i32_w]; rfl)
          refine pure_ (i := 1) (N := some 10) (v := ?_) (a' := ?_) #[true, true, false, false, false, false, false, false, false, false] rfl rfl (any_of HT_.out (by kernel_rfl)) (fun _ _ _ h => h) (Or.inl ⟨by rfl, ?_⟩) ?_ ?_; rotate_left; · (intro w'; go_simp; with_reducible rfl)
          rotate_left; · (simp only [Act.put, sT, sZ, sS, i64_w, i32_w]; rfl)
          refine pure_ (i := 2) (N := some 11) (v := ?_) (a' := ?_) #[true, true, true, false, false, false, false, false, false, false] rfl rfl (any_of HT_.out (by kernel_rfl)) (fun _ _ _ h => h) (Or.inl ⟨by rfl, ?_⟩) ?_ ?_; rotate_left; · (intro w'; go_simp; with_reducible rfl)
          rotate_left; · (simp only [Act.put, sT, sZ, sS, i64_w, i32_w]; rfl)
          refine pure_ (i := 5) (N := some 14) (v := ?_) (a' := ?_) #[true, true, true, false, false, true, false, false, false, false] rfl rfl (any_of HT_.out (by kernel_rfl)) (fun _ _ _ h => h) (Or.inl ⟨by rfl, ?_⟩) ?_ ?_; rotate_left; · (intro w'; go_simp; with_reducible rfl)
          rotate_left; · (simp only [Act.put, sT, sZ, sS, i64_w, i32_w]; rfl)
          refine pure_ (i := 6) (N := some 15) (v := ?_) (a' := ?_) #[true, true, true, false, false, true, true, false, false, false] rfl rfl (any_of HT_.out (by kernel_rfl)) (fun _ _ _ h => h) (Or.inl ⟨by rfl, ?_⟩) ?_ ?_; rotate_left; · (intro w'; go_simp; with_reducible rfl)
          rotate_left; · (simp only [Act.put, sT, sZ, sS, i64_w, i32_w]; rfl)
          refine pure_ (i := 7) (N := some 16) (v := ?_) (a' := ?_) #[true, true, true, false, false, true, true, true, false, false] rfl rfl (any_of HT_.out (by kernel_rfl)) (fun _ _ _ h => h) (Or.inl ⟨by rfl, ?_⟩) ?_ ?_; rotate_left; · (intro w'; go_simp; with_reducible rfl)
          rotate_left; · (simp only [Act.put, sT, sZ, sS, i64_w, i32_w]; rfl)
          refine take_ (i := 3) (N := some 12) (v := ?_) (a' := ?_) #[true, true, true, true, false, true, true, true, false, false] rfl rfl (take_ofW HT_.out HW_.out (by kernel_rfl)) (fun _ _ _ h => h) (Or.inl ⟨by rfl, ?_⟩) hHeld ?_ ?_; rotate_left
          · rintro w' ⟨s0, s1⟩
            go_simp
            with_reducible rfl
          rotate_left; · (simp only [Act.put, sT, sZ, sS, i64_w, i32_w]; rfl)
          refine pure_ (i := 4) (N := some 13) (v := ?_) (a' := ?_) #[true, true, true, true, true, true, true, true, false, false] rfl rfl (any_of HT_.out (by kernel_rfl)) (fun _ _ _ h => h) (Or.inl ⟨by rfl, ?_⟩) ?_ ?_; rotate_left; · (intro w'; go_simp; with_reducible rfl)
          rotate_left; · (simp only [Act.put, sT, sZ, sS, i64_w, i32_w]; rfl)
          refine take_ (i := 8) (N := some 17) (v := ?_) (a' := ?_) #[true, true, true, true, true, true, true, true, true, false] rfl rfl (take_ofW HT_.out HW_.out (by kernel_rfl)) (fun _ _ _ h => h) (Or.inl ⟨by rfl, ?_⟩) hHeld ?_ ?_; rotate_left
          · rintro w' ⟨s0, s1⟩
            go_simp
            with_reducible rfl
          rotate_left; · (simp only [Act.put, sT, sZ, sS, i64_w, i32_w]; rfl)
          refine pure_ (i := 9) (N := some 18) (v := ?_) (a' := ?_) #[true, true, true, true, true, true, true, true, true, true] rfl rfl (any_of HT_.out (by kernel_rfl)) (fun _ _ _ h => h) (Or.inl ⟨by rfl, ?_⟩) ?_ ?_; rotate_left; · (intro w'; go_simp; with_reducible rfl)
          rotate_left; · (simp only [Act.put, sT, sZ, sS, i64_w, i32_w]; rfl)
          refine done_ (done_of HT_.out (by kernel_rfl)) ?_
          try go_wp2
          refine start_ (n := 13) (S := fun w' => w'.cell? ⟨b0, 0, none⟩ = some (.slice As0_0 s0_0.length cs0_0)) (ds := [12]) #[false, false, false, false, false, false, false, false, false, false, false, false, false] (by kernel_rfl) rfl rfl ((((blk_cell (SL.at_ HS.out) 0).trans rfl))) (fun hHeld => ?_); refine with_tabW barrowref26_Box_Put.tab7 barrowref26_Box_Put.bits7 (fun HT_ HW_ => ?_)
          replace HK := Aside0.mk (Keep.drew HK.out)
          replace HS := Aside0.mk (SL.drew HS.out)
          refine pure_ (i := 0) (N := some 25) (v := ?_) (a' := ?_) #[true, false, false, false, false, false, false, false, false, false, false, false, false] rfl rfl (any_of HT_.out (by kernel_rfl)) (fun _ _ _ h => h) (Or.inl ⟨by rfl, ?_⟩) ?_ ?_; rotate_left; · (intro w'; go_simp; with_reducible rfl)
          rotate_left; · (simp only [Act.put, sT, sZ, sS, i64_w, i32_w]; rfl)
          refine pure_ (i := 1) (N := some 26) (v := ?_) (a' := ?_) #[true, true, false, false, false, false, false, false, false, false, false, false, false] rfl rfl (any_of HT_.out (by kernel_rfl)) (fun _ _ _ h => h) (Or.inl ⟨by rfl, ?_⟩) ?_ ?_; rotate_left; · (intro w'; go_simp; with_reducible rfl)
          rotate_left; · (simp only [Act.put, sT, sZ, sS, i64_w, i32_w]; rfl)
          refine pure_ (i := 2) (N := some 27) (v := ?_) (a' := ?_) #[true, true, true, false, false, false, false, false, false, false, false, false, false] rfl rfl (any_of HT_.out (by kernel_rfl)) (fun _ _ _ h => h) (Or.inl ⟨by rfl, ?_⟩) ?_ ?_; rotate_left; · (intro w'; go_simp; with_reducible rfl)
          rotate_left; · (simp only [Act.put, sT, sZ, sS, i64_w, i32_w]; rfl)
          refine pure_ (i := 3) (N := some 28) (v := ?_) (a' := ?_) #[true, true, true, true, false, false, false, false, false, false, false, false, false] rfl rfl (any_of HT_.out (by kernel_rfl)) (fun _ _ _ h => h) (Or.inl ⟨by rfl, ?_⟩) ?_ ?_; rotate_left; · (intro w'; go_simp; with_reducible rfl)
          rotate_left; · (simp only [Act.put, sT, sZ, sS, i64_w, i32_w]; rfl)
          refine pure_ (i := 6) (N := some 31) (v := ?_) (a' := ?_) #[true, true, true, true, false, false, true, false, false, false, false, false, false] rfl rfl (any_of HT_.out (by kernel_rfl)) (fun _ _ _ h => h) (Or.inl ⟨by rfl, ?_⟩) ?_ ?_; rotate_left; · (intro w'; go_simp; with_reducible rfl)
          rotate_left; · (simp only [Act.put, sT, sZ, sS, i64_w, i32_w]; rfl)
          refine take_ (i := 4) (N := some 29) (v := ?_) (a' := ?_) #[true, true, true, true, true, false, true, false, false, false, false, false, false] rfl rfl (take_ofW HT_.out HW_.out (by kernel_rfl)) (fun _ _ _ h => h) (Or.inl ⟨by rfl, ?_⟩) hHeld ?_ ?_; rotate_left
          · intro w' s0
            go_simp
            with_reducible rfl
          rotate_left; · (simp only [Act.put, sT, sZ, sS, i64_w, i32_w]; rfl)
          refine one_ (i := 5) (N := some 30) #[true, true, true, true, true, true, true, false, false, false, false, false, false] rfl rfl (one_of HT_.out (by kernel_rfl)) (by decide) (fun K hK => ?_)
          refine st_of (by rfl) ?_
          refine op_row (S := S) (enc := Value.int .u8) (h1 := fun _ => rfl) 5 y183 #[] 0 (by rw [← Ny183.out]; rfl) (by rw [← Ny183.out]; rfl) (by decide) (HF.out.keep HK.out) HS.out (by first | (go_simp; done) | (go_simp; rfl)) ?_
          intro Az3000017 cz3000017 w7 hs_ hk_
          replace HS := Aside0.mk ((show SL (row (Kd.int .u8) 5 (.slice Az3000017 0 cz3000017) y183 :: _) _ _ from hs_))
          replace HK := Aside0.mk (HK.out.trans hk_)
          refine hK.out _ _ ((((blk_cell (SL.at_ (SL.get1 HS.out)) 0).trans rfl))) (fun hHeld => ?_)
          clear hK K
          refine norm_ (a' := ?_) ?_ ?_; rotate_left
          · show Act.put _ (some 30) _ = _
            simp only [Act.put, sT, sZ, sS, i64_w, i32_w]
            rfl
          refine one_ (i := 7) (N := some 32) #[true, true, true, true, true, true, true, true, false, false, false, false, false] rfl rfl (one_of HT_.out (by kernel_rfl)) (by decide) (fun K hK => ?_)
          refine st_of (by rfl) ?_
          refine op_append (S := S) (enc := Value.int .u8) (h1 := fun _ => rfl) 0 (.tmp 30) (.tmp 31) 32 5 (.int .u8 0) 1 rfl Try.underlying32 info5 rfl (by decide) (.slice Az3000017 0 cz3000017) rfl rfl (HF.out.keep HK.out) HS.out (RO.at_ HR1.out HK.out) (by have := LMc5.out; omega) y184 Ny184.out ?_
          intro A185 c186 w8 hs_ hk_
          replace HS := Aside0.mk ((show SL (row (Kd.int .u8) 5 (.slice A185 y184.length c186) y184 :: _) _ _ from hs_))
          replace HK := Aside0.mk (HK.out.trans hk_)
          refine hK.out _ _ ((((blk_cell (SL.at_ (SL.get1 HS.out)) 0).trans rfl))) (fun hHeld => ?_)
          clear hK K
          refine norm_ (a' := ?_) ?_ ?_; rotate_left
          · show Act.put _ (some 32) _ = _
            simp only [Act.put, sT, sZ, sS, i64_w, i32_w]
            rfl
          refine one_ (i := 8) (N := some 33) #[true, true, true, true, true, true, true, true, true, false, false, false, false] rfl rfl (one_of HT_.out (by kernel_rfl)) (by decide) (fun K hK => ?_)
          refine st_of (by rfl) ?_
          refine op_rowR (K := (inn (Kd.int .u8) 5)) (n := 1) (S := S) 32 y184 [.slice A185 y184.length c186] (HF.out.keep HK.out) HS.out (fun _ _ h_ => ⟨_, rfl, h_⟩) (fun _ h_ => inn_len _ h_) y187 Ny187.out (by first | (go_simp; done) | (go_simp; rfl)) ?_
          intro Az3000018 cz3000018 w9 hs_ hk_
          replace HS := Aside0.mk ((show SL (rows (inn (Kd.int .u8) 5) 1 32 (.slice Az3000018 1 cz3000018) y187 :: _) _ _ from hs_))
          replace HK := Aside0.mk (HK.out.trans hk_)
          refine hK.out _ _ ((((blk_cell (SL.at_ (SL.get1 HS.out)) 0).trans rfl))) (fun hHeld => ?_)
          clear hK K
          refine norm_ (a' := ?_) ?_ ?_; rotate_left
          · show Act.put _ (some 33) _ = _
            simp only [Act.put, sT, sZ, sS, i64_w, i32_w]
            rfl
          refine one_ (i := 9) (N := some 34) #[true, true, true, true, true, true, true, true, true, true, false, false, false] rfl rfl (one_of HT_.out (by kernel_rfl)) (by decide) (fun K hK => ?_)
          have hs2_ := (SL.get2 HS.out)
          have e2_ := (rows_c (d := (Kd.slice 5 (Kd.int .u8))) reads_inn rfl (SL.tail hs2_)).1
          refine st_of (by rfl) ?_
          refine op_appendR (S := S) (.tmp 29) (.tmp 33) 23 32 (.slice none 0 0) 24 rfl Try.underlying23 info32 rfl (by decide) (by decide) (.slice As0_0 s0_0.length cs0_0) rfl rfl (HF.out.keep HK.out) hs2_ (by have := LMc6.out; omega) y188 Ny188.out ?_
          intro A189 c190 w10 hs_ hk_
          clear hs2_ e2_
          replace HS := Aside0.mk ((SL.back1 (show SL (rows (inn (Kd.int .u8) 5) 1 32 (.slice A189 y188.length c190) y188 :: _) _ _ from hs_)))
          replace HK := Aside0.mk (HK.out.trans hk_)
          refine hK.out _ _ ((((blk_cell (SL.at_ HS.out) 0).trans rfl))) (fun hHeld => ?_)
          clear hK K
          refine norm_ (a' := ?_) ?_ ?_; rotate_left
          · show Act.put _ (some 34) _ = _
            simp only [Act.put, sT, sZ, sS, i64_w, i32_w]
            rfl
          refine pure_ (i := 10) (N := some 35) (v := ?_) (a' := ?_) #[true, true, true, true, true, true, true, true, true, true, true, false, false] rfl rfl (any_of HT_.out (by kernel_rfl)) (fun _ _ _ h => h) (Or.inl ⟨by rfl, ?_⟩) ?_ ?_; rotate_left; · (intro w'; go_simp; with_reducible rfl)
          rotate_left; · (simp only [Act.put, sT, sZ, sS, i64_w, i32_w]; rfl)
          refine pure_ (i := 11) (N := some 36) (v := ?_) (a' := ?_) #[true, true, true, true, true, true, true, true, true, true, true, true, false] rfl rfl (any_of HT_.out (by kernel_rfl)) (fun _ _ _ h => h) (Or.inl ⟨by rfl, ?_⟩) ?_ ?_; rotate_left; · (intro w'; go_simp; with_reducible rfl)
          rotate_left; · (simp only [Act.put, sT, sZ, sS, i64_w, i32_w]; rfl)
          refine last_ (i := 12) (N := none) #[true, true, true, true, true, true, true, true, true, true, true, true, true] rfl rfl (one_of HT_.out (by kernel_rfl)) (by decide) (fun K hK => ?_)
          refine st_of (by rfl) ?_
          refine op_store (S := S) 23 (.tmp 36) (.tmp 34) rfl b0 0 (.slice A189 y188.length c190) [.slice A189 y188.length c190] rfl rfl rfl (by kernel_rfl) (by simp [Value.oneCell']) HS.out (by simp) ?_
          intro w11 hs_ hk_
          replace HS := Aside0.mk ((show SL (cells b0 36 [.slice A189 y188.length c190, .int .i64 s0_1, .bool false].toArray :: _) _ _ from hs_))
          replace HK := Aside0.mk (HK.out.trans hk_)
          refine hK.out _ _ ?_
          clear hK K
          refine done_ (done_of HT_.out (by kernel_rfl)) ?_
          try go_wp2
          go_ret
          unfold barrowref26_Box_Put.Post
          exact ⟨A189, c190, by first | rfl | (simp; done) | (simp [*]; done) | (simp at c6b0 ⊢; first | exact c6b0 | (simp [c6b0]; done)), HS.out, HK.out⟩
        · rw [if_neg c6] at H
          exact absurd H (by simp)
      · rw [if_neg c5] at H
        exact absurd H (by simp)

/-! ### barrowref26_Box_Drain: function 12, by hand -/
def barrowref26_Box_Drain.f (a1 : Int) (s0_0 : List (List Int)) (s0_1 : Int) (s0_2 : Bool) : Option (List (List Int) × List (List Int)) := if s0_0.length < 5864062014805 then some (s0_0.take (mn (mx a1 0) s0_0.length).toNat, s0_0.drop (mn (mx a1 0) s0_0.length).toNat) else none
def barrowref26_Box_Drain.Post (b0 : Nat) (s0_1 : Int) (s0_2 : Bool) (r1 : List (List Int)) (r2 : List (List Int)) (S : Nat → Prop) (L : List Asr) (w : World) (e : Ending) (w' : World) : Prop :=
  ∃ (Ar2 : Option Addr) (cr2 : Nat) (Ar1 : Option Addr) (cr1 : Nat), e = .returned (.slice Ar1 r1.length cr1) ∧ SL (cells b0 36 [.slice Ar2 r2.length cr2, .int .i64 s0_1, .bool s0_2].toArray :: rows (inn (Kd.int .u8) 5) 1 32 (.slice Ar2 r2.length cr2) r2 :: rows (inn (Kd.int .u8) 5) 1 32 (.slice Ar1 r1.length cr1) r1 :: L) w' S ∧ Keep S w w'
set_option maxHeartbeats 8000000 in
set_option maxRecDepth 100000 in
theorem barrowref26_Box_Drain.slcalls (a1 : Int) (b0 : Nat) (As0_0 : Option Addr) (cs0_0 : Nat) (s0_0 : List (List Int)) (s0_1 : Int) (s0_2 : Bool) (r1 : List (List Int)) (r2 : List (List Int)) (S : Nat → Prop) (L : List Asr) (w : World) (hf : Fresh S w) (hs : SL (cells b0 36 [.slice As0_0 s0_0.length cs0_0, .int .i64 s0_1, .bool s0_2].toArray :: rows (inn (Kd.int .u8) 5) 1 32 (.slice As0_0 s0_0.length cs0_0) s0_0 :: L) w S) (h : barrowref26_Box_Drain.f a1 s0_0 s0_1 s0_2 = some (r1, r2)) :
    Calls Try.prog 12 #[.pointer (some ⟨b0, 0, none⟩), .int .i64 a1] w (barrowref26_Box_Drain.Post b0 s0_1 s0_2 r1 r2 S L w) := by
  have hu36 := Try.underlying36
  unfold barrowref26_Box_Drain.f at h
  split at h
  rotate_left
  · cases h
  rename_i hlim
  have HL := Aside0.mk hlim
  clear hlim
  obtain ⟨j, hj⟩ : ∃ j, mx a1 0 = j := ⟨_, rfl⟩
  obtain ⟨m, hm⟩ : ∃ m, mn j (s0_0.length : Int) = m := ⟨_, rfl⟩
  rw [hj, hm] at h
  have hj_ : (if a1 < 0 then 0 else a1) = j := hj
  have hm_ : (if (s0_0.length : Int) < j then (s0_0.length : Int) else j) = m := hm
  have hm0 : 0 ≤ m := by
    have : 0 ≤ j := by rw [← hj_]; split <;> omega
    rw [← hm_]; split <;> omega
  have hm1 : m ≤ s0_0.length := by rw [← hm_]; split <;> omega
  simp only [Option.some.injEq, Prod.mk.injEq] at h
  obtain ⟨rfl, rfl⟩ := h
  obtain ⟨css, hl, hs⟩ := rows_open (SL.get1 hs)
  obtain ⟨hx0, hc, hC⟩ := SL.row_c hs
  obtain ⟨Z, hZ⟩ : ∃ Z, List.zipWith (inn (Kd.int .u8) 5) s0_0 css = Z := ⟨_, rfl⟩
  rw [hZ] at hs
  have hs : SL (row (raw 1) 32 (.slice As0_0 s0_0.length cs0_0) css :: cells b0 36 [.slice As0_0 s0_0.length cs0_0, .int .i64 s0_1, .bool s0_2].toArray :: (Z ++ L)) w S := SL.perm (List.Perm.cons _ List.perm_middle) hs
  have HZ := Aside0.mk hZ
  clear hZ
  have HF := Aside0.mk hf
  have HK := Aside0.mk (Keep.refl S w)
  have hb_ := SL.at_ (SL.get1 hs)
  have hz0 := ((blk_cell hb_ 0).trans rfl : _ = some (.slice As0_0 s0_0.length cs0_0))
  clear hb_
  have HS := Aside0.mk hs
  have HLl := Aside0.mk hl
  have HM0 := Aside0.mk hm0
  have HM1 := Aside0.mk hm1
  have q1 : decide (0 ≤ m) = true := decide_eq_true hm0
  have q2 : decide (m ≤ (s0_0.length : Int)) = true := decide_eq_true hm1
  obtain ⟨yt, hyt⟩ : ∃ yt, css.take m.toNat = yt := ⟨_, rfl⟩
  obtain ⟨yd, hyd⟩ : ∃ yd, css.drop m.toNat = yd := ⟨_, rfl⟩
  have HYT := Aside0.mk hyt
  have HYD := Aside0.mk hyd
  obtain ⟨u1, u2, u7, u8⟩ := cut_cap (P := Try.prog) (raw 1) 23 32 .i64 .i64 Try.underlying23 (by kernel_rfl) rfl As0_0 s0_0.length cs0_0 css hl.symm hc m m hm0 (Int.le_refl _) hm1 yt hyt
  obtain ⟨A2, c2, u3, u4, u5, u6⟩ := cut_of (P := Try.prog) (raw 1) 23 32 .i64 .i64 Try.underlying23 (by kernel_rfl) rfl As0_0 s0_0.length cs0_0 css hl.symm hc m hm0 hm1 yd hyd
  have HN : Aside0 (yt.length = (s0_0.take m.toNat).length ∧ yd.length = (s0_0.drop m.toNat).length) := ⟨by rw [← hyt]; simp [hl], by rw [← hyd]; simp [hl]⟩
  have U2 := Aside0.mk u2
  have U5 := Aside0.mk u5
  clear hs hC hl u2 u4 u5 u6 u7 u8 hm0 hm1 hf hyt hyd hj hm hx0 hc
  go_enter Try.func12, Try.ntmps12
  go_wp2_with (first | ((with_reducible refine gate_dst (N := 23) rfl ?_); refine wpList_plain rfl (fun K_ hK_ => ?_); refine op_rowF (S := S) (d := raw 1) (flat_raw 1) 32 [] #[] 0 (Reps.none _ _) rfl (by decide) (HF.out.keep HK.out) HS.out (by first | (go_simp; done) | (go_simp; rfl)) ?_; intro Az cz w1 hs_ hk_; refine hK_ _ _ ?_; clear hK_ K_; replace HS := Aside0.mk hs_; replace HK := Aside0.mk (HK.out.trans hk_); clear hs_ hk_ hz0; have hb_ := SL.at_ (SL.get2 HS.out); have hz3 := ((blk_cell hb_ 0).trans rfl : _ = some (.slice As0_0 s0_0.length cs0_0)); clear hb_) | ((with_reducible refine gate_dst (N := 30) rfl ?_); refine wpList_plain rfl (fun K_ hK_ => ?_); refine op_appendF (S := S) (d := raw 1) (flat_raw 1) (.tmp 23) (.tmp 29) 23 32 (.slice none 0 0) 24 rfl Try.underlying23 info32 rfl (by decide) (by decide) (.slice Az 0 cz) rfl rfl (HF.out.keep HK.out) HS.out (U5.out _ (SL.row_c (SL.get1 HS.out)).2.2) (by have h1_ := HL.out; have h2_ := HN.out.2; rw [List.length_drop] at h2_; simp only [List.length_nil]; omega) yd rfl ?_; intro An cn w2 hs_ hk_; refine hK_ _ _ ?_; clear hK_ K_; replace HS := Aside0.mk hs_; replace HK := Aside0.mk (HK.out.trans hk_); clear hs_ hk_ hz3; have hb_ := SL.at_ (SL.get2 HS.out); have hz4 := ((blk_cell hb_ 0).trans rfl : _ = some (.slice As0_0 s0_0.length cs0_0)); clear hb_) | ((with_reducible refine gate_store (t := 23) (p := 32) (v := (.tmp 30)) rfl ?_); refine wpList_plain rfl (fun K_ hK_ => ?_); refine op_store (S := S) 23 (.tmp 32) (.tmp 30) rfl b0 0 (.slice An yd.length cn) [.slice An yd.length cn] rfl rfl rfl (by kernel_rfl) (by simp [Value.oneCell']) (SL.get2 HS.out) (by simp) ?_; intro w3 hs_ hk_; refine hK_ _ _ ?_; clear hK_ K_; replace HS := Aside0.mk (show SL (cells b0 36 [.slice An yd.length cn, .int .i64 s0_1, .bool s0_2].toArray :: _) _ _ from hs_); replace HK := Aside0.mk (HK.out.trans hk_); clear hs_ hk_))
  go_ret
  obtain ⟨n1, n2⟩ := HN.out
  have h1 := U2.out _ _ _ (SL.get2 HS.out)
  rw [n1, n2] at h1
  obtain ⟨Z1, hZ1⟩ : ∃ Z1, List.zipWith (inn (Kd.int .u8) 5) (s0_0.take m.toNat) yt = Z1 := ⟨_, rfl⟩
  obtain ⟨Z2, hZ3⟩ : ∃ Z2, List.zipWith (inn (Kd.int .u8) 5) (s0_0.drop m.toNat) yd = Z2 := ⟨_, rfl⟩
  have hZ2 : Z = Z1 ++ Z2 := by
    rw [← HZ.out, ← hZ1, ← hZ3, ← List.zipWith_append n1.symm, List.take_append_drop, ← HYT.out, ← HYD.out, List.take_append_drop]
  rw [hZ2] at h1
  obtain ⟨C, hCe⟩ : ∃ C, cells b0 36 [.slice An (s0_0.drop m.toNat).length cn, .int .i64 s0_1, .bool s0_2].toArray = C := ⟨_, rfl⟩
  obtain ⟨R1, hR1⟩ : ∃ R1, row (raw 1) 32 (.slice As0_0 (s0_0.take m.toNat).length m.toNat) yt = R1 := ⟨_, rfl⟩
  obtain ⟨R2, hR2⟩ : ∃ R2, row (raw 1) 32 (.slice An (s0_0.drop m.toNat).length cn) yd = R2 := ⟨_, rfl⟩
  replace h1 : SL (R1 :: C :: R2 :: ((Z1 ++ Z2) ++ L)) w3 S := by rw [← hR1, ← hCe, ← hR2]; exact h1
  have h2 : SL (R2 :: (Z2 ++ (R1 :: (Z1 ++ (C :: L))))) w3 S := SL.perm (by
    have e1 : (R1 :: C :: R2 :: ((Z1 ++ Z2) ++ L)).Perm (R2 :: R1 :: C :: (Z2 ++ (Z1 ++ L))) := by
      refine (List.Perm.cons _ (List.Perm.swap _ _ _)).trans ((List.Perm.swap _ _ _).trans ?_)
      refine List.Perm.cons _ (List.Perm.cons _ (List.Perm.cons _ ?_))
      rw [← List.append_assoc]
      exact List.Perm.append_right _ List.perm_append_comm
    refine e1.trans (List.Perm.cons _ ?_)
    refine List.Perm.trans ?_ (List.perm_middle (l₁ := Z2)).symm
    refine List.Perm.cons _ ?_
    have e2 := (List.perm_middle (a := C) (l₁ := Z2 ++ Z1) (l₂ := L)).symm
    simpa using e2) h1
  have h3 := rows_close (K := inn (Kd.int .u8) 5) (xs := s0_0.drop m.toNat) (by simpa using n2) (by rw [hR2, hZ3]; exact h2)
  obtain ⟨D, hD⟩ : ∃ D, rows (inn (Kd.int .u8) 5) 1 32 (.slice An (s0_0.drop m.toNat).length cn) (s0_0.drop m.toNat) = D := ⟨_, rfl⟩
  rw [hD] at h3
  have h5 : SL (R1 :: (Z1 ++ (D :: C :: L))) w3 S := SL.perm ((List.Perm.swap _ _ _).trans (List.Perm.cons _ List.perm_middle.symm)) h3
  have h4 := rows_close (K := inn (Kd.int .u8) 5) (xs := s0_0.take m.toNat) (by simpa using n1) (by rw [hR1, hZ1]; exact h5)
  refine ⟨An, cn, As0_0, m.toNat, ?_, ?_, HK.out⟩
  · rw [← n1]; rfl
  · rw [hCe, hD]
    exact SL.perm ((List.Perm.swap _ _ _).trans ((List.Perm.cons _ (List.Perm.swap _ _ _)).trans (List.Perm.swap _ _ _))) h4

end Go.Proofs.Ytebllndphechmaa.XOB
