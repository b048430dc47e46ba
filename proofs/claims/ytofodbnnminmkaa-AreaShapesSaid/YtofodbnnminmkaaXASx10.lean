-- Written by xprint.py (a program of this session) for this claim
import Derived.Test.YtofodbnnminmkaaSL5
import Derived.Test.YtofodbnnminmkaaXASx0
import Derived.Test.YtofodbnnminmkaaXASx9
namespace Go.Proofs.Ytofodbnnminmkaa.XAS
open Go.Proofs.YtofodbnnminmkaaV Go.Proofs.YtofodbnnminmkaaS
open Go.RowKit Go.Proofs.YtofodbnnminmkaaW.PrintWords Go.Proofs.YtofodbnnminmkaaW.PrintLast Go.Proofs.YtofodbnnminmkaaW.PrintMore
attribute [local go_sem] max2_int min2_int max_two min_two max_three min_three max_four min_four   -- for this text's walks alone
set_option linter.unusedVariables false
set_option linter.unusedSimpArgs false

/-! ### slices_insertionSortCmpFunc_int_i2: function 71 -/
mutual
def slices_insertionSortCmpFunc_int_i2.l0 : Nat → (List Int) → Int → Int → (List (Int × S26)) → Int → (List Int) → Int → Int → Option (Int × Int × (List Int))
  | 0, _, _, _, _, _, _, _, _ => none
  | k + 1, l0, a1, a2, sm2, x8_0, y200000_0, x0_0_0, x0_1_0 => if x8_0 < a2 then (slices_insertionSortCmpFunc_int_i2.l1 k l0 a1 a2 sm2 x8_0 x8_0 y200000_0 x0_0_0 x0_1_0) else (some (x0_0_0, x0_1_0, y200000_0))
def slices_insertionSortCmpFunc_int_i2.l1 : Nat → (List Int) → Int → Int → (List (Int × S26)) → Int → Int → (List Int) → Int → Int → Option (Int × Int × (List Int))
  | 0, _, _, _, _, _, _, _, _, _ => none
  | k + 1, l0, a1, a2, sm2, x8_0, x9_1, y200000_1, x0_0_1, x0_1_1 => if x9_1 > a1 then (if 0 ≤ x9_1 then (if x9_1 < (l0.length : Int) then ((some (wrap64 (x9_1 - 1) : Int)).bind fun j340 => (if 0 ≤ j340 then (if j340 < (l0.length : Int) then ((area_Nearest_1_i1.f k (rd y200000_1 x9_1) (rd y200000_1 j340) x0_0_1 x0_1_1 sm2).bind fun bt342 => (if bt342.1 < 0 then ((some (y200000_1.set (x9_1).toNat (rd y200000_1 j340) : List Int)).bind fun y348 => ((some (y348.set (j340).toNat (rd y200000_1 x9_1) : List Int)).bind fun y350 => (slices_insertionSortCmpFunc_int_i2.l1 k l0 a1 a2 sm2 x8_0 (wrap64 (x9_1 - 1)) y350 bt342.2.1 bt342.2.2))) else (slices_insertionSortCmpFunc_int_i2.l0 k l0 a1 a2 sm2 (wrap64 (x8_0 + 1)) y200000_1 bt342.2.1 bt342.2.2))) else (none)) else (none))) else (none)) else (none)) else (slices_insertionSortCmpFunc_int_i2.l0 k l0 a1 a2 sm2 (wrap64 (x8_0 + 1)) y200000_1 x0_0_1 x0_1_1)
end
def slices_insertionSortCmpFunc_int_i2.f (k : Nat) (l0 : List Int) (a1 : Int) (a2 : Int) (s0_0 : Int) (s0_1 : Int) (sm2 : List (Int × S26)) : Option (Int × Int × (List Int)) := slices_insertionSortCmpFunc_int_i2.l0 k l0 a1 a2 sm2 (wrap64 (a1 + 1)) l0 s0_0 s0_1
theorem slices_insertionSortCmpFunc_int_i2.mono_l : ∀ k, (∀ y0 y1 y2 y3 y4 y5 y6 y7, LeO (slices_insertionSortCmpFunc_int_i2.l0 k y0 y1 y2 y3 y4 y5 y6 y7) (slices_insertionSortCmpFunc_int_i2.l0 (k + 1) y0 y1 y2 y3 y4 y5 y6 y7)) ∧ (∀ y0 y1 y2 y3 y4 y5 y6 y7 y8, LeO (slices_insertionSortCmpFunc_int_i2.l1 k y0 y1 y2 y3 y4 y5 y6 y7 y8) (slices_insertionSortCmpFunc_int_i2.l1 (k + 1) y0 y1 y2 y3 y4 y5 y6 y7 y8))
  | 0 => ⟨fun _ _ _ _ _ _ _ _ r h => by simp [slices_insertionSortCmpFunc_int_i2.l0] at h, fun _ _ _ _ _ _ _ _ _ r h => by simp [slices_insertionSortCmpFunc_int_i2.l1] at h⟩
  | k + 1 => by
    obtain ⟨ih0, ih1⟩ := slices_insertionSortCmpFunc_int_i2.mono_l k
    refine ⟨?_, ?_⟩
    · intro y0 y1 y2 y3 y4 y5 y6 y7
      unfold slices_insertionSortCmpFunc_int_i2.l0
      repeat' first
      | (with_reducible exact ih0 _ _ _ _ _ _ _ _)
      | (with_reducible exact ih1 _ _ _ _ _ _ _ _ _)
      | (with_reducible exact area_Nearest_1_i1.mono _ _ _ _ _ _)
      | (with_reducible exact LeO.refl _)
      | (with_reducible exact LeO.none _)
      | (with_reducible refine LeO.ite ?_ ?_)
      | (with_reducible refine everyOf_le (fun _ => ?_))
      | (with_reducible refine LeO.bind ?_ (fun _ => ?_))
      | exact ih0 _ _ _ _ _ _ _ _
      | exact ih1 _ _ _ _ _ _ _ _ _
      | exact area_Nearest_1_i1.mono _ _ _ _ _ _
      | exact LeO.none _
      | refine LeO.ite ?_ ?_
      | refine LeO.bind ?_ (fun _ => ?_)
    · intro y0 y1 y2 y3 y4 y5 y6 y7 y8
      unfold slices_insertionSortCmpFunc_int_i2.l1
      repeat' first
      | (with_reducible exact ih0 _ _ _ _ _ _ _ _)
      | (with_reducible exact ih1 _ _ _ _ _ _ _ _ _)
      | (with_reducible exact area_Nearest_1_i1.mono _ _ _ _ _ _)
      | (with_reducible exact LeO.refl _)
      | (with_reducible exact LeO.none _)
      | (with_reducible refine LeO.ite ?_ ?_)
      | (with_reducible refine everyOf_le (fun _ => ?_))
      | (with_reducible refine LeO.bind ?_ (fun _ => ?_))
      | exact ih0 _ _ _ _ _ _ _ _
      | exact ih1 _ _ _ _ _ _ _ _ _
      | exact area_Nearest_1_i1.mono _ _ _ _ _ _
      | exact LeO.none _
      | refine LeO.ite ?_ ?_
      | refine LeO.bind ?_ (fun _ => ?_)
theorem slices_insertionSortCmpFunc_int_i2.mono : ∀ a0 a1 a2 a3 a4 a5 k, LeO (slices_insertionSortCmpFunc_int_i2.f k a0 a1 a2 a3 a4 a5) (slices_insertionSortCmpFunc_int_i2.f (k + 1) a0 a1 a2 a3 a4 a5) := by
  intro a0 a1 a2 a3 a4 a5 k
  obtain ⟨ih0, ih1⟩ := slices_insertionSortCmpFunc_int_i2.mono_l k
  unfold slices_insertionSortCmpFunc_int_i2.f
  repeat' first
      | (with_reducible exact ih0 _ _ _ _ _ _ _ _)
      | (with_reducible exact ih1 _ _ _ _ _ _ _ _ _)
      | (with_reducible exact area_Nearest_1_i1.mono _ _ _ _ _ _)
      | (with_reducible exact LeO.refl _)
      | (with_reducible exact LeO.none _)
      | (with_reducible refine LeO.ite ?_ ?_)
      | (with_reducible refine everyOf_le (fun _ => ?_))
      | (with_reducible refine LeO.bind ?_ (fun _ => ?_))
      | exact ih0 _ _ _ _ _ _ _ _
      | exact ih1 _ _ _ _ _ _ _ _ _
      | exact area_Nearest_1_i1.mono _ _ _ _ _ _
      | exact LeO.none _
      | refine LeO.ite ?_ ?_
      | refine LeO.bind ?_ (fun _ => ?_)
def slices_insertionSortCmpFunc_int_i2.T4 : Bool × List (List Nat × List Nat) := (true, [([], []), ([], []), ([0, 1], [0, 1]), ([2], [2]), ([3], [3]), ([3], [3]), ([3], [3]), ([5, 6, 3], [3, 5, 6]), ([7, 3], [3, 7]), ([3], [3]), ([3], [3]), ([10, 3], [3, 10]), ([9, 11, 3], [3, 9, 11]), ([12, 3], [3, 12]), ([4, 8, 13, 3, 3], [3, 4, 8, 13]), ([14, 3], [3, 14]), ([3, 15], [3, 15])])
def slices_insertionSortCmpFunc_int_i2.B4 : List Nat := [0, 0, 3, 7, 15, 15, 15, 111, 239, 15, 15, 1039, 3599, 7695, 16383, 32767, 65535]
theorem slices_insertionSortCmpFunc_int_i2.tab4 : rtab .any (opsOf Try.f71 4) = slices_insertionSortCmpFunc_int_i2.T4 := by kernel_rfl
theorem slices_insertionSortCmpFunc_int_i2.bits4 : waitsOk slices_insertionSortCmpFunc_int_i2.T4.2 slices_insertionSortCmpFunc_int_i2.B4 = true := by kernel_rfl
def slices_insertionSortCmpFunc_int_i2.T6 : Bool × List (List Nat × List Nat) := (true, [([], []), ([], []), ([], []), ([], []), ([3], [3]), ([], []), ([], []), ([6], [6]), ([5, 7], [5, 7]), ([8], [8]), ([], []), ([], []), ([10, 11], [10, 11]), ([12], [12]), ([0, 1, 0, 1, 5, 6, 7, 8, 9, 13], [0, 1]), ([14, 9, 0, 1, 5, 6, 7, 8, 9, 13], [9, 14]), ([2, 4, 0, 1, 2, 3, 4, 5, 6, 7, 8, 9, 10, 11, 12, 13, 14, 15], [2, 4]), ([16, 13, 15, 0, 1, 2, 3, 4, 5, 6, 7, 8, 9, 10, 11, 12, 13, 14, 15], [13, 16])])
def slices_insertionSortCmpFunc_int_i2.B6 : List Nat := [0, 0, 0, 0, 8, 0, 0, 64, 224, 480, 0, 0, 3072, 7168, 16355, 32739, 65535, 131071]
theorem slices_insertionSortCmpFunc_int_i2.tab6 : rtab .any (opsOf Try.f71 6) = slices_insertionSortCmpFunc_int_i2.T6 := by kernel_rfl
theorem slices_insertionSortCmpFunc_int_i2.bits6 : waitsOk slices_insertionSortCmpFunc_int_i2.T6.2 slices_insertionSortCmpFunc_int_i2.B6 = true := by kernel_rfl
def slices_insertionSortCmpFunc_int_i2.Post (A0 : Option Addr) (c0 : Nat) (l0 : List Int) (b0 : Nat) (b1 : Nat) (b2 : Nat) (bs2 : List Nat) (ck2 : Nat) (sm2 : List (Int × S26)) (r1 : Int) (r2 : Int) (r3 : List Int) (S : Nat → Prop) (L : List Asr) (w : World) (e : Ending) (w' : World) : Prop := e = .returned (.tuple #[]) ∧ SL (cells b0 26 [.int .i64 r1, .int .i64 r2].toArray :: cells b1 55 [.map (some b2)].toArray :: mapo b2 (Value.int .i64) (fun x_ : S26 => Value.agg #[.int .i64 x_.f0, .int .i64 x_.f1]) sm2 bs2 ck2 :: row (Kd.int .i64) 3 (.slice A0 l0.length c0) r3 :: L) w' S ∧ Keep S w w'
set_option maxHeartbeats 8000000 in
set_option maxRecDepth 100000 in
theorem slices_insertionSortCmpFunc_int_i2.slcalls (k : Nat) (A0 : Option Addr) (c0 : Nat) (l0 : List Int) (a1 : Int) (a2 : Int) (b0 : Nat) (s0_0 : Int) (s0_1 : Int) (b1 : Nat) (b2 : Nat) (bs2 : List Nat) (ck2 : Nat) (sm2 : List (Int × S26)) (r1 : Int) (r2 : Int) (r3 : List Int) (S : Nat → Prop) (L : List Asr) (w : World) (hf : Fresh S w) (hs : SL (cells b0 26 [.int .i64 s0_0, .int .i64 s0_1].toArray :: cells b1 55 [.map (some b2)].toArray :: mapo b2 (Value.int .i64) (fun x_ : S26 => Value.agg #[.int .i64 x_.f0, .int .i64 x_.f1]) sm2 bs2 ck2 :: row (Kd.int .i64) 3 (.slice A0 l0.length c0) l0 :: L) w S) (h : slices_insertionSortCmpFunc_int_i2.f k l0 a1 a2 s0_0 s0_1 sm2 = some (r1, r2, r3)) :
    Calls Try.prog 71 #[.slice A0 l0.length c0, .int .i64 a1, .int .i64 a2, .func (.func 37) #[] #[.pointer (some ⟨b0, 0, none⟩), .pointer (some ⟨b1, 0, none⟩)]] w (slices_insertionSortCmpFunc_int_i2.Post A0 c0 l0 b0 b1 b2 bs2 ck2 sm2 r1 r2 r3 S L w) := by
  have HF := Aside0.mk hf
  have HS := Aside0.mk hs
  have HK := Aside0.mk (Keep.refl S w)
  clear hf hs
  have H : (slices_insertionSortCmpFunc_int_i2.l0 k l0 a1 a2 sm2 (wrap64 (a1 + 1)) l0 s0_0 s0_1) = some (r1, r2, r3) := h
  clear h
  have H' := Aside0.mk H
  clear H
  go_enter Try.func71, Try.ntmps71
  go_wp2
  go_loopg [8] k (fun kq v8 w' => ∃ (x0_0_0 : Int) (x0_1_0 : Int) (y200000_0 : List Int) (x8_0 : Int), v8 = .int .i64 x8_0 ∧ Aside0 (slices_insertionSortCmpFunc_int_i2.l0 kq l0 a1 a2 sm2 x8_0 y200000_0 x0_0_0 x0_1_0 = some (r1, r2, r3)) ∧ Aside0 (kq ≤ k) ∧ Aside0 (SL (cells b0 26 [.int .i64 x0_0_0, .int .i64 x0_1_0].toArray :: cells b1 55 [.map (some b2)].toArray :: mapo b2 (Value.int .i64) (fun x_ : S26 => Value.agg #[.int .i64 x_.f0, .int .i64 x_.f1]) sm2 bs2 ck2 :: row (Kd.int .i64) 3 (.slice A0 l0.length c0) y200000_0 :: L) w' S) ∧ Aside0 (Keep S w w'))
  case atStart => exact ⟨(s0_0), (s0_1), (l0), (wrap64 (a1 + 1)), (by first | rfl | (simp; done) | (simp [*]; done)), H', ⟨Nat.le_refl _⟩, HS, HK⟩
  case round =>
    clear H' HS HK
    obtain ⟨x0_0_0, x0_1_0, y200000_0, x8_0, rfl, HA, HQ1, HS, HK⟩ := hrel
    cases gk with
    | zero => exact absurd HA.out (by simp [slices_insertionSortCmpFunc_int_i2.l0])
    | succ k1 =>
      have H := HA.out
      clear HA
      simp only [slices_insertionSortCmpFunc_int_i2.l0] at H
      by_cases c1 : x8_0 < a2
      · rw [if_pos c1] at H
        have c1b0 : decide (x8_0 < a2) = true := decide_eq_true c1
        clear c1
        have H' := Aside0.mk H
        clear H
        go_wp2
        go_loopg [9] k1 (fun kq v9 w' => ∃ (x0_0_1 : Int) (x0_1_1 : Int) (y200000_1 : List Int) (x9_1 : Int), v9 = .int .i64 x9_1 ∧ Aside0 (slices_insertionSortCmpFunc_int_i2.l1 kq l0 a1 a2 sm2 x8_0 x9_1 y200000_1 x0_0_1 x0_1_1 = some (r1, r2, r3)) ∧ Aside0 (kq ≤ k1) ∧ Aside0 (SL (cells b0 26 [.int .i64 x0_0_1, .int .i64 x0_1_1].toArray :: cells b1 55 [.map (some b2)].toArray :: mapo b2 (Value.int .i64) (fun x_ : S26 => Value.agg #[.int .i64 x_.f0, .int .i64 x_.f1]) sm2 bs2 ck2 :: row (Kd.int .i64) 3 (.slice A0 l0.length c0) y200000_1 :: L) w' S) ∧ Aside0 (Keep S w w'))
        case atStart => exact ⟨(x0_0_0), (x0_1_0), (y200000_0), (x8_0), (by first | rfl | (simp; done) | (simp [*]; done)), H', ⟨Nat.le_refl _⟩, HS, HK⟩
        case round =>
          clear H' HS HK
          obtain ⟨x0_0_1, x0_1_1, y200000_1, x9_1, rfl, HA, HQ2, HS, HK⟩ := hrel
          cases gk with
          | zero => exact absurd HA.out (by simp [slices_insertionSortCmpFunc_int_i2.l1])
          | succ k2 =>
            have H := HA.out
            clear HA
            simp only [slices_insertionSortCmpFunc_int_i2.l1] at H
            by_cases c2 : x9_1 > a1
            · rw [if_pos c2] at H
              have c2b0 : decide (a1 < x9_1) = true := decide_eq_true c2
              clear c2
              by_cases c3 : 0 ≤ x9_1
              · rw [if_pos c3] at H
                have c3b0 : decide (0 ≤ x9_1) = true := decide_eq_true c3
                clear c3
                by_cases c4 : x9_1 < (l0.length : Int)
                · rw [if_pos c4] at H
                  have c4b0 : decide (x9_1 < (l0.length : Int)) = true := decide_eq_true c4
                  clear c4
                  replace H := Option.bind_eq_some_iff.1 H
                  obtain ⟨j340, hj3400, H⟩ := H
                  try dsimp only at H
                  have hj340 := Option.some.inj hj3400
                  clear hj3400
                  have hj340w : (IntKind.i64.wrap (x9_1 - 1)) = j340 := (i64_w _).trans hj340
                  by_cases c5 : 0 ≤ j340
                  · rw [if_pos c5] at H
                    have c5b0 : decide (0 ≤ j340) = true := decide_eq_true c5
                    clear c5
                    by_cases c6 : j340 < (l0.length : Int)
                    · rw [if_pos c6] at H
                      have c6b0 : decide (j340 < (l0.length : Int)) = true := decide_eq_true c6
                      clear c6
                      replace H := Option.bind_eq_some_iff.1 H
                      obtain ⟨⟨t342, t343, t344⟩, Hc70, H⟩ := H
                      try dsimp only at H
                      have Hc7 := Aside0.mk Hc70
                      clear Hc70
                      by_cases c8 : t342 < 0
                      · rw [if_pos c8] at H
                        have c8b0 : decide (t342 < 0) = true := decide_eq_true c8
                        clear c8
                        replace H := Option.bind_eq_some_iff.1 H
                        obtain ⟨y348, hy3480, H⟩ := H
                        try dsimp only at H
                        have hy348 := Option.some.inj hy3480
                        clear hy3480
                        have Ny348 := Aside0.mk hy348
                        clear hy348
                        replace H := Option.bind_eq_some_iff.1 H
                        obtain ⟨y350, hy3500, H⟩ := H
                        try dsimp only at H
                        have hy350 := Option.some.inj hy3500
                        clear hy3500
                        have Ny350 := Aside0.mk hy350
                        clear hy350
                        have H' := Aside0.mk H
                        clear H
                        try go_wp2
                        have pq339 : 0 ≤ (x9_1 : Int) := of_decide_eq_true (by first | (with_reducible assumption) | assumption)
                        have qq339 : x9_1 < ((l0.length : Int) : Int) := of_decide_eq_true (by first | (with_reducible assumption) | assumption)
                        obtain ⟨adq339, eq339, hxq339_0⟩ := Kd.at_int (SL.row_c (SL.get3 HS.out)).2.2 x9_1 pq339 qq339
                        cases eq339
                        replace pq339 := eq_true pq339
                        replace qq339 := eq_true qq339
                        have pq341 : 0 ≤ (j340 : Int) := of_decide_eq_true (by first | (with_reducible assumption) | assumption)
                        have qq341 : j340 < ((l0.length : Int) : Int) := of_decide_eq_true (by first | (with_reducible assumption) | assumption)
                        obtain ⟨adq341, eq341, hxq341_0⟩ := Kd.at_int (SL.row_c (SL.get3 HS.out)).2.2 j340 pq341 qq341
                        obtain rfl : adq339 = adq341 := (by injection eq341)
                        replace pq341 := eq_true pq341
                        replace qq341 := eq_true qq341
                        refine start_ (n := 17) (S := fun w' => w'.cell? (adq339.add x9_1.toNat) = some (.int .i64 (rd y200000_1 x9_1)) ∧ w'.cell? (adq339.add j340.toNat) = some (.int .i64 (rd y200000_1 j340))) (ds := []) #[false, false, false, false, false, false, false, false, false, false, false, false, false, false, false, false, false] (by kernel_rfl) rfl rfl ⟨(SL.cell_int (SL.get3 HS.out) x9_1 (of_eq_true pq339) (of_eq_true qq339)), (SL.cell_int (SL.get3 HS.out) j340 (of_eq_true pq341) (of_eq_true qq341))⟩ (fun hHeld => ?_); refine with_tabW slices_insertionSortCmpFunc_int_i2.tab4 slices_insertionSortCmpFunc_int_i2.bits4 (fun HT_ HW_ => ?_)
                        replace HK := Aside0.mk (Keep.drew HK.out)
                        replace HS := Aside0.mk (SL.drew HS.out)
                        refine pure_ (i := 0) (N := some 18) (v := ?_) (a' := ?_) #[true, false, false, false, false, false, false, false, false, false, false, false, false, false, false, false, false] rfl rfl (any_of HT_.out (by kernel_rfl)) (fun _ _ _ h => h) (Or.inl ⟨by rfl, ?_⟩) ?_ ?_; rotate_left; · (intro w'; go_simp; with_reducible rfl)
                        rotate_left; · (simp only [Act.put, sT, sZ, sS, i64_w, i32_w]; rfl)
                        refine pure_ (i := 1) (N := some 19) (v := ?_) (a' := ?_) #[true, true, false, false, false, false, false, false, false, false, false, false, false, false, false, false, false] rfl rfl (any_of HT_.out (by kernel_rfl)) (fun _ _ _ h => h) (Or.inl ⟨by rfl, ?_⟩) ?_ ?_; rotate_left; · (intro w'; go_simp; with_reducible rfl)
                        rotate_left; · (simp only [Act.put, sT, sZ, sS, i64_w, i32_w]; rfl)
                        refine pure_ (i := 2) (N := some 20) (v := ?_) (a' := ?_) #[true, true, true, false, false, false, false, false, false, false, false, false, false, false, false, false, false] rfl rfl (any_of HT_.out (by kernel_rfl)) (fun _ _ _ h => h) (Or.inl ⟨by rfl, ?_⟩) ?_ ?_; rotate_left; · (intro w'; go_simp; with_reducible rfl)
                        rotate_left; · (simp only [Act.put, sT, sZ, sS, i64_w, i32_w]; rfl)
                        refine pure_ (i := 3) (N := some 21) (v := ?_) (a' := ?_) #[true, true, true, true, false, false, false, false, false, false, false, false, false, false, false, false, false] rfl rfl (any_of HT_.out (by kernel_rfl)) (fun _ _ _ h => h) (Or.inl ⟨by rfl, ?_⟩) ?_ ?_; rotate_left; · (intro w'; go_simp; with_reducible rfl)
                        rotate_left; · (simp only [Act.put, sT, sZ, sS, i64_w, i32_w]; rfl)
                        refine pure_ (i := 4) (N := some 22) (v := ?_) (a' := ?_) #[true, true, true, true, true, false, false, false, false, false, false, false, false, false, false, false, false] rfl rfl (any_of HT_.out (by kernel_rfl)) (fun _ _ _ h => h) (Or.inl ⟨by rfl, ?_⟩) ?_ ?_; rotate_left; · (intro w'; go_simp; with_reducible rfl)
                        rotate_left; · (simp only [Act.put, sT, sZ, sS, i64_w, i32_w]; rfl)
                        refine pure_ (i := 5) (N := some 23) (v := ?_) (a' := ?_) #[true, true, true, true, true, true, false, false, false, false, false, false, false, false, false, false, false] rfl rfl (any_of HT_.out (by kernel_rfl)) (fun _ _ _ h => h) (Or.inl ⟨by rfl, ?_⟩) ?_ ?_; rotate_left; · (intro w'; go_simp; with_reducible rfl)
                        rotate_left; · (simp only [Act.put, sT, sZ, sS, i64_w, i32_w]; rfl)
                        refine pure_ (i := 6) (N := some 24) (v := ?_) (a' := ?_) #[true, true, true, true, true, true, true, false, false, false, false, false, false, false, false, false, false] rfl rfl (any_of HT_.out (by kernel_rfl)) (fun _ _ _ h => h) (Or.inl ⟨by rfl, ?_⟩) ?_ ?_; rotate_left; · (intro w'; go_simp; with_reducible rfl)
                        rotate_left; · (simp only [Act.put, sT, sZ, sS, i64_w, i32_w]; rfl)
                        refine pure_ (i := 7) (N := some 25) (v := ?_) (a' := ?_) #[true, true, true, true, true, true, true, true, false, false, false, false, false, false, false, false, false] rfl rfl (any_of HT_.out (by kernel_rfl)) (fun _ _ _ h => h) (Or.inl ⟨by rfl, ?_⟩) ?_ ?_; rotate_left; · (intro w'; go_simp; with_reducible rfl)
                        rotate_left; · (simp only [Act.put, sT, sZ, sS, i64_w, i32_w]; rfl)
                        refine pure_ (i := 9) (N := some 27) (v := ?_) (a' := ?_) #[true, true, true, true, true, true, true, true, false, true, false, false, false, false, false, false, false] rfl rfl (any_of HT_.out (by kernel_rfl)) (fun _ _ _ h => h) (Or.inl ⟨by rfl, ?_⟩) ?_ ?_; rotate_left; · (intro w'; go_simp; with_reducible rfl)
                        rotate_left; · (simp only [Act.put, sT, sZ, sS, i64_w, i32_w]; rfl)
                        refine pure_ (i := 10) (N := some 28) (v := ?_) (a' := ?_) #[true, true, true, true, true, true, true, true, false, true, true, false, false, false, false, false, false] rfl rfl (any_of HT_.out (by kernel_rfl)) (fun _ _ _ h => h) (Or.inl ⟨by rfl, ?_⟩) ?_ ?_; rotate_left; · (intro w'; go_simp; with_reducible rfl)
                        rotate_left; · (simp only [Act.put, sT, sZ, sS, i64_w, i32_w]; rfl)
                        refine pure_ (i := 11) (N := some 29) (v := ?_) (a' := ?_) #[true, true, true, true, true, true, true, true, false, true, true, true, false, false, false, false, false] rfl rfl (any_of HT_.out (by kernel_rfl)) (fun _ _ _ h => h) (Or.inl ⟨by rfl, ?_⟩) ?_ ?_; rotate_left; · (intro w'; go_simp; with_reducible rfl)
                        rotate_left; · (simp only [Act.put, sT, sZ, sS, i64_w, i32_w]; rfl)
                        refine pure_ (i := 12) (N := some 30) (v := ?_) (a' := ?_) #[true, true, true, true, true, true, true, true, false, true, true, true, true, false, false, false, false] rfl rfl (any_of HT_.out (by kernel_rfl)) (fun _ _ _ h => h) (Or.inl ⟨by rfl, ?_⟩) ?_ ?_; rotate_left; · (intro w'; go_simp; with_reducible rfl)
                        rotate_left; · (simp only [Act.put, sT, sZ, sS, i64_w, i32_w]; rfl)
                        refine take_ (i := 8) (N := some 26) (v := ?_) (a' := ?_) #[true, true, true, true, true, true, true, true, true, true, true, true, true, false, false, false, false] rfl rfl (take_ofW HT_.out HW_.out (by kernel_rfl)) (fun _ _ _ h => h) (Or.inl ⟨by rfl, ?_⟩) hHeld ?_ ?_; rotate_left
                        · rintro w' ⟨s0, s1⟩
                          go_simp
                          with_reducible rfl
                        rotate_left; · (simp only [Act.put, sT, sZ, sS, i64_w, i32_w]; rfl)
                        refine take_ (i := 13) (N := some 31) (v := ?_) (a' := ?_) #[true, true, true, true, true, true, true, true, true, true, true, true, true, true, false, false, false] rfl rfl (take_ofW HT_.out HW_.out (by kernel_rfl)) (fun _ _ _ h => h) (Or.inl ⟨by rfl, ?_⟩) hHeld ?_ ?_; rotate_left
                        · rintro w' ⟨s0, s1⟩
                          go_simp
                          with_reducible rfl
                        rotate_left; · (simp only [Act.put, sT, sZ, sS, i64_w, i32_w]; rfl)
                        refine one_ (i := 14) (N := some 32) #[true, true, true, true, true, true, true, true, true, true, true, true, true, true, true, false, false] rfl rfl (one_of HT_.out (by kernel_rfl)) (by decide) (fun K hK => ?_)
                        refine goesc_ Try.func37 (by kernel_rfl) rfl #[.int .i64 (rd y200000_1 x9_1), .int .i64 (rd y200000_1 j340), .pointer (some ⟨b0, 0, none⟩), .pointer (some ⟨b1, 0, none⟩)] (by rfl) rfl rfl (by with_unfolding_all rfl) (by (try simp only [List.map_toArray, List.map_cons, List.map_nil]); first | done | rfl | (simp; done)) ?_
                        have hs0_ := (SL.get2 (SL.get2 (SL.get2 HS.out)))
                        (with_reducible refine (area_Nearest_1_i1.slcalls k2 _ _ _ _ _ _ _ _ _ _ _ _ _ _ _ _ (HF.out.keep HK.out) hs0_  Hc7.out).mono ?_)
                        rintro e_ w9 ⟨rfl, hsr_, hkr_⟩
                        refine ⟨_, rfl, ?_⟩
                        replace HS := Aside0.mk (hsr_)
                        replace HK := Aside0.mk (HK.out.trans hkr_)
                        refine hK.out _ _ ⟨(SL.cell_int (SL.get3 HS.out) x9_1 (of_eq_true pq339) (of_eq_true qq339)), (SL.cell_int (SL.get3 HS.out) j340 (of_eq_true pq341) (of_eq_true qq341))⟩ (fun hHeld => ?_)
                        clear hK K
                        refine norm_ (a' := ?_) ?_ ?_; rotate_left
                        · show Act.put _ (some 32) _ = _
                          simp only [Act.put, sT, sZ, sS, i64_w, i32_w]
                          rfl
                        refine pure_ (i := 15) (N := some 33) (v := ?_) (a' := ?_) #[true, true, true, true, true, true, true, true, true, true, true, true, true, true, true, true, false] rfl rfl (any_of HT_.out (by kernel_rfl)) (fun _ _ _ h => h) (Or.inl ⟨by rfl, ?_⟩) ?_ ?_; rotate_left; · (intro w'; go_simp; with_reducible rfl)
                        rotate_left; · (simp only [Act.put, sT, sZ, sS, i64_w, i32_w]; rfl)
                        refine pure_ (i := 16) (N := some 34) (v := ?_) (a' := ?_) #[true, true, true, true, true, true, true, true, true, true, true, true, true, true, true, true, true] rfl rfl (any_of HT_.out (by kernel_rfl)) (fun _ _ _ h => h) (Or.inl ⟨by rfl, ?_⟩) ?_ ?_; rotate_left; · (intro w'; go_simp; with_reducible rfl)
                        rotate_left; · (simp only [Act.put, sT, sZ, sS, i64_w, i32_w]; rfl)
                        refine done_ (done_of HT_.out (by kernel_rfl)) ?_
                        try go_wp2
                        have pq345 : 0 ≤ (j340 : Int) := of_decide_eq_true (by first | (with_reducible assumption) | assumption)
                        have qq345 : j340 < ((l0.length : Int) : Int) := of_decide_eq_true (by first | (with_reducible assumption) | assumption)
                        obtain ⟨adq345, eq345, hxq345_0⟩ := Kd.at_int (SL.row_c (SL.get3 HS.out)).2.2 j340 pq345 qq345
                        obtain rfl : adq339 = adq345 := (by injection eq345)
                        replace pq345 := eq_true pq345
                        replace qq345 := eq_true qq345
                        have pq346 : 0 ≤ (x9_1 : Int) := of_decide_eq_true (by first | (with_reducible assumption) | assumption)
                        have qq346 : x9_1 < ((l0.length : Int) : Int) := of_decide_eq_true (by first | (with_reducible assumption) | assumption)
                        obtain ⟨adq346, eq346, hxq346_0⟩ := Kd.at_int (SL.row_c (SL.get3 HS.out)).2.2 x9_1 pq346 qq346
                        obtain rfl : adq339 = adq346 := (by injection eq346)
                        replace pq346 := eq_true pq346
                        replace qq346 := eq_true qq346
                        have pq347 : 0 ≤ (x9_1 : Int) := of_decide_eq_true (by first | (with_reducible assumption) | assumption)
                        have qq347 : x9_1 < ((l0.length : Int) : Int) := of_decide_eq_true (by first | (with_reducible assumption) | assumption)
                        obtain ⟨adq347, eq347, hxq347_0⟩ := Kd.at_int (SL.row_c (SL.get3 HS.out)).2.2 x9_1 pq347 qq347
                        obtain rfl : adq339 = adq347 := (by injection eq347)
                        replace pq347 := eq_true pq347
                        replace qq347 := eq_true qq347
                        have pq349 : 0 ≤ (j340 : Int) := of_decide_eq_true (by first | (with_reducible assumption) | assumption)
                        have qq349 : j340 < ((l0.length : Int) : Int) := of_decide_eq_true (by first | (with_reducible assumption) | assumption)
                        obtain ⟨adq349, eq349, hxq349_0⟩ := Kd.at_int (SL.row_c (SL.get3 HS.out)).2.2 j340 pq349 qq349
                        obtain rfl : adq339 = adq349 := (by injection eq349)
                        replace pq349 := eq_true pq349
                        replace qq349 := eq_true qq349
                        refine start_ (n := 18) (S := fun w' => w'.cell? (adq339.add j340.toNat) = some (.int .i64 (rd y200000_1 j340)) ∧ w'.cell? (adq339.add x9_1.toNat) = some (.int .i64 (rd y200000_1 x9_1)) ∧ w'.cell? (adq339.add x9_1.toNat) = some (.int .i64 (rd y200000_1 x9_1))) (ds := [15, 17]) #[false, false, false, false, false, false, false, false, false, false, false, false, false, false, false, false, false, false] (by kernel_rfl) rfl rfl ⟨(SL.cell_int (SL.get3 HS.out) j340 (of_eq_true pq345) (of_eq_true qq345)), (SL.cell_int (SL.get3 HS.out) x9_1 (of_eq_true pq346) (of_eq_true qq346)), (SL.cell_int (SL.get3 HS.out) x9_1 (of_eq_true pq347) (of_eq_true qq347))⟩ (fun hHeld => ?_); refine with_tabW slices_insertionSortCmpFunc_int_i2.tab6 slices_insertionSortCmpFunc_int_i2.bits6 (fun HT_ HW_ => ?_)
                        replace HK := Aside0.mk (Keep.drew HK.out)
                        replace HS := Aside0.mk (SL.drew HS.out)
                        refine pure_ (i := 0) (N := some 37) (v := ?_) (a' := ?_) #[true, false, false, false, false, false, false, false, false, false, false, false, false, false, false, false, false, false] rfl rfl (any_of HT_.out (by kernel_rfl)) (fun _ _ _ h => h) (Or.inl ⟨by rfl, ?_⟩) ?_ ?_; rotate_left; · (intro w'; go_simp; with_reducible rfl)
                        rotate_left; · (simp only [Act.put, sT, sZ, sS, i64_w, i32_w]; rfl)
                        refine pure_ (i := 1) (N := some 38) (v := ?_) (a' := ?_) #[true, true, false, false, false, false, false, false, false, false, false, false, false, false, false, false, false, false] rfl rfl (any_of HT_.out (by kernel_rfl)) (fun _ _ _ h => h) (Or.inl ⟨by rfl, ?_⟩) ?_ ?_; rotate_left; · (intro w'; go_simp; with_reducible rfl)
                        rotate_left; · (simp only [Act.put, sT, sZ, sS, i64_w, i32_w]; rfl)
                        refine pure_ (i := 2) (N := some 39) (v := ?_) (a' := ?_) #[true, true, true, false, false, false, false, false, false, false, false, false, false, false, false, false, false, false] rfl rfl (any_of HT_.out (by kernel_rfl)) (fun _ _ _ h => h) (Or.inl ⟨by rfl, ?_⟩) ?_ ?_; rotate_left; · (intro w'; go_simp; with_reducible rfl)
                        rotate_left; · (simp only [Act.put, sT, sZ, sS, i64_w, i32_w]; rfl)
                        refine pure_ (i := 3) (N := some 40) (v := ?_) (a' := ?_) #[true, true, true, true, false, false, false, false, false, false, false, false, false, false, false, false, false, false] rfl rfl (any_of HT_.out (by kernel_rfl)) (fun _ _ _ h => h) (Or.inl ⟨by rfl, ?_⟩) ?_ ?_; rotate_left; · (intro w'; go_simp; with_reducible rfl)
                        rotate_left; · (simp only [Act.put, sT, sZ, sS, i64_w, i32_w]; rfl)
                        refine pure_ (i := 4) (N := some 41) (v := ?_) (a' := ?_) #[true, true, true, true, true, false, false, false, false, false, false, false, false, false, false, false, false, false] rfl rfl (any_of HT_.out (by kernel_rfl)) (fun _ _ _ h => h) (Or.inl ⟨by rfl, ?_⟩) ?_ ?_; rotate_left; · (intro w'; go_simp; with_reducible rfl)
                        rotate_left; · (simp only [Act.put, sT, sZ, sS, i64_w, i32_w]; rfl)
                        refine pure_ (i := 5) (N := some 42) (v := ?_) (a' := ?_) #[true, true, true, true, true, true, false, false, false, false, false, false, false, false, false, false, false, false] rfl rfl (any_of HT_.out (by kernel_rfl)) (fun _ _ _ h => h) (Or.inl ⟨by rfl, ?_⟩) ?_ ?_; rotate_left; · (intro w'; go_simp; with_reducible rfl)
                        rotate_left; · (simp only [Act.put, sT, sZ, sS, i64_w, i32_w]; rfl)
                        refine pure_ (i := 6) (N := some 43) (v := ?_) (a' := ?_) #[true, true, true, true, true, true, true, false, false, false, false, false, false, false, false, false, false, false] rfl rfl (any_of HT_.out (by kernel_rfl)) (fun _ _ _ h => h) (Or.inl ⟨by rfl, ?_⟩) ?_ ?_; rotate_left; · (intro w'; go_simp; with_reducible rfl)
                        rotate_left; · (simp only [Act.put, sT, sZ, sS, i64_w, i32_w]; rfl)
                        refine pure_ (i := 7) (N := some 44) (v := ?_) (a' := ?_) #[true, true, true, true, true, true, true, true, false, false, false, false, false, false, false, false, false, false] rfl rfl (any_of HT_.out (by kernel_rfl)) (fun _ _ _ h => h) (Or.inl ⟨by rfl, ?_⟩) ?_ ?_; rotate_left; · (intro w'; go_simp; with_reducible rfl)
                        rotate_left; · (simp only [Act.put, sT, sZ, sS, i64_w, i32_w]; rfl)
                        refine pure_ (i := 8) (N := some 45) (v := ?_) (a' := ?_) #[true, true, true, true, true, true, true, true, true, false, false, false, false, false, false, false, false, false] rfl rfl (any_of HT_.out (by kernel_rfl)) (fun _ _ _ h => h) (Or.inl ⟨by rfl, ?_⟩) ?_ ?_; rotate_left; · (intro w'; go_simp; with_reducible rfl)
                        rotate_left; · (simp only [Act.put, sT, sZ, sS, i64_w, i32_w]; rfl)
                        refine pure_ (i := 10) (N := some 47) (v := ?_) (a' := ?_) #[true, true, true, true, true, true, true, true, true, false, true, false, false, false, false, false, false, false] rfl rfl (any_of HT_.out (by kernel_rfl)) (fun _ _ _ h => h) (Or.inl ⟨by rfl, ?_⟩) ?_ ?_; rotate_left; · (intro w'; go_simp; with_reducible rfl)
                        rotate_left; · (simp only [Act.put, sT, sZ, sS, i64_w, i32_w]; rfl)
                        refine pure_ (i := 11) (N := some 48) (v := ?_) (a' := ?_) #[true, true, true, true, true, true, true, true, true, false, true, true, false, false, false, false, false, false] rfl rfl (any_of HT_.out (by kernel_rfl)) (fun _ _ _ h => h) (Or.inl ⟨by rfl, ?_⟩) ?_ ?_; rotate_left; · (intro w'; go_simp; with_reducible rfl)
                        rotate_left; · (simp only [Act.put, sT, sZ, sS, i64_w, i32_w]; rfl)
                        refine pure_ (i := 12) (N := some 49) (v := ?_) (a' := ?_) #[true, true, true, true, true, true, true, true, true, false, true, true, true, false, false, false, false, false] rfl rfl (any_of HT_.out (by kernel_rfl)) (fun _ _ _ h => h) (Or.inl ⟨by rfl, ?_⟩) ?_ ?_; rotate_left; · (intro w'; go_simp; with_reducible rfl)
                        rotate_left; · (simp only [Act.put, sT, sZ, sS, i64_w, i32_w]; rfl)
                        refine take_ (i := 9) (N := some 46) (v := ?_) (a' := ?_) #[true, true, true, true, true, true, true, true, true, true, true, true, true, false, false, false, false, false] rfl rfl (take_ofW HT_.out HW_.out (by kernel_rfl)) (fun _ _ _ h => h) (Or.inl ⟨by rfl, ?_⟩) hHeld ?_ ?_; rotate_left
                        · rintro w' ⟨s0, s1, s2⟩
                          go_simp
                          with_reducible rfl
                        rotate_left; · (simp only [Act.put, sT, sZ, sS, i64_w, i32_w]; rfl)
                        refine take_ (i := 13) (N := some 50) (v := ?_) (a' := ?_) #[true, true, true, true, true, true, true, true, true, true, true, true, true, true, false, false, false, false] rfl rfl (take_ofW HT_.out HW_.out (by kernel_rfl)) (fun _ _ _ h => h) (Or.inl ⟨by rfl, ?_⟩) hHeld ?_ ?_; rotate_left
                        · rintro w' ⟨s0, s1, s2⟩
                          go_simp
                          with_reducible rfl
                        rotate_left; · (simp only [Act.put, sT, sZ, sS, i64_w, i32_w]; rfl)
                        refine pure_ (i := 14) (N := some 51) (v := ?_) (a' := ?_) #[true, true, true, true, true, true, true, true, true, true, true, true, true, true, true, false, false, false] rfl rfl (any_of HT_.out (by kernel_rfl)) (fun _ _ _ h => h) (Or.inl ⟨by rfl, ?_⟩) ?_ ?_; rotate_left; · (intro w'; go_simp; with_reducible rfl)
                        rotate_left; · (simp only [Act.put, sT, sZ, sS, i64_w, i32_w]; rfl)
                        refine last_ (i := 15) (N := none) #[true, true, true, true, true, true, true, true, true, true, true, true, true, true, true, true, false, false] rfl rfl (one_of HT_.out (by kernel_rfl)) (by decide) (fun K hK => ?_)
                        refine st_of (by rfl) ?_
                        refine op_set (S := S) (enc := Value.int .i64) (h1 := fun _ => rfl) 3 (.tmp 51) (.tmp 46) rfl adq339 (x9_1) (rd y200000_1 j340) (SL.get3 HS.out) (by rfl) rfl (by kernel_rfl) (of_decide_eq_true (by first | (with_reducible assumption) | assumption)) (of_decide_eq_true (by first | (with_reducible assumption) | assumption)) y348 Ny348.out ?_
                        intro w10 hs_ hk_
                        replace HS := Aside0.mk ((SL.back3 (show SL (row (Kd.int .i64) 3 (.slice (some adq339) l0.length c0) y348 :: _) _ _ from hs_)))
                        replace HK := Aside0.mk (HK.out.trans hk_)
                        refine hK.out _ _ ?_
                        clear hK K
                        refine pure_ (i := 16) (N := some 52) (v := ?_) (a' := ?_) #[true, true, true, true, true, true, true, true, true, true, true, true, true, true, true, true, true, false] rfl rfl (any_of HT_.out (by kernel_rfl)) (fun _ _ _ h => h) (Or.inl ⟨by rfl, ?_⟩) ?_ ?_; rotate_left; · (intro w'; go_simp; with_reducible rfl)
                        rotate_left; · (simp only [Act.put, sT, sZ, sS, i64_w, i32_w]; rfl)
                        refine last_ (i := 17) (N := none) #[true, true, true, true, true, true, true, true, true, true, true, true, true, true, true, true, true, true] rfl rfl (one_of HT_.out (by kernel_rfl)) (by decide) (fun K hK => ?_)
                        refine st_of (by rfl) ?_
                        refine op_set (S := S) (enc := Value.int .i64) (h1 := fun _ => rfl) 3 (.tmp 52) (.tmp 50) rfl adq339 (j340) (rd y200000_1 x9_1) (SL.get3 HS.out) (by rfl) rfl (by kernel_rfl) (of_decide_eq_true (by first | (with_reducible assumption) | assumption)) (of_decide_eq_true (by first | (with_reducible assumption) | assumption)) y350 Ny350.out ?_
                        intro w11 hs_ hk_
                        replace HS := Aside0.mk ((SL.back3 (show SL (row (Kd.int .i64) 3 (.slice (some adq339) l0.length c0) y350 :: _) _ _ from hs_)))
                        replace HK := Aside0.mk (HK.out.trans hk_)
                        refine hK.out _ _ ?_
                        clear hK K
                        refine done_ (done_of HT_.out (by kernel_rfl)) ?_
                        try go_wp2
                        go_roundg k2
                        case measure => have := HQ1.out; have := HQ2.out; omega
                        case rel => exact ⟨(t343), (t344), (y350), (wrap64 (x9_1 - 1)), (by first | rfl | (simp; done) | (simp [*]; done)), H', ⟨by have := HQ1.out; have := HQ2.out; omega⟩, HS, HK⟩
                      · rw [if_neg c8] at H
                        have c8b0 : decide (t342 < 0) = false := decide_eq_false c8
                        clear c8
                        have H' := Aside0.mk H
                        clear H
                        try go_wp2
                        have pq339 : 0 ≤ (x9_1 : Int) := of_decide_eq_true (by first | (with_reducible assumption) | assumption)
                        have qq339 : x9_1 < ((l0.length : Int) : Int) := of_decide_eq_true (by first | (with_reducible assumption) | assumption)
                        obtain ⟨adq339, eq339, hxq339_0⟩ := Kd.at_int (SL.row_c (SL.get3 HS.out)).2.2 x9_1 pq339 qq339
                        cases eq339
                        replace pq339 := eq_true pq339
                        replace qq339 := eq_true qq339
                        have pq341 : 0 ≤ (j340 : Int) := of_decide_eq_true (by first | (with_reducible assumption) | assumption)
                        have qq341 : j340 < ((l0.length : Int) : Int) := of_decide_eq_true (by first | (with_reducible assumption) | assumption)
                        obtain ⟨adq341, eq341, hxq341_0⟩ := Kd.at_int (SL.row_c (SL.get3 HS.out)).2.2 j340 pq341 qq341
                        obtain rfl : adq339 = adq341 := (by injection eq341)
                        replace pq341 := eq_true pq341
                        replace qq341 := eq_true qq341
                        refine start_ (n := 17) (S := fun w' => w'.cell? (adq339.add x9_1.toNat) = some (.int .i64 (rd y200000_1 x9_1)) ∧ w'.cell? (adq339.add j340.toNat) = some (.int .i64 (rd y200000_1 j340))) (ds := []) #[false, false, false, false, false, false, false, false, false, false, false, false, false, false, false, false, false] (by kernel_rfl) rfl rfl ⟨(SL.cell_int (SL.get3 HS.out) x9_1 (of_eq_true pq339) (of_eq_true qq339)), (SL.cell_int (SL.get3 HS.out) j340 (of_eq_true pq341) (of_eq_true qq341))⟩ (fun hHeld => ?_); refine with_tabW slices_insertionSortCmpFunc_int_i2.tab4 slices_insertionSortCmpFunc_int_i2.bits4 (fun HT_ HW_ => ?_)
                        replace HK := Aside0.mk (Keep.drew HK.out)
                        replace HS := Aside0.mk (SL.drew HS.out)
                        refine pure_ (i := 0) (N := some 18) (v := ?_) (a' := ?_) #[true, false, false, false, false, false, false, false, false, false, false, false, false, false, false, false, false] rfl rfl (any_of HT_.out (by kernel_rfl)) (fun _ _ _ h => h) (Or.inl ⟨by rfl, ?_⟩) ?_ ?_; rotate_left; · (intro w'; go_simp; with_reducible rfl)
                        rotate_left; · (simp only [Act.put, sT, sZ, sS, i64_w, i32_w]; rfl)
                        refine pure_ (i := 1) (N := some 19) (v := ?_) (a' := ?_) #[true, true, false, false, false, false, false, false, false, false, false, false, false, false, false, false, false] rfl rfl (any_of HT_.out (by kernel_rfl)) (fun _ _ _ h => h) (Or.inl ⟨by rfl, ?_⟩) ?_ ?_; rotate_left; · (intro w'; go_simp; with_reducible rfl)
                        rotate_left; · (simp only [Act.put, sT, sZ, sS, i64_w, i32_w]; rfl)
                        refine pure_ (i := 2) (N := some 20) (v := ?_) (a' := ?_) #[true, true, true, false, false, false, false, false, false, false, false, false, false, false, false, false, false] rfl rfl (any_of HT_.out (by kernel_rfl)) (fun _ _ _ h => h) (Or.inl ⟨by rfl, ?_⟩) ?_ ?_; rotate_left; · (intro w'; go_simp; with_reducible rfl)
                        rotate_left; · (simp only [Act.put, sT, sZ, sS, i64_w, i32_w]; rfl)
                        refine pure_ (i := 3) (N := some 21) (v := ?_) (a' := ?_) #[true, true, true, true, false, false, false, false, false, false, false, false, false, false, false, false, false] rfl rfl (any_of HT_.out (by kernel_rfl)) (fun _ _ _ h => h) (Or.inl ⟨by rfl, ?_⟩) ?_ ?_; rotate_left; · (intro w'; go_simp; with_reducible rfl)
                        rotate_left; · (simp only [Act.put, sT, sZ, sS, i64_w, i32_w]; rfl)
                        refine pure_ (i := 4) (N := some 22) (v := ?_) (a' := ?_) #[true, true, true, true, true, false, false, false, false, false, false, false, false, false, false, false, false] rfl rfl (any_of HT_.out (by kernel_rfl)) (fun _ _ _ h => h) (Or.inl ⟨by rfl, ?_⟩) ?_ ?_; rotate_left; · (intro w'; go_simp; with_reducible rfl)
                        rotate_left; · (simp only [Act.put, sT, sZ, sS, i64_w, i32_w]; rfl)
                        refine pure_ (i := 5) (N := some 23) (v := ?_) (a' := ?_) #[true, true, true, true, true, true, false, false, false, false, false, false, false, false, false, false, false] rfl rfl (any_of HT_.out (by kernel_rfl)) (fun _ _ _ h => h) (Or.inl ⟨by rfl, ?_⟩) ?_ ?_; rotate_left; · (intro w'; go_simp; with_reducible rfl)
                        rotate_left; · (simp only [Act.put, sT, sZ, sS, i64_w, i32_w]; rfl)
                        refine pure_ (i := 6) (N := some 24) (v := ?_) (a' := ?_) #[true, true, true, true, true, true, true, false, false, false, false, false, false, false, false, false, false] rfl rfl (any_of HT_.out (by kernel_rfl)) (fun _ _ _ h => h) (Or.inl ⟨by rfl, ?_⟩) ?_ ?_; rotate_left; · (intro w'; go_simp; with_reducible rfl)
                        rotate_left; · (simp only [Act.put, sT, sZ, sS, i64_w, i32_w]; rfl)
                        refine pure_ (i := 7) (N := some 25) (v := ?_) (a' := ?_) #[true, true, true, true, true, true, true, true, false, false, false, false, false, false, false, false, false] rfl rfl (any_of HT_.out (by kernel_rfl)) (fun _ _ _ h => h) (Or.inl ⟨by rfl, ?_⟩) ?_ ?_; rotate_left; · (intro w'; go_simp; with_reducible rfl)
                        rotate_left; · (simp only [Act.put, sT, sZ, sS, i64_w, i32_w]; rfl)
                        refine pure_ (i := 9) (N := some 27) (v := ?_) (a' := ?_) #[true, true, true, true, true, true, true, true, false, true, false, false, false, false, false, false, false] rfl rfl (any_of HT_.out (by kernel_rfl)) (fun _ _ _ h => h) (Or.inl ⟨by rfl, ?_⟩) ?_ ?_; rotate_left; · (intro w'; go_simp; with_reducible rfl)
                        rotate_left; · (simp only [Act.put, sT, sZ, sS, i64_w, i32_w]; rfl)
                        refine pure_ (i := 10) (N := some 28) (v := ?_) (a' := ?_) #[true, true, true, true, true, true, true, true, false, true, true, false, false, false, false, false, false] rfl rfl (any_of HT_.out (by kernel_rfl)) (fun _ _ _ h => h) (Or.inl ⟨by rfl, ?_⟩) ?_ ?_; rotate_left; · (intro w'; go_simp; with_reducible rfl)
                        rotate_left; · (simp only [Act.put, sT, sZ, sS, i64_w, i32_w]; rfl)
                        refine pure_ (i := 11) (N := some 29) (v := ?_) (a' := ?_) #[true, true, true, true, true, true, true, true, false, true, true, true, false, false, false, false, false] rfl rfl (any_of HT_.out (by kernel_rfl)) (fun _ _ _ h => h) (Or.inl ⟨by rfl, ?_⟩) ?_ ?_; rotate_left; · (intro w'; go_simp; with_reducible rfl)
                        rotate_left; · (simp only [Act.put, sT, sZ, sS, i64_w, i32_w]; rfl)
                        refine pure_ (i := 12) (N := some 30) (v := ?_) (a' := ?_) #[true, true, true, true, true, true, true, true, false, true, true, true, true, false, false, false, false] rfl rfl (any_of HT_.out (by kernel_rfl)) (fun _ _ _ h => h) (Or.inl ⟨by rfl, ?_⟩) ?_ ?_; rotate_left; · (intro w'; go_simp; with_reducible rfl)
                        rotate_left; · (simp only [Act.put, sT, sZ, sS, i64_w, i32_w]; rfl)
                        refine take_ (i := 8) (N := some 26) (v := ?_) (a' := ?_) #[true, true, true, true, true, true, true, true, true, true, true, true, true, false, false, false, false] rfl rfl (take_ofW HT_.out HW_.out (by kernel_rfl)) (fun _ _ _ h => h) (Or.inl ⟨by rfl, ?_⟩) hHeld ?_ ?_; rotate_left
                        · rintro w' ⟨s0, s1⟩
                          go_simp
                          with_reducible rfl
                        rotate_left; · (simp only [Act.put, sT, sZ, sS, i64_w, i32_w]; rfl)
                        refine take_ (i := 13) (N := some 31) (v := ?_) (a' := ?_) #[true, true, true, true, true, true, true, true, true, true, true, true, true, true, false, false, false] rfl rfl (take_ofW HT_.out HW_.out (by kernel_rfl)) (fun _ _ _ h => h) (Or.inl ⟨by rfl, ?_⟩) hHeld ?_ ?_; rotate_left
                        · rintro w' ⟨s0, s1⟩
                          go_simp
                          with_reducible rfl
                        rotate_left; · (simp only [Act.put, sT, sZ, sS, i64_w, i32_w]; rfl)
                        refine one_ (i := 14) (N := some 32) #[true, true, true, true, true, true, true, true, true, true, true, true, true, true, true, false, false] rfl rfl (one_of HT_.out (by kernel_rfl)) (by decide) (fun K hK => ?_)
                        refine goesc_ Try.func37 (by kernel_rfl) rfl #[.int .i64 (rd y200000_1 x9_1), .int .i64 (rd y200000_1 j340), .pointer (some ⟨b0, 0, none⟩), .pointer (some ⟨b1, 0, none⟩)] (by rfl) rfl rfl (by with_unfolding_all rfl) (by (try simp only [List.map_toArray, List.map_cons, List.map_nil]); first | done | rfl | (simp; done)) ?_
                        have hs0_ := (SL.get2 (SL.get2 (SL.get2 HS.out)))
                        (with_reducible refine (area_Nearest_1_i1.slcalls k2 _ _ _ _ _ _ _ _ _ _ _ _ _ _ _ _ (HF.out.keep HK.out) hs0_  Hc7.out).mono ?_)
                        rintro e_ w12 ⟨rfl, hsr_, hkr_⟩
                        refine ⟨_, rfl, ?_⟩
                        replace HS := Aside0.mk (hsr_)
                        replace HK := Aside0.mk (HK.out.trans hkr_)
                        refine hK.out _ _ ⟨(SL.cell_int (SL.get3 HS.out) x9_1 (of_eq_true pq339) (of_eq_true qq339)), (SL.cell_int (SL.get3 HS.out) j340 (of_eq_true pq341) (of_eq_true qq341))⟩ (fun hHeld => ?_)
                        clear hK K
                        refine norm_ (a' := ?_) ?_ ?_; rotate_left
                        · show Act.put _ (some 32) _ = _
                          simp only [Act.put, sT, sZ, sS, i64_w, i32_w]
                          rfl
                        refine pure_ (i := 15) (N := some 33) (v := ?_) (a' := ?_) #[true, true, true, true, true, true, true, true, true, true, true, true, true, true, true, true, false] rfl rfl (any_of HT_.out (by kernel_rfl)) (fun _ _ _ h => h) (Or.inl ⟨by rfl, ?_⟩) ?_ ?_; rotate_left; · (intro w'; go_simp; with_reducible rfl)
                        rotate_left; · (simp only [Act.put, sT, sZ, sS, i64_w, i32_w]; rfl)
                        refine pure_ (i := 16) (N := some 34) (v := ?_) (a' := ?_) #[true, true, true, true, true, true, true, true, true, true, true, true, true, true, true, true, true] rfl rfl (any_of HT_.out (by kernel_rfl)) (fun _ _ _ h => h) (Or.inl ⟨by rfl, ?_⟩) ?_ ?_; rotate_left; · (intro w'; go_simp; with_reducible rfl)
                        rotate_left; · (simp only [Act.put, sT, sZ, sS, i64_w, i32_w]; rfl)
                        refine done_ (done_of HT_.out (by kernel_rfl)) ?_
                        try go_wp2
                        go_roundg k2
                        case measure => have := HQ1.out; have := HQ2.out; omega
                        case rel => exact ⟨(t343), (t344), (y200000_1), (wrap64 (x8_0 + 1)), (by first | rfl | (simp; done) | (simp [*]; done)), H', ⟨by have := HQ1.out; have := HQ2.out; omega⟩, HS, HK⟩
                    · rw [if_neg c6] at H
                      exact absurd H (by simp)
                  · rw [if_neg c5] at H
                    exact absurd H (by simp)
                · rw [if_neg c4] at H
                  exact absurd H (by simp)
              · rw [if_neg c3] at H
                exact absurd H (by simp)
            · rw [if_neg c2] at H
              have c2b0 : decide (a1 < x9_1) = false := decide_eq_false c2
              clear c2
              have H' := Aside0.mk H
              clear H
              try go_wp2
              refine start_ (n := 17) (S := fun w' => True) (ds := []) #[false, false, false, false, false, false, false, false, false, false, false, false, false, false, false, false, false] (by kernel_rfl) rfl rfl trivial (fun hHeld => ?_); refine with_tabW slices_insertionSortCmpFunc_int_i2.tab4 slices_insertionSortCmpFunc_int_i2.bits4 (fun HT_ HW_ => ?_)
              replace HK := Aside0.mk (Keep.drew HK.out)
              replace HS := Aside0.mk (SL.drew HS.out)
              refine pure_ (i := 0) (N := some 18) (v := ?_) (a' := ?_) #[true, false, false, false, false, false, false, false, false, false, false, false, false, false, false, false, false] rfl rfl (any_of HT_.out (by kernel_rfl)) (fun _ _ _ h => h) (Or.inl ⟨by rfl, ?_⟩) ?_ ?_; rotate_left; · (intro w'; go_simp; with_reducible rfl)
              rotate_left; · (simp only [Act.put, sT, sZ, sS, i64_w, i32_w]; rfl)
              refine pure_ (i := 1) (N := some 19) (v := ?_) (a' := ?_) #[true, true, false, false, false, false, false, false, false, false, false, false, false, false, false, false, false] rfl rfl (any_of HT_.out (by kernel_rfl)) (fun _ _ _ h => h) (Or.inl ⟨by rfl, ?_⟩) ?_ ?_; rotate_left; · (intro w'; go_simp; with_reducible rfl)
              rotate_left; · (simp only [Act.put, sT, sZ, sS, i64_w, i32_w]; rfl)
              refine pure_ (i := 2) (N := some 20) (v := ?_) (a' := ?_) #[true, true, true, false, false, false, false, false, false, false, false, false, false, false, false, false, false] rfl rfl (any_of HT_.out (by kernel_rfl)) (fun _ _ _ h => h) (Or.inl ⟨by rfl, ?_⟩) ?_ ?_; rotate_left; · (intro w'; go_simp; with_reducible rfl)
              rotate_left; · (simp only [Act.put, sT, sZ, sS, i64_w, i32_w]; rfl)
              refine pure_ (i := 3) (N := some 21) (v := ?_) (a' := ?_) #[true, true, true, true, false, false, false, false, false, false, false, false, false, false, false, false, false] rfl rfl (any_of HT_.out (by kernel_rfl)) (fun _ _ _ h => h) (Or.inl ⟨by rfl, ?_⟩) ?_ ?_; rotate_left; · (intro w'; go_simp; with_reducible rfl)
              rotate_left; · (simp only [Act.put, sT, sZ, sS, i64_w, i32_w]; rfl)
              refine pure_ (i := 4) (N := some 22) (v := undef) (a' := ?_) #[true, true, true, true, true, false, false, false, false, false, false, false, false, false, false, false, false] rfl rfl (any_of HT_.out (by kernel_rfl)) (fun _ _ _ h => h) (Or.inr ⟨by rfl, rfl⟩) ?_ ?_; rotate_left; · (simp only [Act.put, sT, sZ, sS, i64_w, i32_w]; rfl)
              refine pure_ (i := 5) (N := some 23) (v := undef) (a' := ?_) #[true, true, true, true, true, true, false, false, false, false, false, false, false, false, false, false, false] rfl rfl (any_of HT_.out (by kernel_rfl)) (fun _ _ _ h => h) (Or.inr ⟨by rfl, rfl⟩) ?_ ?_; rotate_left; · (simp only [Act.put, sT, sZ, sS, i64_w, i32_w]; rfl)
              refine pure_ (i := 6) (N := some 24) (v := undef) (a' := ?_) #[true, true, true, true, true, true, true, false, false, false, false, false, false, false, false, false, false] rfl rfl (any_of HT_.out (by kernel_rfl)) (fun _ _ _ h => h) (Or.inr ⟨by rfl, rfl⟩) ?_ ?_; rotate_left; · (simp only [Act.put, sT, sZ, sS, i64_w, i32_w]; rfl)
              refine pure_ (i := 7) (N := some 25) (v := undef) (a' := ?_) #[true, true, true, true, true, true, true, true, false, false, false, false, false, false, false, false, false] rfl rfl (any_of HT_.out (by kernel_rfl)) (fun _ _ _ h => h) (Or.inr ⟨by rfl, rfl⟩) ?_ ?_; rotate_left; · (simp only [Act.put, sT, sZ, sS, i64_w, i32_w]; rfl)
              refine pure_ (i := 8) (N := some 26) (v := undef) (a' := ?_) #[true, true, true, true, true, true, true, true, true, false, false, false, false, false, false, false, false] rfl rfl (any_of HT_.out (by kernel_rfl)) (fun _ _ _ h => h) (Or.inr ⟨by rfl, rfl⟩) ?_ ?_; rotate_left; · (simp only [Act.put, sT, sZ, sS, i64_w, i32_w]; rfl)
              refine pure_ (i := 9) (N := some 27) (v := undef) (a' := ?_) #[true, true, true, true, true, true, true, true, true, true, false, false, false, false, false, false, false] rfl rfl (any_of HT_.out (by kernel_rfl)) (fun _ _ _ h => h) (Or.inr ⟨by rfl, rfl⟩) ?_ ?_; rotate_left; · (simp only [Act.put, sT, sZ, sS, i64_w, i32_w]; rfl)
              refine pure_ (i := 10) (N := some 28) (v := undef) (a' := ?_) #[true, true, true, true, true, true, true, true, true, true, true, false, false, false, false, false, false] rfl rfl (any_of HT_.out (by kernel_rfl)) (fun _ _ _ h => h) (Or.inr ⟨by rfl, rfl⟩) ?_ ?_; rotate_left; · (simp only [Act.put, sT, sZ, sS, i64_w, i32_w]; rfl)
              refine pure_ (i := 11) (N := some 29) (v := undef) (a' := ?_) #[true, true, true, true, true, true, true, true, true, true, true, true, false, false, false, false, false] rfl rfl (any_of HT_.out (by kernel_rfl)) (fun _ _ _ h => h) (Or.inr ⟨by rfl, rfl⟩) ?_ ?_; rotate_left; · (simp only [Act.put, sT, sZ, sS, i64_w, i32_w]; rfl)
              refine pure_ (i := 12) (N := some 30) (v := undef) (a' := ?_) #[true, true, true, true, true, true, true, true, true, true, true, true, true, false, false, false, false] rfl rfl (any_of HT_.out (by kernel_rfl)) (fun _ _ _ h => h) (Or.inr ⟨by rfl, rfl⟩) ?_ ?_; rotate_left; · (simp only [Act.put, sT, sZ, sS, i64_w, i32_w]; rfl)
              refine pure_ (i := 13) (N := some 31) (v := undef) (a' := ?_) #[true, true, true, true, true, true, true, true, true, true, true, true, true, true, false, false, false] rfl rfl (any_of HT_.out (by kernel_rfl)) (fun _ _ _ h => h) (Or.inr ⟨by rfl, rfl⟩) ?_ ?_; rotate_left; · (simp only [Act.put, sT, sZ, sS, i64_w, i32_w]; rfl)
              refine pure_ (i := 14) (N := some 32) (v := undef) (a' := ?_) #[true, true, true, true, true, true, true, true, true, true, true, true, true, true, true, false, false] rfl rfl (any_of HT_.out (by kernel_rfl)) (fun _ _ _ h => h) (Or.inr ⟨by rfl, rfl⟩) ?_ ?_; rotate_left; · (simp only [Act.put, sT, sZ, sS, i64_w, i32_w]; rfl)
              refine pure_ (i := 15) (N := some 33) (v := undef) (a' := ?_) #[true, true, true, true, true, true, true, true, true, true, true, true, true, true, true, true, false] rfl rfl (any_of HT_.out (by kernel_rfl)) (fun _ _ _ h => h) (Or.inr ⟨by rfl, rfl⟩) ?_ ?_; rotate_left; · (simp only [Act.put, sT, sZ, sS, i64_w, i32_w]; rfl)
              refine pure_ (i := 16) (N := some 34) (v := ?_) (a' := ?_) #[true, true, true, true, true, true, true, true, true, true, true, true, true, true, true, true, true] rfl rfl (any_of HT_.out (by kernel_rfl)) (fun _ _ _ h => h) (Or.inl ⟨by rfl, ?_⟩) ?_ ?_; rotate_left; · (intro w'; go_simp; with_reducible rfl)
              rotate_left; · (simp only [Act.put, sT, sZ, sS, i64_w, i32_w]; rfl)
              refine done_ (done_of HT_.out (by kernel_rfl)) ?_
              try go_wp2
              go_roundg k2
              case measure => have := HQ1.out; have := HQ2.out; omega
              case rel => exact ⟨(x0_0_1), (x0_1_1), (y200000_1), (wrap64 (x8_0 + 1)), (by first | rfl | (simp; done) | (simp [*]; done)), H', ⟨by have := HQ1.out; have := HQ2.out; omega⟩, HS, HK⟩
      · rw [if_neg c1] at H
        have c1b0 : decide (x8_0 < a2) = false := decide_eq_false c1
        clear c1
        simp only [Option.some.injEq, Prod.mk.injEq] at H
        obtain ⟨rfl, rfl, rfl⟩ := H
        go_wp2
        first | go_end0 | ((try simp only [Exit.inBlock, Exit.then]); refine bodyPost_ret (results_none rfl _ _ _) rfl ?_)
        unfold slices_insertionSortCmpFunc_int_i2.Post
        exact ⟨by first | rfl | (simp; done) | (simp [*]; done) | (simp at c1b0 ⊢; first | exact c1b0 | (simp [c1b0]; done)), HS.out, HK.out⟩

end Go.Proofs.Ytofodbnnminmkaa.XAS
