-- Written by xprint.py (a program of this session) for this claim
import Derived.Test.YtofodbnnminmkaaSL5
import Derived.Test.YtofodbnnminmkaaXASx0
import Derived.Test.YtofodbnnminmkaaXASx8
import Derived.Test.YtofodbnnminmkaaXASx10
namespace Go.Proofs.Ytofodbnnminmkaa.XAS
open Go.Proofs.YtofodbnnminmkaaV Go.Proofs.YtofodbnnminmkaaS
open Go.RowKit Go.Proofs.YtofodbnnminmkaaW.PrintWords Go.Proofs.YtofodbnnminmkaaW.PrintLast Go.Proofs.YtofodbnnminmkaaW.PrintMore
attribute [local go_sem] max2_int min2_int max_two min_two max_three min_three max_four min_four   -- for this text's walks alone
set_option linter.unusedVariables false
set_option linter.unusedSimpArgs false

/-! ### slices_stableCmpFunc_int_i2: function 49 -/
mutual
def slices_stableCmpFunc_int_i2.l0 : Nat → Int → (List (Int × S26)) → Int → Int → (List Int) → Int → Int → Option (Int × Int × (List Int))
  | 0, _, _, _, _, _, _, _ => none
  | k + 1, a1, sm2, x7_0, x8_0, y200000_0, x0_0_0, x0_1_0 => if x8_0 ≤ a1 then ((slices_insertionSortCmpFunc_int_i2.f k y200000_0 x7_0 x8_0 x0_0_0 x0_1_0 sm2).bind fun bt363 => (slices_stableCmpFunc_int_i2.l0 k a1 sm2 x8_0 (wrap64 (x8_0 + 20)) bt363.2.2 bt363.1 bt363.2.1)) else ((slices_insertionSortCmpFunc_int_i2.f k y200000_0 x7_0 a1 x0_0_0 x0_1_0 sm2).bind fun bt366 => (slices_stableCmpFunc_int_i2.l1 k a1 20 bt366.2.2 bt366.1 bt366.2.1))
def slices_stableCmpFunc_int_i2.l1 : Nat → Int → Int → (List Int) → Int → Int → Option (Int × Int × (List Int))
  | 0, _, _, _, _, _ => none
  | k + 1, a1, x6_1, y200000_1, x0_0_1, x0_1_1 => if x6_1 < a1 then (slices_stableCmpFunc_int_i2.l2 k a1 x6_1 0 (wrap64 (2 * x6_1)) y200000_1 x0_0_1 x0_1_1) else (some (x0_0_1, x0_1_1, y200000_1))
def slices_stableCmpFunc_int_i2.l2 : Nat → Int → Int → Int → Int → (List Int) → Int → Int → Option (Int × Int × (List Int))
  | 0, _, _, _, _, _, _, _ => none
  | k + 1, a1, x6_1, x7_2, x8_2, y200000_1, x0_0_1, x0_1_1 => if x8_2 ≤ a1 then (none) else (if (wrap64 (x7_2 + x6_1)) < a1 then (none) else (slices_stableCmpFunc_int_i2.l1 k a1 (wrap64 (x6_1 * 2)) y200000_1 x0_0_1 x0_1_1))
end
def slices_stableCmpFunc_int_i2.f (k : Nat) (l0 : List Int) (a1 : Int) (s0_0 : Int) (s0_1 : Int) (sm2 : List (Int × S26)) : Option (Int × Int × (List Int)) := slices_stableCmpFunc_int_i2.l0 k a1 sm2 0 20 l0 s0_0 s0_1
theorem slices_stableCmpFunc_int_i2.mono_l : ∀ k, (∀ y0 y1 y2 y3 y4 y5 y6, LeO (slices_stableCmpFunc_int_i2.l0 k y0 y1 y2 y3 y4 y5 y6) (slices_stableCmpFunc_int_i2.l0 (k + 1) y0 y1 y2 y3 y4 y5 y6)) ∧ (∀ y0 y1 y2 y3 y4, LeO (slices_stableCmpFunc_int_i2.l1 k y0 y1 y2 y3 y4) (slices_stableCmpFunc_int_i2.l1 (k + 1) y0 y1 y2 y3 y4)) ∧ (∀ y0 y1 y2 y3 y4 y5 y6, LeO (slices_stableCmpFunc_int_i2.l2 k y0 y1 y2 y3 y4 y5 y6) (slices_stableCmpFunc_int_i2.l2 (k + 1) y0 y1 y2 y3 y4 y5 y6))
  | 0 => ⟨fun _ _ _ _ _ _ _ r h => by simp [slices_stableCmpFunc_int_i2.l0] at h, fun _ _ _ _ _ r h => by simp [slices_stableCmpFunc_int_i2.l1] at h, fun _ _ _ _ _ _ _ r h => by simp [slices_stableCmpFunc_int_i2.l2] at h⟩
  | k + 1 => by
    obtain ⟨ih0, ih1, ih2⟩ := slices_stableCmpFunc_int_i2.mono_l k
    refine ⟨?_, ?_, ?_⟩
    · intro y0 y1 y2 y3 y4 y5 y6
      unfold slices_stableCmpFunc_int_i2.l0
      repeat' first
      | (with_reducible exact ih0 _ _ _ _ _ _ _)
      | (with_reducible exact ih1 _ _ _ _ _)
      | (with_reducible exact ih2 _ _ _ _ _ _ _)
      | (with_reducible exact slices_insertionSortCmpFunc_int_i2.mono _ _ _ _ _ _ _)
      | (with_reducible exact LeO.refl _)
      | (with_reducible exact LeO.none _)
      | (with_reducible refine LeO.ite ?_ ?_)
      | (with_reducible refine everyOf_le (fun _ => ?_))
      | (with_reducible refine LeO.bind ?_ (fun _ => ?_))
      | exact ih0 _ _ _ _ _ _ _
      | exact ih1 _ _ _ _ _
      | exact ih2 _ _ _ _ _ _ _
      | exact slices_insertionSortCmpFunc_int_i2.mono _ _ _ _ _ _ _
      | exact LeO.none _
      | refine LeO.ite ?_ ?_
      | refine LeO.bind ?_ (fun _ => ?_)
    · intro y0 y1 y2 y3 y4
      unfold slices_stableCmpFunc_int_i2.l1
      repeat' first
      | (with_reducible exact ih0 _ _ _ _ _ _ _)
      | (with_reducible exact ih1 _ _ _ _ _)
      | (with_reducible exact ih2 _ _ _ _ _ _ _)
      | (with_reducible exact slices_insertionSortCmpFunc_int_i2.mono _ _ _ _ _ _ _)
      | (with_reducible exact LeO.refl _)
      | (with_reducible exact LeO.none _)
      | (with_reducible refine LeO.ite ?_ ?_)
      | (with_reducible refine everyOf_le (fun _ => ?_))
      | (with_reducible refine LeO.bind ?_ (fun _ => ?_))
      | exact ih0 _ _ _ _ _ _ _
      | exact ih1 _ _ _ _ _
      | exact ih2 _ _ _ _ _ _ _
      | exact slices_insertionSortCmpFunc_int_i2.mono _ _ _ _ _ _ _
      | exact LeO.none _
      | refine LeO.ite ?_ ?_
      | refine LeO.bind ?_ (fun _ => ?_)
    · intro y0 y1 y2 y3 y4 y5 y6
      unfold slices_stableCmpFunc_int_i2.l2
      repeat' first
      | (with_reducible exact ih0 _ _ _ _ _ _ _)
      | (with_reducible exact ih1 _ _ _ _ _)
      | (with_reducible exact ih2 _ _ _ _ _ _ _)
      | (with_reducible exact slices_insertionSortCmpFunc_int_i2.mono _ _ _ _ _ _ _)
      | (with_reducible exact LeO.refl _)
      | (with_reducible exact LeO.none _)
      | (with_reducible refine LeO.ite ?_ ?_)
      | (with_reducible refine everyOf_le (fun _ => ?_))
      | (with_reducible refine LeO.bind ?_ (fun _ => ?_))
      | exact ih0 _ _ _ _ _ _ _
      | exact ih1 _ _ _ _ _
      | exact ih2 _ _ _ _ _ _ _
      | exact slices_insertionSortCmpFunc_int_i2.mono _ _ _ _ _ _ _
      | exact LeO.none _
      | refine LeO.ite ?_ ?_
      | refine LeO.bind ?_ (fun _ => ?_)
theorem slices_stableCmpFunc_int_i2.mono : ∀ a0 a1 a2 a3 a4 k, LeO (slices_stableCmpFunc_int_i2.f k a0 a1 a2 a3 a4) (slices_stableCmpFunc_int_i2.f (k + 1) a0 a1 a2 a3 a4) := by
  intro a0 a1 a2 a3 a4 k
  obtain ⟨ih0, ih1, ih2⟩ := slices_stableCmpFunc_int_i2.mono_l k
  unfold slices_stableCmpFunc_int_i2.f
  repeat' first
      | (with_reducible exact ih0 _ _ _ _ _ _ _)
      | (with_reducible exact ih1 _ _ _ _ _)
      | (with_reducible exact ih2 _ _ _ _ _ _ _)
      | (with_reducible exact slices_insertionSortCmpFunc_int_i2.mono _ _ _ _ _ _ _)
      | (with_reducible exact LeO.refl _)
      | (with_reducible exact LeO.none _)
      | (with_reducible refine LeO.ite ?_ ?_)
      | (with_reducible refine everyOf_le (fun _ => ?_))
      | (with_reducible refine LeO.bind ?_ (fun _ => ?_))
      | exact ih0 _ _ _ _ _ _ _
      | exact ih1 _ _ _ _ _
      | exact ih2 _ _ _ _ _ _ _
      | exact slices_insertionSortCmpFunc_int_i2.mono _ _ _ _ _ _ _
      | exact LeO.none _
      | refine LeO.ite ?_ ?_
      | refine LeO.bind ?_ (fun _ => ?_)
def slices_stableCmpFunc_int_i2.Post (A0 : Option Addr) (c0 : Nat) (l0 : List Int) (b0 : Nat) (b1 : Nat) (b2 : Nat) (bs2 : List Nat) (ck2 : Nat) (sm2 : List (Int × S26)) (r1 : Int) (r2 : Int) (r3 : List Int) (S : Nat → Prop) (L : List Asr) (w : World) (e : Ending) (w' : World) : Prop := e = .returned (.tuple #[]) ∧ SL (cells b0 26 [.int .i64 r1, .int .i64 r2].toArray :: cells b1 55 [.map (some b2)].toArray :: mapo b2 (Value.int .i64) (fun x_ : S26 => Value.agg #[.int .i64 x_.f0, .int .i64 x_.f1]) sm2 bs2 ck2 :: row (Kd.int .i64) 3 (.slice A0 l0.length c0) r3 :: L) w' S ∧ Keep S w w'
set_option maxHeartbeats 8000000 in
set_option maxRecDepth 100000 in
theorem slices_stableCmpFunc_int_i2.slcalls (k : Nat) (A0 : Option Addr) (c0 : Nat) (l0 : List Int) (a1 : Int) (b0 : Nat) (s0_0 : Int) (s0_1 : Int) (b1 : Nat) (b2 : Nat) (bs2 : List Nat) (ck2 : Nat) (sm2 : List (Int × S26)) (r1 : Int) (r2 : Int) (r3 : List Int) (S : Nat → Prop) (L : List Asr) (w : World) (hf : Fresh S w) (hs : SL (cells b0 26 [.int .i64 s0_0, .int .i64 s0_1].toArray :: cells b1 55 [.map (some b2)].toArray :: mapo b2 (Value.int .i64) (fun x_ : S26 => Value.agg #[.int .i64 x_.f0, .int .i64 x_.f1]) sm2 bs2 ck2 :: row (Kd.int .i64) 3 (.slice A0 l0.length c0) l0 :: L) w S) (h : slices_stableCmpFunc_int_i2.f k l0 a1 s0_0 s0_1 sm2 = some (r1, r2, r3)) :
    Calls Try.prog 49 #[.slice A0 l0.length c0, .int .i64 a1, .func (.func 37) #[] #[.pointer (some ⟨b0, 0, none⟩), .pointer (some ⟨b1, 0, none⟩)]] w (slices_stableCmpFunc_int_i2.Post A0 c0 l0 b0 b1 b2 bs2 ck2 sm2 r1 r2 r3 S L w) := by
  have HF := Aside0.mk hf
  have HS := Aside0.mk hs
  have HK := Aside0.mk (Keep.refl S w)
  clear hf hs
  have H : (slices_stableCmpFunc_int_i2.l0 k a1 sm2 0 20 l0 s0_0 s0_1) = some (r1, r2, r3) := h
  clear h
  have H' := Aside0.mk H
  clear H
  go_enter Try.func49, Try.ntmps49
  go_wp2
  go_loopg [7, 8] k (fun kq v7 v8 w' => ∃ (x0_0_0 : Int) (x0_1_0 : Int) (y200000_0 : List Int) (x7_0 : Int) (x8_0 : Int), v7 = .int .i64 x7_0 ∧ v8 = .int .i64 x8_0 ∧ Aside0 (slices_stableCmpFunc_int_i2.l0 kq a1 sm2 x7_0 x8_0 y200000_0 x0_0_0 x0_1_0 = some (r1, r2, r3)) ∧ Aside0 (kq ≤ k) ∧ Aside0 (SL (cells b0 26 [.int .i64 x0_0_0, .int .i64 x0_1_0].toArray :: cells b1 55 [.map (some b2)].toArray :: mapo b2 (Value.int .i64) (fun x_ : S26 => Value.agg #[.int .i64 x_.f0, .int .i64 x_.f1]) sm2 bs2 ck2 :: row (Kd.int .i64) 3 (.slice A0 l0.length c0) y200000_0 :: L) w' S) ∧ Aside0 (Keep S w w'))
  case atStart => exact ⟨(s0_0), (s0_1), (l0), (0), (20), (by first | rfl | (simp; done) | (simp [*]; done)), (by first | rfl | (simp; done) | (simp [*]; done)), H', ⟨Nat.le_refl _⟩, HS, HK⟩
  case round =>
    clear H' HS HK
    obtain ⟨x0_0_0, x0_1_0, y200000_0, x7_0, x8_0, rfl, rfl, HA, HQ1, HS, HK⟩ := hrel
    cases gk with
    | zero => exact absurd HA.out (by simp [slices_stableCmpFunc_int_i2.l0])
    | succ k1 =>
      have H := HA.out
      clear HA
      simp only [slices_stableCmpFunc_int_i2.l0] at H
      by_cases c1 : x8_0 ≤ a1
      · rw [if_pos c1] at H
        have c1b0 : decide (x8_0 ≤ a1) = true := decide_eq_true c1
        clear c1
        replace H := Option.bind_eq_some_iff.1 H
        obtain ⟨⟨t363, t364, t365⟩, Hc20, H⟩ := H
        try dsimp only at H
        have Hc2 := Aside0.mk Hc20
        clear Hc20
        have H' := Aside0.mk H
        clear H
        go_wp2_with (first | ((with_reducible refine gate_dst (N := 18) rfl ?_); refine goesL_ (some 18) rfl rfl Try.func71 (by kernel_rfl) rfl #[.slice A0 l0.length c0, .int .i64 x7_0, .int .i64 x8_0, .func (.func 37) #[] #[.pointer (some ⟨b0, 0, none⟩), .pointer (some ⟨b1, 0, none⟩)]] rfl (by (try simp only [List.map_toArray, List.map_cons, List.map_nil]); first | done | rfl | (simp; done)) ?_; have el200000_ := Aside0.mk (SL.row_c (SL.get3 HS.out)).1; refine calls_of_args (args' := #[.slice A0 y200000_0.length c0, .int .i64 x7_0, .int .i64 x8_0, .func (.func 37) #[] #[.pointer (some ⟨b0, 0, none⟩), .pointer (some ⟨b1, 0, none⟩)]]) (by rw [← el200000_.out]) ?_; have hs0_ := (SL.back3 (SL.row_len (SL.get3 (SL.get3 (SL.get3 (SL.get3 (SL.get3 HS.out))))))); (with_reducible refine (slices_insertionSortCmpFunc_int_i2.slcalls k1 _ _ _ _ _ _ _ _ _ _ _ _ _ _ _ _ _ _ _ (HF.out.keep HK.out) hs0_  Hc2.out).mono ?_); rintro e_ w3 ⟨rfl, hsr_, hkr_⟩; refine ⟨_, rfl, ?_⟩; replace HS := Aside0.mk ((SL.back3 (SL.row_n el200000_.out (SL.get3 hsr_)))); replace HK := Aside0.mk (HK.out.trans hkr_)))
        go_roundg k1
        case measure => have := HQ1.out; omega
        case rel => exact ⟨(t363), (t364), (t365), (x8_0), (wrap64 (x8_0 + 20)), (by first | rfl | (simp; done) | (simp [*]; done)), (by first | rfl | (simp; done) | (simp [*]; done)), H', ⟨by have := HQ1.out; omega⟩, HS, HK⟩
      · rw [if_neg c1] at H
        have c1b0 : decide (x8_0 ≤ a1) = false := decide_eq_false c1
        clear c1
        replace H := Option.bind_eq_some_iff.1 H
        obtain ⟨⟨t366, t367, t368⟩, Hc40, H⟩ := H
        try dsimp only at H
        have Hc4 := Aside0.mk Hc40
        clear Hc40
        have H' := Aside0.mk H
        clear H
        go_wp2_with (first | ((with_reducible refine gate_dst (N := 27) rfl ?_); refine goesL_ (some 27) rfl rfl Try.func71 (by kernel_rfl) rfl #[.slice A0 l0.length c0, .int .i64 x7_0, .int .i64 a1, .func (.func 37) #[] #[.pointer (some ⟨b0, 0, none⟩), .pointer (some ⟨b1, 0, none⟩)]] rfl (by (try simp only [List.map_toArray, List.map_cons, List.map_nil]); first | done | rfl | (simp; done)) ?_; have el200000_ := Aside0.mk (SL.row_c (SL.get3 HS.out)).1; refine calls_of_args (args' := #[.slice A0 y200000_0.length c0, .int .i64 x7_0, .int .i64 a1, .func (.func 37) #[] #[.pointer (some ⟨b0, 0, none⟩), .pointer (some ⟨b1, 0, none⟩)]]) (by rw [← el200000_.out]) ?_; have hs0_ := (SL.back3 (SL.row_len (SL.get3 (SL.get3 (SL.get3 (SL.get3 (SL.get3 HS.out))))))); (with_reducible refine (slices_insertionSortCmpFunc_int_i2.slcalls k1 _ _ _ _ _ _ _ _ _ _ _ _ _ _ _ _ _ _ _ (HF.out.keep HK.out) hs0_  Hc4.out).mono ?_); rintro e_ w5 ⟨rfl, hsr_, hkr_⟩; refine ⟨_, rfl, ?_⟩; replace HS := Aside0.mk ((SL.back3 (SL.row_n el200000_.out (SL.get3 hsr_)))); replace HK := Aside0.mk (HK.out.trans hkr_)))
        try go_simp
        go_loopg [6] k1 (fun kq v6 w' => ∃ (x0_0_1 : Int) (x0_1_1 : Int) (y200000_1 : List Int) (x6_1 : Int), v6 = .int .i64 x6_1 ∧ Aside0 (slices_stableCmpFunc_int_i2.l1 kq a1 x6_1 y200000_1 x0_0_1 x0_1_1 = some (r1, r2, r3)) ∧ Aside0 (kq ≤ k1) ∧ Aside0 (SL (cells b0 26 [.int .i64 x0_0_1, .int .i64 x0_1_1].toArray :: cells b1 55 [.map (some b2)].toArray :: mapo b2 (Value.int .i64) (fun x_ : S26 => Value.agg #[.int .i64 x_.f0, .int .i64 x_.f1]) sm2 bs2 ck2 :: row (Kd.int .i64) 3 (.slice A0 l0.length c0) y200000_1 :: L) w' S) ∧ Aside0 (Keep S w w'))
        case atStart => exact ⟨(t366), (t367), (t368), (20), (by first | rfl | (simp; done) | (simp [*]; done)), H', ⟨Nat.le_refl _⟩, HS, HK⟩
        case round =>
          clear H' HS HK
          obtain ⟨x0_0_1, x0_1_1, y200000_1, x6_1, rfl, HA, HQ2, HS, HK⟩ := hrel
          cases gk with
          | zero => exact absurd HA.out (by simp [slices_stableCmpFunc_int_i2.l1])
          | succ k2 =>
            have H := HA.out
            clear HA
            simp only [slices_stableCmpFunc_int_i2.l1] at H
            by_cases c6 : x6_1 < a1
            · rw [if_pos c6] at H
              have c6b0 : decide (x6_1 < a1) = true := decide_eq_true c6
              clear c6
              have H' := Aside0.mk H
              clear H
              go_wp2
              go_loopg [7, 8] k2 (fun kq v7 v8 w' => ∃ (x7_2 : Int) (x8_2 : Int), v7 = .int .i64 x7_2 ∧ v8 = .int .i64 x8_2 ∧ Aside0 (slices_stableCmpFunc_int_i2.l2 kq a1 x6_1 x7_2 x8_2 y200000_1 x0_0_1 x0_1_1 = some (r1, r2, r3)) ∧ Aside0 (kq ≤ k2) ∧ Aside0 (SL (cells b0 26 [.int .i64 x0_0_1, .int .i64 x0_1_1].toArray :: cells b1 55 [.map (some b2)].toArray :: mapo b2 (Value.int .i64) (fun x_ : S26 => Value.agg #[.int .i64 x_.f0, .int .i64 x_.f1]) sm2 bs2 ck2 :: row (Kd.int .i64) 3 (.slice A0 l0.length c0) y200000_1 :: L) w' S) ∧ Aside0 (Keep S w w'))
              case atStart => exact ⟨(0), (wrap64 (2 * x6_1)), (by first | rfl | (simp; done) | (simp [*]; done)), (by first | rfl | (simp; done) | (simp [*]; done)), H', ⟨Nat.le_refl _⟩, HS, HK⟩
              case round =>
                clear H' HS HK
                obtain ⟨x7_2, x8_2, rfl, rfl, HA, HQ3, HS, HK⟩ := hrel
                cases gk with
                | zero => exact absurd HA.out (by simp [slices_stableCmpFunc_int_i2.l2])
                | succ k3 =>
                  have H := HA.out
                  clear HA
                  simp only [slices_stableCmpFunc_int_i2.l2] at H
                  by_cases c7 : x8_2 ≤ a1
                  · rw [if_pos c7] at H
                    exact absurd H (by simp)
                  · rw [if_neg c7] at H
                    have c7b0 : decide (x8_2 ≤ a1) = false := decide_eq_false c7
                    clear c7
                    by_cases c8 : (wrap64 (x7_2 + x6_1)) < a1
                    · rw [if_pos c8] at H
                      exact absurd H (by simp)
                    · rw [if_neg c8] at H
                      have c8b0 : decide ((wrap64 (x7_2 + x6_1)) < a1) = false := decide_eq_false c8
                      clear c8
                      have H' := Aside0.mk H
                      clear H
                      go_wp2
                      go_roundg k3
                      case measure => have := HQ1.out; have := HQ2.out; have := HQ3.out; omega
                      case rel => exact ⟨(x0_0_1), (x0_1_1), (y200000_1), (wrap64 (x6_1 * 2)), (by first | rfl | (simp; done) | (simp [*]; done)), H', ⟨by have := HQ1.out; have := HQ2.out; have := HQ3.out; omega⟩, HS, HK⟩
            · rw [if_neg c6] at H
              have c6b0 : decide (x6_1 < a1) = false := decide_eq_false c6
              clear c6
              simp only [Option.some.injEq, Prod.mk.injEq] at H
              obtain ⟨rfl, rfl, rfl⟩ := H
              go_wp2
              first | go_end0 | ((try simp only [Exit.inBlock, Exit.then]); refine bodyPost_ret (results_none rfl _ _ _) rfl ?_)
              unfold slices_stableCmpFunc_int_i2.Post
              exact ⟨by first | rfl | (simp; done) | (simp [*]; done) | (simp at c6b0 ⊢; first | exact c6b0 | (simp [c6b0]; done)), HS.out, HK.out⟩

/-! ### slices_SortStableFunc_int_int_i2: function 36 -/
def slices_SortStableFunc_int_int_i2.f (k : Nat) (l0 : List Int) (s0_0 : Int) (s0_1 : Int) (sm2 : List (Int × S26)) : Option (Int × Int × (List Int)) := (slices_stableCmpFunc_int_i2.f k l0 (l0.length : Int) s0_0 s0_1 sm2).bind fun bt369 => (some (bt369.1, bt369.2.1, bt369.2.2))
theorem slices_SortStableFunc_int_int_i2.mono : ∀ a0 a1 a2 a3 k, LeO (slices_SortStableFunc_int_int_i2.f k a0 a1 a2 a3) (slices_SortStableFunc_int_int_i2.f (k + 1) a0 a1 a2 a3) := by
  intro a0 a1 a2 a3 k
  unfold slices_SortStableFunc_int_int_i2.f
  repeat' first
      | (with_reducible exact slices_stableCmpFunc_int_i2.mono _ _ _ _ _ _)
      | (with_reducible exact LeO.refl _)
      | (with_reducible exact LeO.none _)
      | (with_reducible refine LeO.ite ?_ ?_)
      | (with_reducible refine everyOf_le (fun _ => ?_))
      | (with_reducible refine LeO.bind ?_ (fun _ => ?_))
      | exact slices_stableCmpFunc_int_i2.mono _ _ _ _ _ _
      | exact LeO.none _
      | refine LeO.ite ?_ ?_
      | refine LeO.bind ?_ (fun _ => ?_)
def slices_SortStableFunc_int_int_i2.Post (A0 : Option Addr) (c0 : Nat) (l0 : List Int) (b0 : Nat) (b1 : Nat) (b2 : Nat) (bs2 : List Nat) (ck2 : Nat) (sm2 : List (Int × S26)) (r1 : Int) (r2 : Int) (r3 : List Int) (S : Nat → Prop) (L : List Asr) (w : World) (e : Ending) (w' : World) : Prop := e = .returned (.tuple #[]) ∧ SL (cells b0 26 [.int .i64 r1, .int .i64 r2].toArray :: cells b1 55 [.map (some b2)].toArray :: mapo b2 (Value.int .i64) (fun x_ : S26 => Value.agg #[.int .i64 x_.f0, .int .i64 x_.f1]) sm2 bs2 ck2 :: row (Kd.int .i64) 3 (.slice A0 l0.length c0) r3 :: L) w' S ∧ Keep S w w'
set_option maxHeartbeats 8000000 in
set_option maxRecDepth 100000 in
theorem slices_SortStableFunc_int_int_i2.slcalls (k : Nat) (A0 : Option Addr) (c0 : Nat) (l0 : List Int) (b0 : Nat) (s0_0 : Int) (s0_1 : Int) (b1 : Nat) (b2 : Nat) (bs2 : List Nat) (ck2 : Nat) (sm2 : List (Int × S26)) (r1 : Int) (r2 : Int) (r3 : List Int) (S : Nat → Prop) (L : List Asr) (w : World) (hf : Fresh S w) (hs : SL (cells b0 26 [.int .i64 s0_0, .int .i64 s0_1].toArray :: cells b1 55 [.map (some b2)].toArray :: mapo b2 (Value.int .i64) (fun x_ : S26 => Value.agg #[.int .i64 x_.f0, .int .i64 x_.f1]) sm2 bs2 ck2 :: row (Kd.int .i64) 3 (.slice A0 l0.length c0) l0 :: L) w S) (h : slices_SortStableFunc_int_int_i2.f k l0 s0_0 s0_1 sm2 = some (r1, r2, r3)) :
    Calls Try.prog 36 #[.slice A0 l0.length c0, .func (.func 37) #[] #[.pointer (some ⟨b0, 0, none⟩), .pointer (some ⟨b1, 0, none⟩)]] w (slices_SortStableFunc_int_int_i2.Post A0 c0 l0 b0 b1 b2 bs2 ck2 sm2 r1 r2 r3 S L w) := by
  have HF := Aside0.mk hf
  have HS := Aside0.mk hs
  have HK := Aside0.mk (Keep.refl S w)
  clear hf hs
  have H : ((slices_stableCmpFunc_int_i2.f k l0 (l0.length : Int) s0_0 s0_1 sm2).bind fun bt369 => (some (bt369.1, bt369.2.1, bt369.2.2))) = some (r1, r2, r3) := h
  clear h
  replace H := Option.bind_eq_some_iff.1 H
  obtain ⟨⟨t369, t370, t371⟩, Hc10, H⟩ := H
  try dsimp only at H
  have Hc1 := Aside0.mk Hc10
  clear Hc10
  simp only [Option.some.injEq, Prod.mk.injEq] at H
  obtain ⟨rfl, rfl, rfl⟩ := H
  go_enter Try.func36, Try.ntmps36
  go_wp2_with (first | ((with_reducible refine gate_dst (N := 8) rfl ?_); refine goesL_ (some 8) rfl rfl Try.func49 (by kernel_rfl) rfl #[.slice A0 l0.length c0, .int .i64 (l0.length : Int), .func (.func 37) #[] #[.pointer (some ⟨b0, 0, none⟩), .pointer (some ⟨b1, 0, none⟩)]] rfl (by (try simp only [List.map_toArray, List.map_cons, List.map_nil]); first | done | rfl | (simp; done)) ?_; have hs0_ := (SL.get3 (SL.get3 (SL.get3 (SL.get3 HS.out)))); (with_reducible refine (slices_stableCmpFunc_int_i2.slcalls k _ _ _ _ _ _ _ _ _ _ _ _ _ _ _ _ _ _ (HF.out.keep HK.out) hs0_  Hc1.out).mono ?_); rintro e_ w2 ⟨rfl, hsr_, hkr_⟩; refine ⟨_, rfl, ?_⟩; replace HS := Aside0.mk (hsr_); replace HK := Aside0.mk (HK.out.trans hkr_)))
  first | go_end0 | ((try simp only [Exit.inBlock, Exit.then]); refine bodyPost_ret (results_none rfl _ _ _) rfl ?_)
  unfold slices_SortStableFunc_int_int_i2.Post
  exact ⟨by first | rfl | (simp; done) | (simp [*]; done), HS.out, HK.out⟩

/-! ### area_Nearest: function 19 -/
noncomputable def area_Nearest.f (k : Nat) (l0 : List (S47)) (a1_0 : Int) (a1_1 : Int) (a1_2 : Int) (a1_3 : Int) (a1_4 : Int) (a1_5 : Int) (a1_6 : Int) (a2_0 : Int) (a2_1 : Int) (a3 : Int) : Option ((List Int)) := (area_places.f k l0).bind fun t275 => ((area_Units.f k l0 a1_0 a1_1 a1_2 a1_3 a1_4 a1_5 a1_6).bind fun t276 => ((slices_SortStableFunc_int_int_i2.f k t276 a2_0 a2_1 t275).bind fun bt372 => ((some (mx a3 0 : Int)).bind fun j375 => ((some (mn j375 (t276.length : Int) : Int)).bind fun j376 => (if 0 ≤ j376 then (if j376 ≤ (t276.length : Int) then ((some (bt372.2.2.take (j376).toNat : List Int)).bind fun y377 => (some y377)) else (none)) else (none))))))
theorem area_Nearest.mono : ∀ a0 a1 a2 a3 a4 a5 a6 a7 a8 a9 a10 k, LeO (area_Nearest.f k a0 a1 a2 a3 a4 a5 a6 a7 a8 a9 a10) (area_Nearest.f (k + 1) a0 a1 a2 a3 a4 a5 a6 a7 a8 a9 a10) := by
  intro a0 a1 a2 a3 a4 a5 a6 a7 a8 a9 a10 k
  unfold area_Nearest.f
  repeat' first
      | (with_reducible exact area_Units.mono _ _ _ _ _ _ _ _ _)
      | (with_reducible exact area_places.mono _ _)
      | (with_reducible exact slices_SortStableFunc_int_int_i2.mono _ _ _ _ _)
      | (with_reducible exact LeO.refl _)
      | (with_reducible exact LeO.none _)
      | (with_reducible refine LeO.ite ?_ ?_)
      | (with_reducible refine everyOf_le (fun _ => ?_))
      | (with_reducible refine LeO.bind ?_ (fun _ => ?_))
      | exact area_Units.mono _ _ _ _ _ _ _ _ _
      | exact area_places.mono _ _
      | exact slices_SortStableFunc_int_int_i2.mono _ _ _ _ _
      | exact LeO.none _
      | refine LeO.ite ?_ ?_
      | refine LeO.bind ?_ (fun _ => ?_)
def area_Nearest.Post (r : List Int) (S : Nat → Prop) (L : List Asr) (w : World) (e : Ending) (w' : World) : Prop := ∃ (Ar1 : Option Addr) (cr1 : Nat), e = .returned (.slice Ar1 r.length cr1) ∧ SL (row (Kd.int .i64) 3 (.slice Ar1 r.length cr1) r :: L) w' S ∧ Keep S w w'
set_option maxHeartbeats 8000000 in
set_option maxRecDepth 100000 in
theorem area_Nearest.slcalls (k : Nat) (A0 : Option Addr) (c0 : Nat) (l0 : List (S47)) (a1_0 : Int) (a1_1 : Int) (a1_2 : Int) (a1_3 : Int) (a1_4 : Int) (a1_5 : Int) (a1_6 : Int) (a2_0 : Int) (a2_1 : Int) (a3 : Int) (r : List Int) (S : Nat → Prop) (L : List Asr) (w : World) (hf : Fresh S w) (hs : SL (L) w S) (hr0 : RO S w (fun w_ => Kd.C k47 w_ A0 l0.length l0)) (hc0 : l0.length ≤ c0) (h : area_Nearest.f k l0 a1_0 a1_1 a1_2 a1_3 a1_4 a1_5 a1_6 a2_0 a2_1 a3 = some r) :
    Calls Try.prog 19 #[.slice A0 l0.length c0, .agg #[.int .i64 a1_0, .int .i64 a1_1, .int .i64 a1_2, .int .i64 a1_3, .int .i64 a1_4, .int .i64 a1_5, .int .i64 a1_6], .agg #[.int .i64 a2_0, .int .i64 a2_1], .int .i64 a3] w (area_Nearest.Post r S L w) := by
  have HR0 := Aside0.mk hr0
  have HC0 := Aside0.mk hc0
  clear hr0 hc0
  have HF := Aside0.mk hf
  have HS := Aside0.mk hs
  have HK := Aside0.mk (Keep.refl S w)
  clear hf hs
  have hu26 := Try.underlying26
  have hu28 := Try.underlying28
  have H : ((area_places.f k l0).bind fun t275 => ((area_Units.f k l0 a1_0 a1_1 a1_2 a1_3 a1_4 a1_5 a1_6).bind fun t276 => ((slices_SortStableFunc_int_int_i2.f k t276 a2_0 a2_1 t275).bind fun bt372 => ((some (mx a3 0 : Int)).bind fun j375 => ((some (mn j375 (t276.length : Int) : Int)).bind fun j376 => (if 0 ≤ j376 then (if j376 ≤ (t276.length : Int) then ((some (bt372.2.2.take (j376).toNat : List Int)).bind fun y377 => (some y377)) else (none)) else (none))))))) = some r := h
  clear h
  replace H := Option.bind_eq_some_iff.1 H
  obtain ⟨t275, Hc10, H⟩ := H
  try dsimp only at H
  have Hc1 := Aside0.mk Hc10
  clear Hc10
  replace H := Option.bind_eq_some_iff.1 H
  obtain ⟨t276, Hc20, H⟩ := H
  try dsimp only at H
  have Hc2 := Aside0.mk Hc20
  clear Hc20
  replace H := Option.bind_eq_some_iff.1 H
  obtain ⟨⟨t372, t373, t374⟩, Hc30, H⟩ := H
  try dsimp only at H
  have Hc3 := Aside0.mk Hc30
  clear Hc30
  replace H := Option.bind_eq_some_iff.1 H
  obtain ⟨j375, hj3750, H⟩ := H
  try dsimp only at H
  have hj375 := Option.some.inj hj3750
  clear hj3750
  have hj375_ : (if a3 < 0 then 0 else a3) = j375 := hj375
  replace H := Option.bind_eq_some_iff.1 H
  obtain ⟨j376, hj3760, H⟩ := H
  try dsimp only at H
  have hj376 := Option.some.inj hj3760
  clear hj3760
  have hj376_ : (if (t276.length : Int) < j375 then (t276.length : Int) else j375) = j376 := hj376
  by_cases c4 : 0 ≤ j376
  · rw [if_pos c4] at H
    have c4b0 := eq_true c4
    have c4b1 : decide (0 ≤ j376) = true := decide_eq_true c4
    clear c4
    by_cases c5 : j376 ≤ (t276.length : Int)
    · rw [if_pos c5] at H
      have c5b0 := eq_true c5
      have c5b1 : decide (j376 ≤ (t276.length : Int)) = true := decide_eq_true c5
      clear c5
      replace H := Option.bind_eq_some_iff.1 H
      obtain ⟨y377, hy3770, H⟩ := H
      try dsimp only at H
      have hy377 := Option.some.inj hy3770
      clear hy3770
      have Ny377 := Aside0.mk hy377
      clear hy377
      obtain rfl := Option.some.inj H
      go_enter Try.func19, Try.ntmps19
      go_wp2_with (first | ((with_reducible refine gate_dst (N := 5) rfl ?_); refine wpList_plain rfl (fun K_ hK_ => ?_); refine op_box (S := S) (cs := #[.int .i64 a1_0, .int .i64 a1_1, .int .i64 a1_2, .int .i64 a1_3, .int .i64 a1_4, .int .i64 a1_5, .int .i64 a1_6]) (t := 28) (HF.out.keep HK.out) HS.out (by first | (go_simp; done) | (go_simp; rfl)) ?_; intro g3000031 w6 hs_ hk_; refine hK_ _ _ ?_; clear hK_ K_; replace HS := Aside0.mk (hs_); replace HK := Aside0.mk (HK.out.trans hk_)) | ((with_reducible refine gate_dst (N := 6) rfl ?_); refine wpList_plain rfl (fun K_ hK_ => ?_); refine op_box (S := S) (cs := #[.int .i64 a2_0, .int .i64 a2_1]) (t := 26) (HF.out.keep HK.out) HS.out (by first | (go_simp; done) | (go_simp; rfl)) ?_; intro g3000032 w7 hs_ hk_; refine hK_ _ _ ?_; clear hK_ K_; replace HS := Aside0.mk (hs_); replace HK := Aside0.mk (HK.out.trans hk_)) | ((with_reducible refine gate_dst (N := 12) rfl ?_); refine goesL_ (some 12) rfl rfl Try.func33 (by kernel_rfl) rfl #[.slice A0 l0.length c0] rfl (by (try simp only [List.map_toArray, List.map_cons, List.map_nil]); first | done | rfl | (simp; done)) ?_; have hs0_ := HS.out; (with_reducible refine (area_places.slcalls k _ _ _ _ _ _ _ (HF.out.keep HK.out) hs0_ (HR0.out.keep HK.out) HC0.out Hc1.out).mono ?_); rintro e_ w8 ⟨g3000033, zs3000033, zc3000033, rfl, hsr_, hkr_⟩; refine ⟨_, rfl, ?_⟩; replace HS := Aside0.mk (hsr_); replace HK := Aside0.mk (HK.out.trans hkr_)) | ((with_reducible refine gate_dst (N := 9) rfl ?_); refine wpList_plain rfl (fun K_ hK_ => ?_); refine op_box (S := S) (cs := #[.map none]) (t := 55) (HF.out.keep HK.out) HS.out (by first | (go_simp; done) | (go_simp; rfl)) ?_; intro g3000034 w9 hs_ hk_; refine hK_ _ _ ?_; clear hK_ K_; replace HS := Aside0.mk (hs_); replace HK := Aside0.mk (HK.out.trans hk_)) | ((with_reducible refine gate_store (t := 55) (p := 9) (v := (.tmp 12)) rfl ?_); refine wpList_plain rfl (fun K_ hK_ => ?_); refine op_store (S := S) 55 (.tmp 9) (.tmp 12) rfl g3000034 0 (.map (some g3000033)) [.map (some g3000033)] rfl rfl rfl (by kernel_rfl) (by simp [Value.oneCell']) HS.out (by simp) ?_; intro w10 hs_ hk_; refine hK_ _ _ ?_; clear hK_ K_; replace HS := Aside0.mk ((show SL (cells g3000034 55 [.map (some g3000033)].toArray :: _) _ _ from hs_)); replace HK := Aside0.mk (HK.out.trans hk_); have hb_ := SL.at_ (SL.get3 HS.out); have hz3000031_0_5 := ((blk_cell hb_ 0).trans rfl : _ = some (.int .i64 a1_0)); have hz3000031_1_5 := ((blk_cell hb_ 1).trans rfl : _ = some (.int .i64 a1_1)); have hz3000031_2_5 := ((blk_cell hb_ 2).trans rfl : _ = some (.int .i64 a1_2)); have hz3000031_3_5 := ((blk_cell hb_ 3).trans rfl : _ = some (.int .i64 a1_3)); have hz3000031_4_5 := ((blk_cell hb_ 4).trans rfl : _ = some (.int .i64 a1_4)); have hz3000031_5_5 := ((blk_cell hb_ 5).trans rfl : _ = some (.int .i64 a1_5)); have hz3000031_6_5 := ((blk_cell hb_ 6).trans rfl : _ = some (.int .i64 a1_6)); clear hb_) | ((with_reducible refine gate_dst (N := 15) rfl ?_); refine goesL_ (some 15) rfl rfl Try.func17 (by kernel_rfl) rfl #[.slice A0 l0.length c0, .agg #[.int .i64 a1_0, .int .i64 a1_1, .int .i64 a1_2, .int .i64 a1_3, .int .i64 a1_4, .int .i64 a1_5, .int .i64 a1_6]] rfl (by (try simp only [List.map_toArray, List.map_cons, List.map_nil]); first | done | rfl | (simp; done)) ?_; have hs0_ := HS.out; (with_reducible refine (area_Units.slcalls k _ _ _ _ _ _ _ _ _ _ _ _ _ _ (HF.out.keep HK.out) hs0_ (HR0.out.keep HK.out) HC0.out Hc2.out).mono ?_); rintro e_ w11 ⟨Az3000035, cz3000035, rfl, hsr_, hkr_⟩; refine ⟨_, rfl, ?_⟩; replace HS := Aside0.mk (hsr_); replace HK := Aside0.mk (HK.out.trans hkr_); (try clear hz3000031_0_5 hz3000031_1_5 hz3000031_2_5 hz3000031_3_5 hz3000031_4_5 hz3000031_5_5 hz3000031_6_5)) | ((with_reducible refine gate_dst (N := 18) rfl ?_); refine goesL_ (some 18) rfl rfl Try.func36 (by kernel_rfl) rfl #[.slice Az3000035 t276.length cz3000035, .func (.func 37) #[] #[.pointer (some ⟨g3000032, 0, none⟩), .pointer (some ⟨g3000034, 0, none⟩)]] rfl (by (try simp only [List.map_toArray, List.map_cons, List.map_nil]); first | done | rfl | (simp; done)) ?_; have hs0_ := (SL.get3 (SL.get2 (SL.get2 HS.out))); (with_reducible refine (slices_SortStableFunc_int_int_i2.slcalls k _ _ _ _ _ _ _ _ _ _ _ _ _ _ _ _ _ (HF.out.keep HK.out) hs0_  Hc3.out).mono ?_); rintro e_ w12 ⟨rfl, hsr_, hkr_⟩; refine ⟨_, rfl, ?_⟩; replace HS := Aside0.mk (hsr_); replace HK := Aside0.mk (HK.out.trans hkr_); have hv_ := cut_upto (P := Try.prog) (Kd.int .i64) 39 3 .i64 .i64 Try.underlying39 (by kernel_rfl) rfl Az3000035 t276.length cz3000035 t374 (SL.row_c (SL.get3 HS.out)).1 (SL.row_c (SL.get3 HS.out)).2.1 j376 (of_decide_eq_true (by first | (with_reducible assumption) | assumption) : (0 : Int) ≤ (j376 : Int)) (of_decide_eq_true (by first | (with_reducible assumption) | assumption) : (j376 : Int) ≤ ((t276.length : Int) : Int)) y377 Ny377.out; obtain ⟨hcvq380, hcs_, hcc_, hcl_⟩ := hv_; have n2_ := Aside0.mk (SL.back3 (hcs_ _ _ _ (SL.get3 HS.out))); clear HS hcs_ hcc_ hcl_; have HS := n2_; clear n2_))
      go_ret
      replace HS := Aside0.mk (SL.tail (SL.get1 (SL.tail (SL.tail (SL.tail HS.out)))))
      unfold area_Nearest.Post
      exact ⟨Az3000035, cz3000035, by first | rfl | (simp; done) | (simp [*]; done) | (simp at c5b0 ⊢; first | exact c5b0 | (simp [c5b0]; done)), HS.out, HK.out⟩
    · rw [if_neg c5] at H
      exact absurd H (by simp)
  · rw [if_neg c4] at H
    exact absurd H (by simp)

end Go.Proofs.Ytofodbnnminmkaa.XAS
