-- Written by xprint.py (a program of this session) for this claim
import Derived.Test.YtkffeglkbpfndaaSL5
import Derived.Test.YtkffeglkbpfndaaXPLx0
import Derived.Test.YtkffeglkbpfndaaXPLx1
import Derived.Test.YtkffeglkbpfndaaXPLx2
import Derived.Test.YtkffeglkbpfndaaXPLx3
import Derived.Test.YtkffeglkbpfndaaXPLx4
import Derived.Test.YtkffeglkbpfndaaXPLx5
namespace Go.Proofs.Ytkffeglkbpfndaa.XPL
open Go.Proofs.YtkffeglkbpfndaaV Go.Proofs.YtkffeglkbpfndaaS
open Go.RowKit Go.Proofs.YtkffeglkbpfndaaW.PrintWords Go.Proofs.YtkffeglkbpfndaaW.PrintLast Go.Proofs.YtkffeglkbpfndaaW.PrintMore
attribute [local go_sem] max2_int min2_int max_two min_two max_three min_three max_four min_four   -- for this text's walks alone
set_option linter.unusedVariables false
set_option linter.unusedSimpArgs false

/-! ### barrowlaw02_DrawPlays: function 6 -/
mutual
def barrowlaw02_DrawPlays.l0 : Nat → (List Int) → (List (List Int)) → Bool → Int → (List Int) → (List Int) → Option (Bool)
  | 0, _, _, _, _, _, _ => none
  | k + 1, l0, l1, t248, x8_0, y3000018_0, z3000027_0 => if x8_0 < (l1.length : Int) then (if 0 ≤ x8_0 then ((some (rd_L1 l1 x8_0 : List Int)).bind fun y367 => (if (y367.length : Int) = 0 then (barrowlaw02_DrawPlays.l0 k l0 l1 t248 (wrap64 (x8_0 + 1)) y3000018_0 z3000027_0) else (if (y367.length : Int) > 300 then (barrowlaw02_DrawPlays.l0 k l0 l1 t248 (wrap64 (x8_0 + 1)) y3000018_0 z3000027_0) else (if 0 < (y367.length : Int) then (if (Go.bits .and .i64 (rd y367 0) 3) = 0 then ((some (([] : List Int) : List Int)).bind fun y369 => (if y369.length + l0.length < 17592186044416 then ((some (y369 ++ l0 : List Int)).bind fun y370 => ((draw_Stream_Feed.f k y370 y3000018_0).bind fun bt373 => (barrowlaw02_DrawPlays.l1 k l0 l1 t248 x8_0 0 y370 z3000027_0 y370 bt373.1 bt373.2))) else (none))) else (if (Go.bits .and .i64 (rd y367 0) 3) = 1 then ((some (wrap64 ((y367.length : Int) - 1) : Int)).bind fun j391 => (if 0 ≤ j391 then (if j391 < (y367.length : Int) then ((draw_Stream_Below.f k (rd y367 j391) y3000018_0).bind fun bt393 => ((barrowref02_Stream_Below.f k (rd y367 j391) z3000027_0).bind fun bt399 => (if bt393.1 = bt399.1 then (if (bt393.2.1 == bt399.2.1) = true then ((draw_Stream_Left.f bt393.2.2).bind fun bt408 => (if bt408.1 = (bt399.2.2.length : Int) then (barrowlaw02_DrawPlays.l0 k l0 l1 t248 (wrap64 (x8_0 + 1)) bt408.2 bt399.2.2) else (none))) else (none)) else (none)))) else (none)) else (none))) else (if (Go.bits .and .i64 (rd y367 0) 3) = 2 then (if 1 ≤ (y367.length : Int) then ((some (y367.drop (1 : Int).toNat : List Int)).bind fun y412 => ((draw_Stream_Pick.f k y412 y3000018_0).bind fun bt416 => ((some (y367.drop (1 : Int).toNat : List Int)).bind fun y421 => ((barrowref02_Stream_Pick.f k y421 z3000027_0).bind fun bt425 => (if bt416.1 = bt425.1 then (if (bt416.2.1 == bt425.2.1) = true then ((draw_Stream_Left.f bt416.2.2).bind fun bt434 => (if bt434.1 = (bt425.2.2.length : Int) then (barrowlaw02_DrawPlays.l0 k l0 l1 t248 (wrap64 (x8_0 + 1)) bt434.2 bt425.2.2) else (none))) else (none)) else (none)))))) else (none)) else (if (Go.bits .and .i64 (rd y367 0) 3) = 3 then ((some (wrap64 ((y367.length : Int) - 1) : Int)).bind fun j438 => (if 0 ≤ j438 then (if j438 < (y367.length : Int) then ((draw_Stream_Deal.f k (rd y367 j438) y3000018_0).bind fun bt440 => ((barrowref02_Stream_Deal.f k (rd y367 j438) z3000027_0).bind fun bt446 => ((barrowref02_Same.f k bt440.1 bt446.1).bind fun t451 => (if t451 = true then (if (bt440.2.1 == bt446.2.1) = true then ((draw_Stream_Left.f bt440.2.2).bind fun bt456 => (if bt456.1 = (bt446.2.2.length : Int) then (barrowlaw02_DrawPlays.l0 k l0 l1 t248 (wrap64 (x8_0 + 1)) bt456.2 bt446.2.2) else (none))) else (none)) else (none))))) else (none)) else (none))) else ((draw_Stream_Left.f y3000018_0).bind fun bt464 => (if bt464.1 = (z3000027_0.length : Int) then (barrowlaw02_DrawPlays.l0 k l0 l1 t248 (wrap64 (x8_0 + 1)) bt464.2 z3000027_0) else (none))))))) else (none))))) else (none)) else (some t248)
def barrowlaw02_DrawPlays.l1 : Nat → (List Int) → (List (List Int)) → Bool → Int → Int → (List Int) → (List Int) → (List Int) → Int → (List Int) → Option (Bool)
  | 0, _, _, _, _, _, _, _, _, _, _ => none
  | k + 1, l0, l1, t248, x8_0, x13_1, y3000020_1, z3000027_0, y370, t373, t374 => if x13_1 < (y370.length : Int) then (if 0 ≤ x13_1 then ((some (y3000020_1.set (x13_1).toNat 77 : List Int)).bind fun y378 => (barrowlaw02_DrawPlays.l1 k l0 l1 t248 x8_0 (wrap64 (x13_1 + 1)) y378 z3000027_0 y370 t373 t374)) else (none)) else ((barrowref02_Stream_Feed.f k l0 z3000027_0).bind fun bt379 => (if t373 = bt379.1 then ((draw_Stream_Left.f t374).bind fun bt387 => (if bt387.1 = (bt379.2.length : Int) then (barrowlaw02_DrawPlays.l0 k l0 l1 t248 (wrap64 (x8_0 + 1)) bt387.2 bt379.2) else (none))) else (none)))
end
def barrowlaw02_DrawPlays.f (k : Nat) (l0 : List Int) (l1 : List (List Int)) : Option (Bool) := (barrowlaw02_small.f k).bind fun t248 => ((draw_New.f).bind fun t249 => (if (l0.length : Int) > 8192 then (if t248 = true then (some true) else (none)) else (if (l1.length : Int) > 60 then (if t248 = true then (some true) else (none)) else (barrowlaw02_DrawPlays.l0 k l0 l1 t248 0 t249 ([] : List Int)))))
theorem barrowlaw02_DrawPlays.mono_l : ∀ k, (∀ y0 y1 y2 y3 y4 y5, LeO (barrowlaw02_DrawPlays.l0 k y0 y1 y2 y3 y4 y5) (barrowlaw02_DrawPlays.l0 (k + 1) y0 y1 y2 y3 y4 y5)) ∧ (∀ y0 y1 y2 y3 y4 y5 y6 y7 y8 y9, LeO (barrowlaw02_DrawPlays.l1 k y0 y1 y2 y3 y4 y5 y6 y7 y8 y9) (barrowlaw02_DrawPlays.l1 (k + 1) y0 y1 y2 y3 y4 y5 y6 y7 y8 y9))
  | 0 => ⟨fun _ _ _ _ _ _ r h => by simp [barrowlaw02_DrawPlays.l0] at h, fun _ _ _ _ _ _ _ _ _ _ r h => by simp [barrowlaw02_DrawPlays.l1] at h⟩
  | k + 1 => by
    obtain ⟨ih0, ih1⟩ := barrowlaw02_DrawPlays.mono_l k
    refine ⟨?_, ?_⟩
    · intro y0 y1 y2 y3 y4 y5
      unfold barrowlaw02_DrawPlays.l0
      repeat' first
      | (with_reducible exact ih0 _ _ _ _ _ _)
      | (with_reducible exact ih1 _ _ _ _ _ _ _ _ _ _)
      | (with_reducible exact barrowlaw02_small.mono _)
      | (with_reducible exact barrowref02_Same.mono _ _ _)
      | (with_reducible exact barrowref02_Stream_Below.mono _ _ _)
      | (with_reducible exact barrowref02_Stream_Deal.mono _ _ _)
      | (with_reducible exact barrowref02_Stream_Feed.mono _ _ _)
      | (with_reducible exact barrowref02_Stream_Pick.mono _ _ _)
      | (with_reducible exact draw_Stream_Below.mono _ _ _)
      | (with_reducible exact draw_Stream_Deal.mono _ _ _)
      | (with_reducible exact draw_Stream_Feed.mono _ _ _)
      | (with_reducible exact draw_Stream_Pick.mono _ _ _)
      | (with_reducible exact LeO.refl _)
      | (with_reducible exact LeO.none _)
      | (with_reducible refine LeO.ite ?_ ?_)
      | (with_reducible refine everyOf_le (fun _ => ?_))
      | (with_reducible refine LeO.bind ?_ (fun _ => ?_))
      | exact ih0 _ _ _ _ _ _
      | exact ih1 _ _ _ _ _ _ _ _ _ _
      | exact barrowlaw02_small.mono _
      | exact barrowref02_Same.mono _ _ _
      | exact barrowref02_Stream_Below.mono _ _ _
      | exact barrowref02_Stream_Deal.mono _ _ _
      | exact barrowref02_Stream_Feed.mono _ _ _
      | exact barrowref02_Stream_Pick.mono _ _ _
      | exact draw_Stream_Below.mono _ _ _
      | exact draw_Stream_Deal.mono _ _ _
      | exact draw_Stream_Feed.mono _ _ _
      | exact draw_Stream_Pick.mono _ _ _
      | exact LeO.none _
      | refine LeO.ite ?_ ?_
      | refine LeO.bind ?_ (fun _ => ?_)
    · intro y0 y1 y2 y3 y4 y5 y6 y7 y8 y9
      unfold barrowlaw02_DrawPlays.l1
      repeat' first
      | (with_reducible exact ih0 _ _ _ _ _ _)
      | (with_reducible exact ih1 _ _ _ _ _ _ _ _ _ _)
      | (with_reducible exact barrowlaw02_small.mono _)
      | (with_reducible exact barrowref02_Same.mono _ _ _)
      | (with_reducible exact barrowref02_Stream_Below.mono _ _ _)
      | (with_reducible exact barrowref02_Stream_Deal.mono _ _ _)
      | (with_reducible exact barrowref02_Stream_Feed.mono _ _ _)
      | (with_reducible exact barrowref02_Stream_Pick.mono _ _ _)
      | (with_reducible exact draw_Stream_Below.mono _ _ _)
      | (with_reducible exact draw_Stream_Deal.mono _ _ _)
      | (with_reducible exact draw_Stream_Feed.mono _ _ _)
      | (with_reducible exact draw_Stream_Pick.mono _ _ _)
      | (with_reducible exact LeO.refl _)
      | (with_reducible exact LeO.none _)
      | (with_reducible refine LeO.ite ?_ ?_)
      | (with_reducible refine everyOf_le (fun _ => ?_))
      | (with_reducible refine LeO.bind ?_ (fun _ => ?_))
      | exact ih0 _ _ _ _ _ _
      | exact ih1 _ _ _ _ _ _ _ _ _ _
      | exact barrowlaw02_small.mono _
      | exact barrowref02_Same.mono _ _ _
      | exact barrowref02_Stream_Below.mono _ _ _
      | exact barrowref02_Stream_Deal.mono _ _ _
      | exact barrowref02_Stream_Feed.mono _ _ _
      | exact barrowref02_Stream_Pick.mono _ _ _
      | exact draw_Stream_Below.mono _ _ _
      | exact draw_Stream_Deal.mono _ _ _
      | exact draw_Stream_Feed.mono _ _ _
      | exact draw_Stream_Pick.mono _ _ _
      | exact LeO.none _
      | refine LeO.ite ?_ ?_
      | refine LeO.bind ?_ (fun _ => ?_)
theorem barrowlaw02_DrawPlays.mono : ∀ a0 a1 k, LeO (barrowlaw02_DrawPlays.f k a0 a1) (barrowlaw02_DrawPlays.f (k + 1) a0 a1) := by
  intro a0 a1 k
  obtain ⟨ih0, ih1⟩ := barrowlaw02_DrawPlays.mono_l k
  unfold barrowlaw02_DrawPlays.f
  repeat' first
      | (with_reducible exact ih0 _ _ _ _ _ _)
      | (with_reducible exact ih1 _ _ _ _ _ _ _ _ _ _)
      | (with_reducible exact barrowlaw02_small.mono _)
      | (with_reducible exact barrowref02_Same.mono _ _ _)
      | (with_reducible exact barrowref02_Stream_Below.mono _ _ _)
      | (with_reducible exact barrowref02_Stream_Deal.mono _ _ _)
      | (with_reducible exact barrowref02_Stream_Feed.mono _ _ _)
      | (with_reducible exact barrowref02_Stream_Pick.mono _ _ _)
      | (with_reducible exact draw_Stream_Below.mono _ _ _)
      | (with_reducible exact draw_Stream_Deal.mono _ _ _)
      | (with_reducible exact draw_Stream_Feed.mono _ _ _)
      | (with_reducible exact draw_Stream_Pick.mono _ _ _)
      | (with_reducible exact LeO.refl _)
      | (with_reducible exact LeO.none _)
      | (with_reducible refine LeO.ite ?_ ?_)
      | (with_reducible refine everyOf_le (fun _ => ?_))
      | (with_reducible refine LeO.bind ?_ (fun _ => ?_))
      | exact ih0 _ _ _ _ _ _
      | exact ih1 _ _ _ _ _ _ _ _ _ _
      | exact barrowlaw02_small.mono _
      | exact barrowref02_Same.mono _ _ _
      | exact barrowref02_Stream_Below.mono _ _ _
      | exact barrowref02_Stream_Deal.mono _ _ _
      | exact barrowref02_Stream_Feed.mono _ _ _
      | exact barrowref02_Stream_Pick.mono _ _ _
      | exact draw_Stream_Below.mono _ _ _
      | exact draw_Stream_Deal.mono _ _ _
      | exact draw_Stream_Feed.mono _ _ _
      | exact draw_Stream_Pick.mono _ _ _
      | exact LeO.none _
      | refine LeO.ite ?_ ?_
      | refine LeO.bind ?_ (fun _ => ?_)
def barrowlaw02_DrawPlays.T33 : Bool × List (List Nat × List Nat) := (true, [([], []), ([0], [0]), ([1], [1]), ([2], [2]), ([3, 2, 2], [2, 3]), ([2], [2]), ([5, 2], [2, 5]), ([6, 2], [2, 6]), ([7, 2], [2, 7]), ([8, 2], [2, 8]), ([4, 9, 2], [2, 4, 9]), ([2, 10], [2, 10])])
def barrowlaw02_DrawPlays.B33 : List Nat := [0, 1, 3, 7, 15, 7, 39, 103, 231, 487, 1023, 2047]
theorem barrowlaw02_DrawPlays.tab33 : rtab .any (opsOf Try.f6 33) = barrowlaw02_DrawPlays.T33 := by kernel_rfl
theorem barrowlaw02_DrawPlays.bits33 : waitsOk barrowlaw02_DrawPlays.T33.2 barrowlaw02_DrawPlays.B33 = true := by kernel_rfl
def barrowlaw02_DrawPlays.Post (r : Bool) (S : Nat → Prop) (L : List Asr) (w : World) (e : Ending) (w' : World) : Prop := e = .returned (.bool r) ∧ SL (L) w' S ∧ Keep S w w'
set_option maxHeartbeats 8000000 in
set_option maxRecDepth 100000 in
theorem barrowlaw02_DrawPlays.slcalls (k : Nat) (A0 : Option Addr) (c0 : Nat) (l0 : List Int) (A1 : Option Addr) (c1 : Nat) (l1 : List (List Int)) (r : Bool) (S : Nat → Prop) (L : List Asr) (w : World) (hf : Fresh S w) (hs : SL (L) w S) (hr0 : RO S w (fun w_ => Kd.C (Kd.int .i64) w_ A0 l0.length l0)) (hc0 : l0.length ≤ c0) (hr1 : RO S w (fun w_ => Kd.C (Kd.slice 3 (Kd.int .i64)) w_ A1 l1.length l1)) (hc1 : l1.length ≤ c1) (h : barrowlaw02_DrawPlays.f k l0 l1 = some r) :
    Calls Try.prog 6 #[.slice A0 l0.length c0, .slice A1 l1.length c1] w (barrowlaw02_DrawPlays.Post r S L w) := by
  have HR0 := Aside0.mk hr0
  have HC0 := Aside0.mk hc0
  clear hr0 hc0
  have HR1 := Aside0.mk hr1
  have HC1 := Aside0.mk hc1
  clear hr1 hc1
  have HF := Aside0.mk hf
  have HS := Aside0.mk hs
  have HK := Aside0.mk (Keep.refl S w)
  clear hf hs
  have hu39 := Try.underlying39
  have H : ((barrowlaw02_small.f k).bind fun t248 => ((draw_New.f).bind fun t249 => (if (l0.length : Int) > 8192 then (if t248 = true then (some true) else (none)) else (if (l1.length : Int) > 60 then (if t248 = true then (some true) else (none)) else (barrowlaw02_DrawPlays.l0 k l0 l1 t248 0 t249 ([] : List Int)))))) = some r := h
  clear h
  replace H := Option.bind_eq_some_iff.1 H
  obtain ⟨t248, Hc10, H⟩ := H
  try dsimp only at H
  have Hc1 := Aside0.mk Hc10
  clear Hc10
  replace H := Option.bind_eq_some_iff.1 H
  obtain ⟨t249, Hc20, H⟩ := H
  try dsimp only at H
  have Hc2 := Aside0.mk Hc20
  clear Hc20
  by_cases c3 : (l0.length : Int) > 8192
  · rw [if_pos c3] at H
    have c3b0 : decide (8192 < (l0.length : Int)) = true := decide_eq_true c3
    have c3b1 : decide (8192 < l0.length) = true := decide_eq_true (by omega)
    clear c3
    by_cases c4 : t248 = true
    · subst c4
      rw [if_pos rfl] at H
      obtain rfl := Option.some.inj H
      go_enter Try.func6, Try.ntmps6
      go_wp2_with (first | ((with_reducible refine gate_dst (N := 26) rfl ?_); refine goesL_ (some 26) rfl rfl Try.func8 (by kernel_rfl) rfl #[] rfl (by (try simp only [List.map_toArray, List.map_cons, List.map_nil]); first | done | rfl | (simp; done)) ?_; (with_reducible refine (barrowlaw02_small.calls k _ _  Hc1.out).mono ?_); rintro e_ w5 ⟨rfl, hb_⟩; refine ⟨_, rfl, ?_⟩; replace HS := Aside0.mk (HS.out.below hb_); replace HK := Aside0.mk (HK.out.trans (Keep.below hb_))) | ((with_reducible refine gate_dst (N := 27) rfl ?_); refine goesL_ (some 27) rfl rfl Try.func11 (by kernel_rfl) rfl #[] rfl (by (try simp only [List.map_toArray, List.map_cons, List.map_nil]); first | done | rfl | (simp; done)) ?_; have hs0_ := HS.out; (with_reducible refine (draw_New.slcalls _ _ _ _ (HF.out.keep HK.out) hs0_  Hc2.out).mono ?_); rintro e_ w6 ⟨g3000017, Az3000018, cz3000018, rfl, hsr_, hkr_⟩; refine ⟨_, rfl, ?_⟩; replace HS := Aside0.mk (hsr_); replace HK := Aside0.mk (HK.out.trans hkr_)))
      go_ret
      replace HS := Aside0.mk (SL.tail (SL.tail HS.out))
      unfold barrowlaw02_DrawPlays.Post
      exact ⟨by first | rfl | (simp; done) | (simp [*]; done) | (simp at c3b0 ⊢; first | exact c3b0 | (simp [c3b0]; done)), HS.out, HK.out⟩
    · replace c4 := Bool.eq_false_iff.mpr c4
      subst c4
      rw [if_neg (show ¬ (false = true) by decide)] at H
      exact absurd H (by simp)
  · rw [if_neg c3] at H
    have c3b0 : decide (8192 < (l0.length : Int)) = false := decide_eq_false c3
    have c3b1 : decide (8192 < l0.length) = false := decide_eq_false (by omega)
    clear c3
    by_cases c7 : (l1.length : Int) > 60
    · rw [if_pos c7] at H
      have c7b0 : decide (60 < (l1.length : Int)) = true := decide_eq_true c7
      have c7b1 : decide (60 < l1.length) = true := decide_eq_true (by omega)
      clear c7
      by_cases c8 : t248 = true
      · subst c8
        rw [if_pos rfl] at H
        obtain rfl := Option.some.inj H
        go_enter Try.func6, Try.ntmps6
        go_wp2_with (first | ((with_reducible refine gate_dst (N := 26) rfl ?_); refine goesL_ (some 26) rfl rfl Try.func8 (by kernel_rfl) rfl #[] rfl (by (try simp only [List.map_toArray, List.map_cons, List.map_nil]); first | done | rfl | (simp; done)) ?_; (with_reducible refine (barrowlaw02_small.calls k _ _  Hc1.out).mono ?_); rintro e_ w9 ⟨rfl, hb_⟩; refine ⟨_, rfl, ?_⟩; replace HS := Aside0.mk (HS.out.below hb_); replace HK := Aside0.mk (HK.out.trans (Keep.below hb_))) | ((with_reducible refine gate_dst (N := 27) rfl ?_); refine goesL_ (some 27) rfl rfl Try.func11 (by kernel_rfl) rfl #[] rfl (by (try simp only [List.map_toArray, List.map_cons, List.map_nil]); first | done | rfl | (simp; done)) ?_; have hs0_ := HS.out; (with_reducible refine (draw_New.slcalls _ _ _ _ (HF.out.keep HK.out) hs0_  Hc2.out).mono ?_); rintro e_ w10 ⟨g3000017, Az3000018, cz3000018, rfl, hsr_, hkr_⟩; refine ⟨_, rfl, ?_⟩; replace HS := Aside0.mk (hsr_); replace HK := Aside0.mk (HK.out.trans hkr_)))
        go_ret
        replace HS := Aside0.mk (SL.tail (SL.tail HS.out))
        unfold barrowlaw02_DrawPlays.Post
        exact ⟨by first | rfl | (simp; done) | (simp [*]; done) | (simp at c7b0 ⊢; first | exact c7b0 | (simp [c7b0]; done)), HS.out, HK.out⟩
      · replace c8 := Bool.eq_false_iff.mpr c8
        subst c8
        rw [if_neg (show ¬ (false = true) by decide)] at H
        exact absurd H (by simp)
    · rw [if_neg c7] at H
      have c7b0 : decide (60 < (l1.length : Int)) = false := decide_eq_false c7
      have c7b1 : decide (60 < l1.length) = false := decide_eq_false (by omega)
      clear c7
      have H' := Aside0.mk H
      clear H
      go_enter Try.func6, Try.ntmps6
      go_wp2_with (first | ((with_reducible refine gate_dst (N := 26) rfl ?_); refine goesL_ (some 26) rfl rfl Try.func8 (by kernel_rfl) rfl #[] rfl (by (try simp only [List.map_toArray, List.map_cons, List.map_nil]); first | done | rfl | (simp; done)) ?_; (with_reducible refine (barrowlaw02_small.calls k _ _  Hc1.out).mono ?_); rintro e_ w11 ⟨rfl, hb_⟩; refine ⟨_, rfl, ?_⟩; replace HS := Aside0.mk (HS.out.below hb_); replace HK := Aside0.mk (HK.out.trans (Keep.below hb_))) | ((with_reducible refine gate_dst (N := 27) rfl ?_); refine goesL_ (some 27) rfl rfl Try.func11 (by kernel_rfl) rfl #[] rfl (by (try simp only [List.map_toArray, List.map_cons, List.map_nil]); first | done | rfl | (simp; done)) ?_; have hs0_ := HS.out; (with_reducible refine (draw_New.slcalls _ _ _ _ (HF.out.keep HK.out) hs0_  Hc2.out).mono ?_); rintro e_ w12 ⟨g3000017, Az3000018, cz3000018, rfl, hsr_, hkr_⟩; refine ⟨_, rfl, ?_⟩; replace HS := Aside0.mk (hsr_); replace HK := Aside0.mk (HK.out.trans hkr_)) | ((with_reducible refine gate_dst (N := 46) rfl ?_); refine wpList_plain rfl (fun K_ hK_ => ?_); refine op_box (S := S) (cs := #[.slice none 0 0]) (t := 39) (HF.out.keep HK.out) HS.out (by first | (go_simp; done) | (go_simp; rfl)) ?_; intro g3000019 w13 hs_ hk_; refine hK_ _ _ ?_; clear hK_ K_; replace HS := Aside0.mk (hs_); replace HK := Aside0.mk (HK.out.trans hk_); have n2_ := Aside0.mk (SL.nil_row (Kd.int .i64) 3 HS.out); clear HS; have HS := n2_; clear n2_))
      go_loopg [8] k (fun kq v8 w' => ∃ (z3000027_0 : List Int) (Az3000027_0 : Option Addr) (cz3000027_0 : Nat) (y3000018_0 : List Int) (A3000018_0 : Option Addr) (c3000018_0 : Nat) (x8_0 : Int), v8 = .int .i64 x8_0 ∧ Aside0 (barrowlaw02_DrawPlays.l0 kq l0 l1 t248 x8_0 y3000018_0 z3000027_0 = some r) ∧ Aside0 (kq ≤ k) ∧ Aside0 (SL (row (Kd.int .i64) 3 (.slice Az3000027_0 z3000027_0.length cz3000027_0) z3000027_0 :: cells g3000019 39 [.slice Az3000027_0 z3000027_0.length cz3000027_0].toArray :: cells g3000017 50 [.slice A3000018_0 y3000018_0.length c3000018_0].toArray :: row (Kd.int .i64) 3 (.slice A3000018_0 y3000018_0.length c3000018_0) y3000018_0 :: L) w' S) ∧ Aside0 (Keep S w w'))
      case atStart => exact ⟨(([] : List Int)), (none), (0), (t249), (Az3000018), (cz3000018), (0), (by first | rfl | (simp; done) | (simp [*]; done)), H', ⟨Nat.le_refl _⟩, HS, HK⟩
      case round =>
        clear H' HS HK
        obtain ⟨z3000027_0, Az3000027_0, cz3000027_0, y3000018_0, A3000018_0, c3000018_0, x8_0, rfl, HA, HQ1, HS, HK⟩ := hrel
        cases gk with
        | zero => exact absurd HA.out (by simp [barrowlaw02_DrawPlays.l0])
        | succ k1 =>
          have H := HA.out
          clear HA
          simp only [barrowlaw02_DrawPlays.l0] at H
          by_cases c14 : x8_0 < (l1.length : Int)
          · rw [if_pos c14] at H
            have c14b0 : decide (x8_0 < (l1.length : Int)) = true := decide_eq_true c14
            clear c14
            by_cases c15 : 0 ≤ x8_0
            · rw [if_pos c15] at H
              have c15b0 : decide (0 ≤ x8_0) = true := decide_eq_true c15
              clear c15
              replace H := Option.bind_eq_some_iff.1 H
              obtain ⟨y367, hy3670, H⟩ := H
              try dsimp only at H
              have hy367 := Option.some.inj hy3670
              clear hy3670
              have Ny367 := Aside0.mk hy367
              clear hy367
              by_cases c16 : (y367.length : Int) = 0
              · rw [if_pos c16] at H
                have c16b0 : ((y367.length : Int) == 0) = true := beq_iff_eq.mpr c16
                have c16b1 : ((y367.length : Int) != 0) = false := bne_eq_false_iff_eq.mpr c16
                clear c16
                have H' := Aside0.mk H
                clear H
                have pq366 : 0 ≤ (x8_0 : Int) := of_decide_eq_true (by first | (with_reducible assumption) | assumption)
                have qq366 : x8_0 < ((l1.length : Int) : Int) := of_decide_eq_true (by first | (with_reducible assumption) | assumption)
                obtain ⟨adq366, Aq366_0, cq366_0, eq366, hxxq366, hiq366, hlq366⟩ := RO.inner HR1.out x8_0 pq366 qq366 y367 Ny367.out
                have hxq366_0 := hxxq366 _ HK.out
                clear hxxq366
                have HRq366_0 := Aside0.mk hiq366
                have HCq366_0 := Aside0.mk hlq366
                clear hiq366 hlq366
                cases eq366
                replace pq366 := eq_true pq366
                replace qq366 := eq_true qq366
                go_wp2
                go_roundg k1
                case measure => have := HQ1.out; omega
                case rel => exact ⟨(z3000027_0), (Az3000027_0), (cz3000027_0), (y3000018_0), (A3000018_0), (c3000018_0), (wrap64 (x8_0 + 1)), (by first | rfl | (simp; done) | (simp [*]; done)), H', ⟨by have := HQ1.out; omega⟩, HS, HK⟩
              · rw [if_neg c16] at H
                have c16b0 : ((y367.length : Int) == 0) = false := beq_eq_false_iff_ne.mpr c16
                have c16b1 : ((y367.length : Int) != 0) = true := bne_iff_ne.mpr c16
                have c16b2 : ¬ (y367 = []) := fun h_ => c16 (by rw [h_]; rfl)
                by_cases c17 : (y367.length : Int) > 300
                · rw [if_pos c17] at H
                  have c17b0 : decide (300 < (y367.length : Int)) = true := decide_eq_true c17
                  have c17b1 : decide (300 < y367.length) = true := decide_eq_true (by omega)
                  clear c17
                  have H' := Aside0.mk H
                  clear H
                  have pq366 : 0 ≤ (x8_0 : Int) := of_decide_eq_true (by first | (with_reducible assumption) | assumption)
                  have qq366 : x8_0 < ((l1.length : Int) : Int) := of_decide_eq_true (by first | (with_reducible assumption) | assumption)
                  obtain ⟨adq366, Aq366_0, cq366_0, eq366, hxxq366, hiq366, hlq366⟩ := RO.inner HR1.out x8_0 pq366 qq366 y367 Ny367.out
                  have hxq366_0 := hxxq366 _ HK.out
                  clear hxxq366
                  have HRq366_0 := Aside0.mk hiq366
                  have HCq366_0 := Aside0.mk hlq366
                  clear hiq366 hlq366
                  cases eq366
                  replace pq366 := eq_true pq366
                  replace qq366 := eq_true qq366
                  go_wp2
                  go_roundg k1
                  case measure => have := HQ1.out; omega
                  case rel => exact ⟨(z3000027_0), (Az3000027_0), (cz3000027_0), (y3000018_0), (A3000018_0), (c3000018_0), (wrap64 (x8_0 + 1)), (by first | rfl | (simp; done) | (simp [*]; done)), H', ⟨by have := HQ1.out; omega⟩, HS, HK⟩
                · rw [if_neg c17] at H
                  have c17b0 : decide (300 < (y367.length : Int)) = false := decide_eq_false c17
                  have c17b1 : decide (300 < y367.length) = false := decide_eq_false (by omega)
                  clear c17
                  by_cases c18 : 0 < (y367.length : Int)
                  · rw [if_pos c18] at H
                    have c18b0 : decide (0 < (y367.length : Int)) = true := decide_eq_true c18
                    have c18b1 : decide (0 < y367.length) = true := decide_eq_true (by omega)
                    clear c18
                    by_cases c19 : (Go.bits .and .i64 (rd y367 0) 3) = 0
                    · rw [if_pos c19] at H
                      have c19b0 : ((Go.bits .and .i64 (rd y367 0) 3) == 0) = true := beq_iff_eq.mpr c19
                      have c19b1 : ((Go.bits .and .i64 (rd y367 0) 3) != 0) = false := bne_eq_false_iff_eq.mpr c19
                      clear c19
                      replace H := Option.bind_eq_some_iff.1 H
                      obtain ⟨y369, hy3690, H⟩ := H
                      try dsimp only at H
                      have hy369 := Option.some.inj hy3690
                      clear hy3690
                      have Ny369 := Aside0.mk hy369
                      clear hy369
                      by_cases c20 : y369.length + l0.length < 17592186044416
                      · rw [if_pos c20] at H
                        have LMc20 := Aside0.mk c20
                        clear c20
                        replace H := Option.bind_eq_some_iff.1 H
                        obtain ⟨y370, hy3700, H⟩ := H
                        try dsimp only at H
                        have hy370 := Option.some.inj hy3700
                        clear hy3700
                        have Ny370 := Aside0.mk hy370
                        clear hy370
                        replace H := Option.bind_eq_some_iff.1 H
                        obtain ⟨⟨t373, t374⟩, Hc210, H⟩ := H
                        try dsimp only at H
                        have Hc21 := Aside0.mk Hc210
                        clear Hc210
                        have H' := Aside0.mk H
                        clear H
                        have pq366 : 0 ≤ (x8_0 : Int) := of_decide_eq_true (by first | (with_reducible assumption) | assumption)
                        have qq366 : x8_0 < ((l1.length : Int) : Int) := of_decide_eq_true (by first | (with_reducible assumption) | assumption)
                        obtain ⟨adq366, Aq366_0, cq366_0, eq366, hxxq366, hiq366, hlq366⟩ := RO.inner HR1.out x8_0 pq366 qq366 y367 Ny367.out
                        have hxq366_0 := hxxq366 _ HK.out
                        clear hxxq366
                        have HRq366_0 := Aside0.mk hiq366
                        have HCq366_0 := Aside0.mk hlq366
                        clear hiq366 hlq366
                        cases eq366
                        replace pq366 := eq_true pq366
                        replace qq366 := eq_true qq366
                        have pq368 : 0 ≤ (0 : Int) := (by omega)
                        have qq368 : 0 < ((y367.length : Int) : Int) := of_decide_eq_true (by first | (with_reducible assumption) | assumption)
                        obtain ⟨adq368, eq368, hxq368_0⟩ := Kd.at_int (RO.at_ HRq366_0.out HK.out) 0 pq368 qq368
                        cases eq368
                        (try rw [show ((0 : Int)).toNat = 0 from rfl] at hxq368_0)
                        (try rw [Addr.add_zero'] at hxq368_0)
                        have qiq368 : (0 < y367.length) = True := eq_true (by omega)
                        replace pq368 := eq_true pq368
                        replace qq368 := eq_true qq368
                        go_wp2_with (first | ((with_reducible refine gate_dst (N := 71) rfl ?_); refine wpList_plain rfl (fun K_ hK_ => ?_); refine op_row (S := S) (enc := Value.int .i64) (h1 := fun _ => rfl) 3 y369 #[] 0 (by rw [← Ny369.out]; rfl) (by rw [← Ny369.out]; rfl) (by decide) (HF.out.keep HK.out) HS.out (by first | (go_simp; done) | (go_simp; rfl)) ?_; intro Az3000020 cz3000020 w22 hs_ hk_; refine hK_ _ _ ?_; clear hK_ K_; replace HS := Aside0.mk ((show SL (row (Kd.int .i64) 3 (.slice Az3000020 0 cz3000020) y369 :: _) _ _ from hs_)); replace HK := Aside0.mk (HK.out.trans hk_)) | ((with_reducible refine gate_dst (N := 73) rfl ?_); refine wpList_plain rfl (fun K_ hK_ => ?_); refine op_append (S := S) (enc := Value.int .i64) (h1 := fun _ => rfl) 0 (.tmp 71) (.tmp 72) 22 3 (.int .i64 0) 8 rfl Try.underlying22 info3 rfl (by decide) (.slice Az3000020 0 cz3000020) rfl rfl (HF.out.keep HK.out) HS.out (RO.at_ HR0.out HK.out) (by have := LMc20.out; omega) y370 Ny370.out ?_; intro A371 c372 w23 hs_ hk_; refine hK_ _ _ ?_; clear hK_ K_; replace HS := Aside0.mk ((show SL (row (Kd.int .i64) 3 (.slice A371 y370.length c372) y370 :: _) _ _ from hs_)); replace HK := Aside0.mk (HK.out.trans hk_)) | ((with_reducible refine gate_dst (N := 76) rfl ?_); refine goesL_ (some 76) rfl rfl Try.func12 (by kernel_rfl) rfl #[.pointer (some ⟨g3000017, 0, none⟩), .slice A371 y370.length c372] rfl (by (try simp only [List.map_toArray, List.map_cons, List.map_nil]); first | done | rfl | (simp; done)) ?_; have hs0_ := (SL.get2 (SL.get4 (SL.get4 HS.out))); obtain ⟨U1_, hfU1_, hsub1_, hs1_, hro1_, hback1_⟩ := SL.lend (HF.out.keep HK.out) hs0_ (p := fun w_ => Kd.C (Kd.int .i64) w_ A371 y370.length y370) (fun w_ T_ h_ => (Qs_c h_).2.2); (with_reducible refine (draw_Stream_Feed.slcalls k1 _ _ _ _ _ _ _ _ _ _ _ _ hfU1_ hs1_ hro1_ (SL.row_c HS.out).2.1 Hc21.out).mono ?_); rintro e_ w24 ⟨A375, c376, rfl, hsr_, hkr_⟩; refine ⟨_, rfl, ?_⟩; replace HS := Aside0.mk ((hback1_ _ _ hkr_ hsr_)); replace HK := Aside0.mk (HK.out.trans (Keep.sub hkr_ (fun k_ h_ => hsub1_ k_ h_)))))
                        try go_simp
                        go_loopg [13] k1 (fun kq v13 w' => ∃ (y3000020_1 : List Int) (x13_1 : Int), v13 = .int .i64 x13_1 ∧ Aside0 (barrowlaw02_DrawPlays.l1 kq l0 l1 t248 x8_0 x13_1 y3000020_1 z3000027_0 y370 t373 t374 = some r) ∧ Aside0 (kq ≤ k1) ∧ Aside0 (SL (row (Kd.int .i64) 3 (.slice A371 y370.length c372) y3000020_1 :: cells g3000017 50 [.slice A375 t374.length c376].toArray :: row (Kd.int .i64) 3 (.slice A375 t374.length c376) t374 :: row (Kd.int .i64) 3 (.slice Az3000027_0 z3000027_0.length cz3000027_0) z3000027_0 :: cells g3000019 39 [.slice Az3000027_0 z3000027_0.length cz3000027_0].toArray :: L) w' S) ∧ Aside0 (Keep S w w'))
                        case atStart => exact ⟨(y370), (0), (by first | rfl | (simp; done) | (simp [*]; done)), H', ⟨Nat.le_refl _⟩, HS, HK⟩
                        case round =>
                          clear H' HS HK
                          obtain ⟨y3000020_1, x13_1, rfl, HA, HQ2, HS, HK⟩ := hrel
                          cases gk with
                          | zero => exact absurd HA.out (by simp [barrowlaw02_DrawPlays.l1])
                          | succ k2 =>
                            have H := HA.out
                            clear HA
                            simp only [barrowlaw02_DrawPlays.l1] at H
                            by_cases c25 : x13_1 < (y370.length : Int)
                            · rw [if_pos c25] at H
                              have c25b0 : decide (x13_1 < (y370.length : Int)) = true := decide_eq_true c25
                              clear c25
                              by_cases c26 : 0 ≤ x13_1
                              · rw [if_pos c26] at H
                                have c26b0 : decide (0 ≤ x13_1) = true := decide_eq_true c26
                                clear c26
                                replace H := Option.bind_eq_some_iff.1 H
                                obtain ⟨y378, hy3780, H⟩ := H
                                try dsimp only at H
                                have hy378 := Option.some.inj hy3780
                                clear hy3780
                                have Ny378 := Aside0.mk hy378
                                clear hy378
                                have H' := Aside0.mk H
                                clear H
                                have pq377 : 0 ≤ (x13_1 : Int) := of_decide_eq_true (by first | (with_reducible assumption) | assumption)
                                have qq377 : x13_1 < ((y370.length : Int) : Int) := of_decide_eq_true (by first | (with_reducible assumption) | assumption)
                                obtain ⟨adq377, eq377, hxq377_0⟩ := Kd.at_int (SL.row_c HS.out).2.2 x13_1 pq377 qq377
                                cases eq377
                                replace pq377 := eq_true pq377
                                replace qq377 := eq_true qq377
                                go_wp2_with (first | ((with_reducible refine gate_store (t := 3) (p := 85) (v := (.const (.int .i64 77))) rfl ?_); refine wpList_plain rfl (fun K_ hK_ => ?_); refine op_set (S := S) (enc := Value.int .i64) (h1 := fun _ => rfl) 3 (.tmp 85) (.const (.int .i64 77)) rfl adq377 (x13_1) 77 HS.out (by rfl) rfl (by kernel_rfl) (of_decide_eq_true (by first | (with_reducible assumption) | assumption)) (of_decide_eq_true (by first | (with_reducible assumption) | assumption)) y378 Ny378.out ?_; intro w27 hs_ hk_; refine hK_ _ _ ?_; clear hK_ K_; replace HS := Aside0.mk ((show SL (row (Kd.int .i64) 3 (.slice (some adq377) y370.length c372) y378 :: _) _ _ from hs_)); replace HK := Aside0.mk (HK.out.trans hk_)))
                                go_roundg k2
                                case measure => have := HQ1.out; have := HQ2.out; omega
                                case rel => exact ⟨(y378), (wrap64 (x13_1 + 1)), (by first | rfl | (simp; done) | (simp [*]; done)), H', ⟨by have := HQ1.out; have := HQ2.out; omega⟩, HS, HK⟩
                              · rw [if_neg c26] at H
                                exact absurd H (by simp)
                            · rw [if_neg c25] at H
                              have c25b0 : decide (x13_1 < (y370.length : Int)) = false := decide_eq_false c25
                              clear c25
                              replace H := Option.bind_eq_some_iff.1 H
                              obtain ⟨⟨t379, t380⟩, Hc280, H⟩ := H
                              try dsimp only at H
                              have Hc28 := Aside0.mk Hc280
                              clear Hc280
                              by_cases c29 : t373 = t379
                              · rw [if_pos c29] at H
                                have c29b0 : (t373 == t379) = true := beq_iff_eq.mpr c29
                                have c29b1 : (t373 != t379) = false := bne_eq_false_iff_eq.mpr c29
                                clear c29
                                replace H := Option.bind_eq_some_iff.1 H
                                obtain ⟨⟨t387, t388⟩, Hc300, H⟩ := H
                                try dsimp only at H
                                have Hc30 := Aside0.mk Hc300
                                clear Hc300
                                by_cases c31 : t387 = (t380.length : Int)
                                · rw [if_pos c31] at H
                                  have c31b0 : (t387 == (t380.length : Int)) = true := beq_iff_eq.mpr c31
                                  have c31b1 : (t387 != (t380.length : Int)) = false := bne_eq_false_iff_eq.mpr c31
                                  clear c31
                                  have H' := Aside0.mk H
                                  clear H
                                  try go_wp2_with (first | ((with_reducible refine gate_dst (N := 89) rfl ?_); refine goesL_ (some 89) rfl rfl Try.func15 (by kernel_rfl) rfl #[.pointer (some ⟨g3000019, 0, none⟩), .slice A0 l0.length c0] rfl (by (try simp only [List.map_toArray, List.map_cons, List.map_nil]); first | done | rfl | (simp; done)) ?_; have hs0_ := (SL.get4 (SL.get3 HS.out)); (with_reducible refine (barrowref02_Stream_Feed.slcalls k2 _ _ _ _ _ _ _ _ _ _ _ _ (HF.out.keep HK.out) hs0_ (HR0.out.keep HK.out) HC0.out Hc28.out).mono ?_); rintro e_ w32 ⟨A381, c382, rfl, hsr_, hkr_⟩; refine ⟨_, rfl, ?_⟩; replace HS := Aside0.mk (hsr_); replace HK := Aside0.mk (HK.out.trans hkr_)))
                                  refine start_ (n := 12) (S := fun w' => w'.cell? ⟨g3000019, 0, none⟩ = some (.slice A381 t380.length c382)) (ds := []) #[false, false, false, false, false, false, false, false, false, false, false, false] (by kernel_rfl) rfl rfl ((((blk_cell (SL.at_ HS.out) 0).trans rfl))) (fun hHeld => ?_); refine with_tabW barrowlaw02_DrawPlays.tab33 barrowlaw02_DrawPlays.bits33 (fun HT_ HW_ => ?_)
                                  replace HK := Aside0.mk (Keep.drew HK.out)
                                  replace HS := Aside0.mk (SL.drew HS.out)
                                  refine pure_ (i := 0) (N := some 179) (v := ?_) (a' := ?_) #[true, false, false, false, false, false, false, false, false, false, false, false] rfl rfl (any_of HT_.out (by kernel_rfl)) (fun _ _ _ h => h) (Or.inl ⟨by rfl, ?_⟩) ?_ ?_; rotate_left; · (intro w'; go_simp; with_reducible rfl)
                                  rotate_left; · (simp only [Act.put, sT, sZ, sS, i64_w, i32_w]; rfl)
                                  refine pure_ (i := 1) (N := some 180) (v := ?_) (a' := ?_) #[true, true, false, false, false, false, false, false, false, false, false, false] rfl rfl (any_of HT_.out (by kernel_rfl)) (fun _ _ _ h => h) (Or.inl ⟨by rfl, ?_⟩) ?_ ?_; rotate_left; · (intro w'; go_simp; with_reducible rfl)
                                  rotate_left; · (simp only [Act.put, sT, sZ, sS, i64_w, i32_w]; rfl)
                                  refine pure_ (i := 2) (N := some 181) (v := ?_) (a' := ?_) #[true, true, true, false, false, false, false, false, false, false, false, false] rfl rfl (any_of HT_.out (by kernel_rfl)) (fun _ _ _ h => h) (Or.inl ⟨by rfl, ?_⟩) ?_ ?_; rotate_left; · (intro w'; go_simp; with_reducible rfl)
                                  rotate_left; · (simp only [Act.put, sT, sZ, sS, i64_w, i32_w]; rfl)
                                  refine pure_ (i := 3) (N := some 182) (v := ?_) (a' := ?_) #[true, true, true, true, false, false, false, false, false, false, false, false] rfl rfl (any_of HT_.out (by kernel_rfl)) (fun _ _ _ h => h) (Or.inl ⟨by rfl, ?_⟩) ?_ ?_; rotate_left; · (intro w'; go_simp; with_reducible rfl)
                                  rotate_left; · (simp only [Act.put, sT, sZ, sS, i64_w, i32_w]; rfl)
                                  refine pure_ (i := 5) (N := some 184) (v := ?_) (a' := ?_) #[true, true, true, true, false, true, false, false, false, false, false, false] rfl rfl (any_of HT_.out (by kernel_rfl)) (fun _ _ _ h => h) (Or.inl ⟨by rfl, ?_⟩) ?_ ?_; rotate_left; · (intro w'; go_simp; with_reducible rfl)
                                  rotate_left; · (simp only [Act.put, sT, sZ, sS, i64_w, i32_w]; rfl)
                                  refine pure_ (i := 6) (N := some 185) (v := ?_) (a' := ?_) #[true, true, true, true, false, true, true, false, false, false, false, false] rfl rfl (any_of HT_.out (by kernel_rfl)) (fun _ _ _ h => h) (Or.inl ⟨by rfl, ?_⟩) ?_ ?_; rotate_left; · (intro w'; go_simp; with_reducible rfl)
                                  rotate_left; · (simp only [Act.put, sT, sZ, sS, i64_w, i32_w]; rfl)
                                  refine pure_ (i := 7) (N := some 186) (v := ?_) (a' := ?_) #[true, true, true, true, false, true, true, true, false, false, false, false] rfl rfl (any_of HT_.out (by kernel_rfl)) (fun _ _ _ h => h) (Or.inl ⟨by rfl, ?_⟩) ?_ ?_; rotate_left; · (intro w'; go_simp; with_reducible rfl)
                                  rotate_left; · (simp only [Act.put, sT, sZ, sS, i64_w, i32_w]; rfl)
                                  refine take_ (i := 8) (N := some 187) (v := ?_) (a' := ?_) #[true, true, true, true, false, true, true, true, true, false, false, false] rfl rfl (take_ofW HT_.out HW_.out (by kernel_rfl)) (fun _ _ _ h => h) (Or.inl ⟨by rfl, ?_⟩) hHeld ?_ ?_; rotate_left
                                  · intro w' s0
                                    go_simp
                                    with_reducible rfl
                                  rotate_left; · (simp only [Act.put, sT, sZ, sS, i64_w, i32_w]; rfl)
                                  refine pure_ (i := 9) (N := some 188) (v := ?_) (a' := ?_) #[true, true, true, true, false, true, true, true, true, true, false, false] rfl rfl (any_of HT_.out (by kernel_rfl)) (fun _ _ _ h => h) (Or.inl ⟨by rfl, ?_⟩) ?_ ?_; rotate_left; · (intro w'; go_simp; with_reducible rfl)
                                  rotate_left; · (simp only [Act.put, sT, sZ, sS, i64_w, i32_w]; rfl)
                                  refine one_ (i := 4) (N := some 183) #[true, true, true, true, true, true, true, true, true, true, false, false] rfl rfl (one_of HT_.out (by kernel_rfl)) (by decide) (fun K hK => ?_)
                                  refine goes_ Try.func13 (by kernel_rfl) rfl #[.pointer (some ⟨g3000017, 0, none⟩)] (by rfl) rfl rfl (by (try simp only [List.map_toArray, List.map_cons, List.map_nil]); first | done | rfl | (simp; done)) ?_
                                  have hs0_ := (SL.get4 (SL.get4 HS.out))
                                  (with_reducible refine (draw_Stream_Left.slcalls _ _ _ _ _ _ _ _ _ (HF.out.keep HK.out) hs0_  Hc30.out).mono ?_)
                                  rintro e_ w33 ⟨A389, c390, rfl, hsr_, hkr_⟩
                                  refine ⟨_, rfl, ?_⟩
                                  replace HS := Aside0.mk (hsr_)
                                  replace HK := Aside0.mk (HK.out.trans hkr_)
                                  refine hK.out _ _ ((((blk_cell (SL.at_ (SL.get2 HS.out)) 0).trans rfl))) (fun hHeld => ?_)
                                  clear hK K
                                  refine norm_ (a' := ?_) ?_ ?_; rotate_left
                                  · show Act.put _ (some 183) _ = _
                                    simp only [Act.put, sT, sZ, sS, i64_w, i32_w]
                                    rfl
                                  refine pure_ (i := 10) (N := some 189) (v := ?_) (a' := ?_) #[true, true, true, true, true, true, true, true, true, true, true, false] rfl rfl (any_of HT_.out (by kernel_rfl)) (fun _ _ _ h => h) (Or.inl ⟨by rfl, ?_⟩) ?_ ?_; rotate_left; · (intro w'; go_simp; with_reducible rfl)
                                  rotate_left; · (simp only [Act.put, sT, sZ, sS, i64_w, i32_w]; rfl)
                                  refine pure_ (i := 11) (N := some 190) (v := ?_) (a' := ?_) #[true, true, true, true, true, true, true, true, true, true, true, true] rfl rfl (any_of HT_.out (by kernel_rfl)) (fun _ _ _ h => h) (Or.inl ⟨by rfl, ?_⟩) ?_ ?_; rotate_left; · (intro w'; go_simp; with_reducible rfl)
                                  rotate_left; · (simp only [Act.put, sT, sZ, sS, i64_w, i32_w]; rfl)
                                  refine done_ (done_of HT_.out (by kernel_rfl)) ?_
                                  try go_wp2
                                  replace HS := Aside0.mk (SL.get3 (SL.get2 (SL.get1 (SL.get1 (SL.tail (SL.get4 HS.out))))))
                                  go_roundg k2
                                  case measure => have := HQ1.out; have := HQ2.out; omega
                                  case rel => exact ⟨(t380), (A381), (c382), (t388), (A389), (c390), (wrap64 (x8_0 + 1)), (by first | rfl | (simp; done) | (simp [*]; done)), H', ⟨by have := HQ1.out; have := HQ2.out; omega⟩, HS, HK⟩
                                · rw [if_neg c31] at H
                                  exact absurd H (by simp)
                              · rw [if_neg c29] at H
                                have c29b0 : (t373 == t379) = false := beq_eq_false_iff_ne.mpr c29
                                have c29b1 : (t373 != t379) = true := bne_iff_ne.mpr c29
                                exact absurd H (by simp)
                      · rw [if_neg c20] at H
                        exact absurd H (by simp)
                    · rw [if_neg c19] at H
                      have c19b0 : ((Go.bits .and .i64 (rd y367 0) 3) == 0) = false := beq_eq_false_iff_ne.mpr c19
                      have c19b1 : ((Go.bits .and .i64 (rd y367 0) 3) != 0) = true := bne_iff_ne.mpr c19
                      by_cases c34 : (Go.bits .and .i64 (rd y367 0) 3) = 1
                      · rw [if_pos c34] at H
                        have c34b0 : ((Go.bits .and .i64 (rd y367 0) 3) == 1) = true := beq_iff_eq.mpr c34
                        have c34b1 : ((Go.bits .and .i64 (rd y367 0) 3) != 1) = false := bne_eq_false_iff_eq.mpr c34
                        clear c34
                        replace H := Option.bind_eq_some_iff.1 H
                        obtain ⟨j391, hj3910, H⟩ := H
                        try dsimp only at H
                        have hj391 := Option.some.inj hj3910
                        clear hj3910
                        have hj391w : (IntKind.i64.wrap ((y367.length : Int) - 1)) = j391 := (i64_w _).trans hj391
                        by_cases c35 : 0 ≤ j391
                        · rw [if_pos c35] at H
                          have c35b0 : decide (0 ≤ j391) = true := decide_eq_true c35
                          clear c35
                          by_cases c36 : j391 < (y367.length : Int)
                          · rw [if_pos c36] at H
                            have c36b0 : decide (j391 < (y367.length : Int)) = true := decide_eq_true c36
                            clear c36
                            replace H := Option.bind_eq_some_iff.1 H
                            obtain ⟨⟨t393, t394, t395⟩, Hc370, H⟩ := H
                            try dsimp only at H
                            have Hc37 := Aside0.mk Hc370
                            clear Hc370
                            replace H := Option.bind_eq_some_iff.1 H
                            obtain ⟨⟨t399, t400, t401⟩, Hc380, H⟩ := H
                            try dsimp only at H
                            have Hc38 := Aside0.mk Hc380
                            clear Hc380
                            by_cases c39 : t393 = t399
                            · rw [if_pos c39] at H
                              have c39b0 : (t393 == t399) = true := beq_iff_eq.mpr c39
                              have c39b1 : (t393 != t399) = false := bne_eq_false_iff_eq.mpr c39
                              clear c39
                              by_cases c40 : (t394 == t400) = true
                              · rw [if_pos c40] at H
                                have c40b0 : (t394 == t400) = true := c40
                                (try (have c40b1 : decide (t394 = t400) = true := by simpa using c40))
                                (try (have c40b2 : (t394 == t400) = true := by simpa using c40))
                                clear c40
                                replace H := Option.bind_eq_some_iff.1 H
                                obtain ⟨⟨t408, t409⟩, Hc410, H⟩ := H
                                try dsimp only at H
                                have Hc41 := Aside0.mk Hc410
                                clear Hc410
                                by_cases c42 : t408 = (t401.length : Int)
                                · rw [if_pos c42] at H
                                  have c42b0 : (t408 == (t401.length : Int)) = true := beq_iff_eq.mpr c42
                                  have c42b1 : (t408 != (t401.length : Int)) = false := bne_eq_false_iff_eq.mpr c42
                                  clear c42
                                  have H' := Aside0.mk H
                                  clear H
                                  have pq366 : 0 ≤ (x8_0 : Int) := of_decide_eq_true (by first | (with_reducible assumption) | assumption)
                                  have qq366 : x8_0 < ((l1.length : Int) : Int) := of_decide_eq_true (by first | (with_reducible assumption) | assumption)
                                  obtain ⟨adq366, Aq366_0, cq366_0, eq366, hxxq366, hiq366, hlq366⟩ := RO.inner HR1.out x8_0 pq366 qq366 y367 Ny367.out
                                  have hxq366_0 := hxxq366 _ HK.out
                                  clear hxxq366
                                  have HRq366_0 := Aside0.mk hiq366
                                  have HCq366_0 := Aside0.mk hlq366
                                  clear hiq366 hlq366
                                  cases eq366
                                  replace pq366 := eq_true pq366
                                  replace qq366 := eq_true qq366
                                  have pq368 : 0 ≤ (0 : Int) := (by omega)
                                  have qq368 : 0 < ((y367.length : Int) : Int) := of_decide_eq_true (by first | (with_reducible assumption) | assumption)
                                  obtain ⟨adq368, eq368, hxq368_0⟩ := Kd.at_int (RO.at_ HRq366_0.out HK.out) 0 pq368 qq368
                                  cases eq368
                                  (try rw [show ((0 : Int)).toNat = 0 from rfl] at hxq368_0)
                                  (try rw [Addr.add_zero'] at hxq368_0)
                                  have qiq368 : (0 < y367.length) = True := eq_true (by omega)
                                  replace pq368 := eq_true pq368
                                  replace qq368 := eq_true qq368
                                  have pq392 : 0 ≤ (j391 : Int) := of_decide_eq_true (by first | (with_reducible assumption) | assumption)
                                  have qq392 : j391 < ((y367.length : Int) : Int) := of_decide_eq_true (by first | (with_reducible assumption) | assumption)
                                  obtain ⟨adq392, eq392, hxq392_0⟩ := Kd.at_int (RO.at_ HRq366_0.out HK.out) j391 pq392 qq392
                                  obtain rfl : adq368 = adq392 := (by injection eq392)
                                  replace pq392 := eq_true pq392
                                  replace qq392 := eq_true qq392
                                  try go_wp2_with (first | ((with_reducible refine gate_dst (N := 101) rfl ?_); refine goesL_ (some 101) rfl rfl Try.func14 (by kernel_rfl) rfl #[.pointer (some ⟨g3000017, 0, none⟩), .int .i64 (rd y367 j391)] rfl (by (try simp only [List.map_toArray, List.map_cons, List.map_nil]); first | done | rfl | (simp; done)) ?_; have hs0_ := (SL.get3 (SL.get3 HS.out)); (with_reducible refine (draw_Stream_Below.slcalls k1 _ _ _ _ _ _ _ _ _ _ _ (HF.out.keep HK.out) hs0_  Hc37.out).mono ?_); rintro e_ w43 ⟨A396, c397, rfl, hsr_, hkr_⟩; refine ⟨_, rfl, ?_⟩; replace HS := Aside0.mk (hsr_); replace HK := Aside0.mk (HK.out.trans hkr_); have pq398 : 0 ≤ (j391 : Int) := of_decide_eq_true (by first | (with_reducible assumption) | assumption); have qq398 : j391 < ((y367.length : Int) : Int) := of_decide_eq_true (by first | (with_reducible assumption) | assumption); obtain ⟨adq398, eq398, hxq398_0⟩ := Kd.at_int (RO.at_ HRq366_0.out HK.out) j391 pq398 qq398; obtain rfl : adq368 = adq398 := (by injection eq398); replace pq398 := eq_true pq398; replace qq398 := eq_true qq398) | ((with_reducible refine gate_dst (N := 112) rfl ?_); refine goesL_ (some 112) rfl rfl Try.func16 (by kernel_rfl) rfl #[.pointer (some ⟨g3000019, 0, none⟩), .int .i64 (rd y367 j391)] rfl (by (try simp only [List.map_toArray, List.map_cons, List.map_nil]); first | done | rfl | (simp; done)) ?_; have hs0_ := (SL.get3 (SL.get2 HS.out)); (with_reducible refine (barrowref02_Stream_Below.slcalls k1 _ _ _ _ _ _ _ _ _ _ _ (HF.out.keep HK.out) hs0_  Hc38.out).mono ?_); rintro e_ w44 ⟨A402, c403, rfl, hsr_, hkr_⟩; refine ⟨_, rfl, ?_⟩; replace HS := Aside0.mk (hsr_); replace HK := Aside0.mk (HK.out.trans hkr_)))
                                  refine start_ (n := 12) (S := fun w' => w'.cell? ⟨g3000019, 0, none⟩ = some (.slice A402 t401.length c403)) (ds := []) #[false, false, false, false, false, false, false, false, false, false, false, false] (by kernel_rfl) rfl rfl ((((blk_cell (SL.at_ HS.out) 0).trans rfl))) (fun hHeld => ?_); refine with_tabW barrowlaw02_DrawPlays.tab33 barrowlaw02_DrawPlays.bits33 (fun HT_ HW_ => ?_)
                                  replace HK := Aside0.mk (Keep.drew HK.out)
                                  replace HS := Aside0.mk (SL.drew HS.out)
                                  refine pure_ (i := 0) (N := some 179) (v := ?_) (a' := ?_) #[true, false, false, false, false, false, false, false, false, false, false, false] rfl rfl (any_of HT_.out (by kernel_rfl)) (fun _ _ _ h => h) (Or.inl ⟨by rfl, ?_⟩) ?_ ?_; rotate_left; · (intro w'; go_simp; with_reducible rfl)
                                  rotate_left; · (simp only [Act.put, sT, sZ, sS, i64_w, i32_w]; rfl)
                                  refine pure_ (i := 1) (N := some 180) (v := ?_) (a' := ?_) #[true, true, false, false, false, false, false, false, false, false, false, false] rfl rfl (any_of HT_.out (by kernel_rfl)) (fun _ _ _ h => h) (Or.inl ⟨by rfl, ?_⟩) ?_ ?_; rotate_left; · (intro w'; go_simp; with_reducible rfl)
                                  rotate_left; · (simp only [Act.put, sT, sZ, sS, i64_w, i32_w]; rfl)
                                  refine pure_ (i := 2) (N := some 181) (v := ?_) (a' := ?_) #[true, true, true, false, false, false, false, false, false, false, false, false] rfl rfl (any_of HT_.out (by kernel_rfl)) (fun _ _ _ h => h) (Or.inl ⟨by rfl, ?_⟩) ?_ ?_; rotate_left; · (intro w'; go_simp; with_reducible rfl)
                                  rotate_left; · (simp only [Act.put, sT, sZ, sS, i64_w, i32_w]; rfl)
                                  refine pure_ (i := 3) (N := some 182) (v := ?_) (a' := ?_) #[true, true, true, true, false, false, false, false, false, false, false, false] rfl rfl (any_of HT_.out (by kernel_rfl)) (fun _ _ _ h => h) (Or.inl ⟨by rfl, ?_⟩) ?_ ?_; rotate_left; · (intro w'; go_simp; with_reducible rfl)
                                  rotate_left; · (simp only [Act.put, sT, sZ, sS, i64_w, i32_w]; rfl)
                                  refine pure_ (i := 5) (N := some 184) (v := ?_) (a' := ?_) #[true, true, true, true, false, true, false, false, false, false, false, false] rfl rfl (any_of HT_.out (by kernel_rfl)) (fun _ _ _ h => h) (Or.inl ⟨by rfl, ?_⟩) ?_ ?_; rotate_left; · (intro w'; go_simp; with_reducible rfl)
                                  rotate_left; · (simp only [Act.put, sT, sZ, sS, i64_w, i32_w]; rfl)
                                  refine pure_ (i := 6) (N := some 185) (v := ?_) (a' := ?_) #[true, true, true, true, false, true, true, false, false, false, false, false] rfl rfl (any_of HT_.out (by kernel_rfl)) (fun _ _ _ h => h) (Or.inl ⟨by rfl, ?_⟩) ?_ ?_; rotate_left; · (intro w'; go_simp; with_reducible rfl)
                                  rotate_left; · (simp only [Act.put, sT, sZ, sS, i64_w, i32_w]; rfl)
                                  refine pure_ (i := 7) (N := some 186) (v := ?_) (a' := ?_) #[true, true, true, true, false, true, true, true, false, false, false, false] rfl rfl (any_of HT_.out (by kernel_rfl)) (fun _ _ _ h => h) (Or.inl ⟨by rfl, ?_⟩) ?_ ?_; rotate_left; · (intro w'; go_simp; with_reducible rfl)
                                  rotate_left; · (simp only [Act.put, sT, sZ, sS, i64_w, i32_w]; rfl)
                                  refine take_ (i := 8) (N := some 187) (v := ?_) (a' := ?_) #[true, true, true, true, false, true, true, true, true, false, false, false] rfl rfl (take_ofW HT_.out HW_.out (by kernel_rfl)) (fun _ _ _ h => h) (Or.inl ⟨by rfl, ?_⟩) hHeld ?_ ?_; rotate_left
                                  · intro w' s0
                                    go_simp
                                    with_reducible rfl
                                  rotate_left; · (simp only [Act.put, sT, sZ, sS, i64_w, i32_w]; rfl)
                                  refine pure_ (i := 9) (N := some 188) (v := ?_) (a' := ?_) #[true, true, true, true, false, true, true, true, true, true, false, false] rfl rfl (any_of HT_.out (by kernel_rfl)) (fun _ _ _ h => h) (Or.inl ⟨by rfl, ?_⟩) ?_ ?_; rotate_left; · (intro w'; go_simp; with_reducible rfl)
                                  rotate_left; · (simp only [Act.put, sT, sZ, sS, i64_w, i32_w]; rfl)
                                  refine one_ (i := 4) (N := some 183) #[true, true, true, true, true, true, true, true, true, true, false, false] rfl rfl (one_of HT_.out (by kernel_rfl)) (by decide) (fun K hK => ?_)
                                  refine goes_ Try.func13 (by kernel_rfl) rfl #[.pointer (some ⟨g3000017, 0, none⟩)] (by rfl) rfl rfl (by (try simp only [List.map_toArray, List.map_cons, List.map_nil]); first | done | rfl | (simp; done)) ?_
                                  have hs0_ := (SL.get3 (SL.get3 HS.out))
                                  (with_reducible refine (draw_Stream_Left.slcalls _ _ _ _ _ _ _ _ _ (HF.out.keep HK.out) hs0_  Hc41.out).mono ?_)
                                  rintro e_ w45 ⟨A410, c411, rfl, hsr_, hkr_⟩
                                  refine ⟨_, rfl, ?_⟩
                                  replace HS := Aside0.mk (hsr_)
                                  replace HK := Aside0.mk (HK.out.trans hkr_)
                                  refine hK.out _ _ ((((blk_cell (SL.at_ (SL.get2 HS.out)) 0).trans rfl))) (fun hHeld => ?_)
                                  clear hK K
                                  refine norm_ (a' := ?_) ?_ ?_; rotate_left
                                  · show Act.put _ (some 183) _ = _
                                    simp only [Act.put, sT, sZ, sS, i64_w, i32_w]
                                    rfl
                                  refine pure_ (i := 10) (N := some 189) (v := ?_) (a' := ?_) #[true, true, true, true, true, true, true, true, true, true, true, false] rfl rfl (any_of HT_.out (by kernel_rfl)) (fun _ _ _ h => h) (Or.inl ⟨by rfl, ?_⟩) ?_ ?_; rotate_left; · (intro w'; go_simp; with_reducible rfl)
                                  rotate_left; · (simp only [Act.put, sT, sZ, sS, i64_w, i32_w]; rfl)
                                  refine pure_ (i := 11) (N := some 190) (v := ?_) (a' := ?_) #[true, true, true, true, true, true, true, true, true, true, true, true] rfl rfl (any_of HT_.out (by kernel_rfl)) (fun _ _ _ h => h) (Or.inl ⟨by rfl, ?_⟩) ?_ ?_; rotate_left; · (intro w'; go_simp; with_reducible rfl)
                                  rotate_left; · (simp only [Act.put, sT, sZ, sS, i64_w, i32_w]; rfl)
                                  refine done_ (done_of HT_.out (by kernel_rfl)) ?_
                                  try go_wp2
                                  replace HS := Aside0.mk (SL.get3 (SL.get2 (SL.get1 (SL.get1 HS.out))))
                                  go_roundg k1
                                  case measure => have := HQ1.out; omega
                                  case rel => exact ⟨(t401), (A402), (c403), (t409), (A410), (c411), (wrap64 (x8_0 + 1)), (by first | rfl | (simp; done) | (simp [*]; done)), H', ⟨by have := HQ1.out; omega⟩, HS, HK⟩
                                · rw [if_neg c42] at H
                                  exact absurd H (by simp)
                              · rw [if_neg c40] at H
                                have c40b0 : (t394 == t400) = false := by simpa using c40
                                (try (have c40b1 : decide (t394 = t400) = false := by simpa using c40))
                                (try (have c40b2 : (t394 == t400) = false := by simpa using c40))
                                (try (have c40b3 : ¬ (t394 = t400) := by simpa using c40))
                                clear c40
                                exact absurd H (by simp)
                            · rw [if_neg c39] at H
                              have c39b0 : (t393 == t399) = false := beq_eq_false_iff_ne.mpr c39
                              have c39b1 : (t393 != t399) = true := bne_iff_ne.mpr c39
                              exact absurd H (by simp)
                          · rw [if_neg c36] at H
                            exact absurd H (by simp)
                        · rw [if_neg c35] at H
                          exact absurd H (by simp)
                      · rw [if_neg c34] at H
                        have c34b0 : ((Go.bits .and .i64 (rd y367 0) 3) == 1) = false := beq_eq_false_iff_ne.mpr c34
                        have c34b1 : ((Go.bits .and .i64 (rd y367 0) 3) != 1) = true := bne_iff_ne.mpr c34
                        by_cases c46 : (Go.bits .and .i64 (rd y367 0) 3) = 2
                        · rw [if_pos c46] at H
                          have c46b0 : ((Go.bits .and .i64 (rd y367 0) 3) == 2) = true := beq_iff_eq.mpr c46
                          have c46b1 : ((Go.bits .and .i64 (rd y367 0) 3) != 2) = false := bne_eq_false_iff_eq.mpr c46
                          clear c46
                          by_cases c47 : 1 ≤ (y367.length : Int)
                          · rw [if_pos c47] at H
                            have c47b0 := eq_true c47
                            have c47b1 : decide (1 ≤ (y367.length : Int)) = true := decide_eq_true c47
                            clear c47
                            replace H := Option.bind_eq_some_iff.1 H
                            obtain ⟨y412, hy4120, H⟩ := H
                            try dsimp only at H
                            have hy412 := Option.some.inj hy4120
                            clear hy4120
                            have Ny412 := Aside0.mk hy412
                            clear hy412
                            replace H := Option.bind_eq_some_iff.1 H
                            obtain ⟨⟨t416, t417, t418⟩, Hc480, H⟩ := H
                            try dsimp only at H
                            have Hc48 := Aside0.mk Hc480
                            clear Hc480
                            replace H := Option.bind_eq_some_iff.1 H
                            obtain ⟨y421, hy4210, H⟩ := H
                            try dsimp only at H
                            have hy421 := Option.some.inj hy4210
                            clear hy4210
                            have Ny421 := Aside0.mk hy421
                            clear hy421
                            replace H := Option.bind_eq_some_iff.1 H
                            obtain ⟨⟨t425, t426, t427⟩, Hc490, H⟩ := H
                            try dsimp only at H
                            have Hc49 := Aside0.mk Hc490
                            clear Hc490
                            by_cases c50 : t416 = t425
                            · rw [if_pos c50] at H
                              have c50b0 : (t416 == t425) = true := beq_iff_eq.mpr c50
                              have c50b1 : (t416 != t425) = false := bne_eq_false_iff_eq.mpr c50
                              clear c50
                              by_cases c51 : (t417 == t426) = true
                              · rw [if_pos c51] at H
                                have c51b0 : (t417 == t426) = true := c51
                                (try (have c51b1 : decide (t417 = t426) = true := by simpa using c51))
                                (try (have c51b2 : (t417 == t426) = true := by simpa using c51))
                                clear c51
                                replace H := Option.bind_eq_some_iff.1 H
                                obtain ⟨⟨t434, t435⟩, Hc520, H⟩ := H
                                try dsimp only at H
                                have Hc52 := Aside0.mk Hc520
                                clear Hc520
                                by_cases c53 : t434 = (t427.length : Int)
                                · rw [if_pos c53] at H
                                  have c53b0 : (t434 == (t427.length : Int)) = true := beq_iff_eq.mpr c53
                                  have c53b1 : (t434 != (t427.length : Int)) = false := bne_eq_false_iff_eq.mpr c53
                                  clear c53
                                  have H' := Aside0.mk H
                                  clear H
                                  have pq366 : 0 ≤ (x8_0 : Int) := of_decide_eq_true (by first | (with_reducible assumption) | assumption)
                                  have qq366 : x8_0 < ((l1.length : Int) : Int) := of_decide_eq_true (by first | (with_reducible assumption) | assumption)
                                  obtain ⟨adq366, Aq366_0, cq366_0, eq366, hxxq366, hiq366, hlq366⟩ := RO.inner HR1.out x8_0 pq366 qq366 y367 Ny367.out
                                  have hxq366_0 := hxxq366 _ HK.out
                                  clear hxxq366
                                  have HRq366_0 := Aside0.mk hiq366
                                  have HCq366_0 := Aside0.mk hlq366
                                  clear hiq366 hlq366
                                  cases eq366
                                  replace pq366 := eq_true pq366
                                  replace qq366 := eq_true qq366
                                  have pq368 : 0 ≤ (0 : Int) := (by omega)
                                  have qq368 : 0 < ((y367.length : Int) : Int) := of_decide_eq_true (by first | (with_reducible assumption) | assumption)
                                  obtain ⟨adq368, eq368, hxq368_0⟩ := Kd.at_int (RO.at_ HRq366_0.out HK.out) 0 pq368 qq368
                                  cases eq368
                                  (try rw [show ((0 : Int)).toNat = 0 from rfl] at hxq368_0)
                                  (try rw [Addr.add_zero'] at hxq368_0)
                                  have qiq368 : (0 < y367.length) = True := eq_true (by omega)
                                  replace pq368 := eq_true pq368
                                  replace qq368 := eq_true qq368
                                  obtain ⟨A413, c414, hcvq415, hcs_, hcc_, hcl_⟩ := cut_of (P := Try.prog) (Kd.int .i64) 22 3 .i64 .i64 Try.underlying22 (by kernel_rfl) rfl (some adq368) y367.length cq366_0 y367 rfl HCq366_0.out 1 (by omega) (of_decide_eq_true (by first | (with_reducible assumption) | assumption) : (1 : Int) ≤ ((y367.length : Int) : Int)) y412 Ny412.out
                                  (try simp only [show ((1 : Int)).toNat = 1 from rfl] at hcvq415)
                                  have HRq415 := Aside0.mk (RO.imp HRq366_0.out hcc_)
                                  have HCq415 := Aside0.mk hcl_
                                  clear hcs_ hcc_ hcl_
                                  try go_wp2_with (first | ((with_reducible refine gate_dst (N := 129) rfl ?_); refine goesL_ (some 129) rfl rfl Try.func17 (by kernel_rfl) rfl #[.pointer (some ⟨g3000017, 0, none⟩), .slice A413 y412.length c414] rfl (by (try simp only [List.map_toArray, List.map_cons, List.map_nil]); first | done | rfl | (simp; done)) ?_; have hs0_ := (SL.get3 (SL.get3 HS.out)); (with_reducible refine (draw_Stream_Pick.slcalls k1 _ _ _ _ _ _ _ _ _ _ _ _ _ (HF.out.keep HK.out) hs0_ (HRq415.out.keep HK.out) HCq415.out Hc48.out).mono ?_); rintro e_ w54 ⟨A419, c420, rfl, hsr_, hkr_⟩; refine ⟨_, rfl, ?_⟩; replace HS := Aside0.mk (hsr_); replace HK := Aside0.mk (HK.out.trans hkr_); (try clear hcvq415); obtain ⟨A422, c423, hcvq424, hcs_, hcc_, hcl_⟩ := cut_of (P := Try.prog) (Kd.int .i64) 22 3 .i64 .i64 Try.underlying22 (by kernel_rfl) rfl (some adq368) y367.length cq366_0 y367 rfl HCq366_0.out 1 (by omega) (of_decide_eq_true (by first | (with_reducible assumption) | assumption) : (1 : Int) ≤ ((y367.length : Int) : Int)) y421 Ny421.out; (try simp only [show ((1 : Int)).toNat = 1 from rfl] at hcvq424); have HRq424 := Aside0.mk (RO.imp HRq366_0.out hcc_); have HCq424 := Aside0.mk hcl_; clear hcs_ hcc_ hcl_) | ((with_reducible refine gate_dst (N := 136) rfl ?_); refine goesL_ (some 136) rfl rfl Try.func18 (by kernel_rfl) rfl #[.pointer (some ⟨g3000019, 0, none⟩), .slice A422 y421.length c423] rfl (by (try simp only [List.map_toArray, List.map_cons, List.map_nil]); first | done | rfl | (simp; done)) ?_; have hs0_ := (SL.get3 (SL.get2 HS.out)); (with_reducible refine (barrowref02_Stream_Pick.slcalls k1 _ _ _ _ _ _ _ _ _ _ _ _ _ (HF.out.keep HK.out) hs0_ (HRq424.out.keep HK.out) HCq424.out Hc49.out).mono ?_); rintro e_ w55 ⟨A428, c429, rfl, hsr_, hkr_⟩; refine ⟨_, rfl, ?_⟩; replace HS := Aside0.mk (hsr_); replace HK := Aside0.mk (HK.out.trans hkr_)))
                                  refine start_ (n := 12) (S := fun w' => w'.cell? ⟨g3000019, 0, none⟩ = some (.slice A428 t427.length c429)) (ds := []) #[false, false, false, false, false, false, false, false, false, false, false, false] (by kernel_rfl) rfl rfl ((((blk_cell (SL.at_ HS.out) 0).trans rfl))) (fun hHeld => ?_); refine with_tabW barrowlaw02_DrawPlays.tab33 barrowlaw02_DrawPlays.bits33 (fun HT_ HW_ => ?_)
                                  replace HK := Aside0.mk (Keep.drew HK.out)
                                  replace HS := Aside0.mk (SL.drew HS.out)
                                  refine pure_ (i := 0) (N := some 179) (v := ?_) (a' := ?_) #[true, false, false, false, false, false, false, false, false, false, false, false] rfl rfl (any_of HT_.out (by kernel_rfl)) (fun _ _ _ h => h) (Or.inl ⟨by rfl, ?_⟩) ?_ ?_; rotate_left; · (intro w'; go_simp; with_reducible rfl)
                                  rotate_left; · (simp only [Act.put, sT, sZ, sS, i64_w, i32_w]; rfl)
                                  refine pure_ (i := 1) (N := some 180) (v := ?_) (a' := ?_) #[true, true, false, false, false, false, false, false, false, false, false, false] rfl rfl (any_of HT_.out (by kernel_rfl)) (fun _ _ _ h => h) (Or.inl ⟨by rfl, ?_⟩) ?_ ?_; rotate_left; · (intro w'; go_simp; with_reducible rfl)
                                  rotate_left; · (simp only [Act.put, sT, sZ, sS, i64_w, i32_w]; rfl)
                                  refine pure_ (i := 2) (N := some 181) (v := ?_) (a' := ?_) #[true, true, true, false, false, false, false, false, false, false, false, false] rfl rfl (any_of HT_.out (by kernel_rfl)) (fun _ _ _ h => h) (Or.inl ⟨by rfl, ?_⟩) ?_ ?_; rotate_left; · (intro w'; go_simp; with_reducible rfl)
                                  rotate_left; · (simp only [Act.put, sT, sZ, sS, i64_w, i32_w]; rfl)
                                  refine pure_ (i := 3) (N := some 182) (v := ?_) (a' := ?_) #[true, true, true, true, false, false, false, false, false, false, false, false] rfl rfl (any_of HT_.out (by kernel_rfl)) (fun _ _ _ h => h) (Or.inl ⟨by rfl, ?_⟩) ?_ ?_; rotate_left; · (intro w'; go_simp; with_reducible rfl)
                                  rotate_left; · (simp only [Act.put, sT, sZ, sS, i64_w, i32_w]; rfl)
                                  refine pure_ (i := 5) (N := some 184) (v := ?_) (a' := ?_) #[true, true, true, true, false, true, false, false, false, false, false, false] rfl rfl (any_of HT_.out (by kernel_rfl)) (fun _ _ _ h => h) (Or.inl ⟨by rfl, ?_⟩) ?_ ?_; rotate_left; · (intro w'; go_simp; with_reducible rfl)
                                  rotate_left; · (simp only [Act.put, sT, sZ, sS, i64_w, i32_w]; rfl)
                                  refine pure_ (i := 6) (N := some 185) (v := ?_) (a' := ?_) #[true, true, true, true, false, true, true, false, false, false, false, false] rfl rfl (any_of HT_.out (by kernel_rfl)) (fun _ _ _ h => h) (Or.inl ⟨by rfl, ?_⟩) ?_ ?_; rotate_left; · (intro w'; go_simp; with_reducible rfl)
                                  rotate_left; · (simp only [Act.put, sT, sZ, sS, i64_w, i32_w]; rfl)
                                  refine pure_ (i := 7) (N := some 186) (v := ?_) (a' := ?_) #[true, true, true, true, false, true, true, true, false, false, false, false] rfl rfl (any_of HT_.out (by kernel_rfl)) (fun _ _ _ h => h) (Or.inl ⟨by rfl, ?_⟩) ?_ ?_; rotate_left; · (intro w'; go_simp; with_reducible rfl)
                                  rotate_left; · (simp only [Act.put, sT, sZ, sS, i64_w, i32_w]; rfl)
                                  refine take_ (i := 8) (N := some 187) (v := ?_) (a' := ?_) #[true, true, true, true, false, true, true, true, true, false, false, false] rfl rfl (take_ofW HT_.out HW_.out (by kernel_rfl)) (fun _ _ _ h => h) (Or.inl ⟨by rfl, ?_⟩) hHeld ?_ ?_; rotate_left
                                  · intro w' s0
                                    go_simp
                                    with_reducible rfl
                                  rotate_left; · (simp only [Act.put, sT, sZ, sS, i64_w, i32_w]; rfl)
                                  refine pure_ (i := 9) (N := some 188) (v := ?_) (a' := ?_) #[true, true, true, true, false, true, true, true, true, true, false, false] rfl rfl (any_of HT_.out (by kernel_rfl)) (fun _ _ _ h => h) (Or.inl ⟨by rfl, ?_⟩) ?_ ?_; rotate_left; · (intro w'; go_simp; with_reducible rfl)
                                  rotate_left; · (simp only [Act.put, sT, sZ, sS, i64_w, i32_w]; rfl)
                                  refine one_ (i := 4) (N := some 183) #[true, true, true, true, true, true, true, true, true, true, false, false] rfl rfl (one_of HT_.out (by kernel_rfl)) (by decide) (fun K hK => ?_)
                                  refine goes_ Try.func13 (by kernel_rfl) rfl #[.pointer (some ⟨g3000017, 0, none⟩)] (by rfl) rfl rfl (by (try simp only [List.map_toArray, List.map_cons, List.map_nil]); first | done | rfl | (simp; done)) ?_
                                  have hs0_ := (SL.get3 (SL.get3 HS.out))
                                  (with_reducible refine (draw_Stream_Left.slcalls _ _ _ _ _ _ _ _ _ (HF.out.keep HK.out) hs0_  Hc52.out).mono ?_)
                                  rintro e_ w56 ⟨A436, c437, rfl, hsr_, hkr_⟩
                                  refine ⟨_, rfl, ?_⟩
                                  replace HS := Aside0.mk (hsr_)
                                  replace HK := Aside0.mk (HK.out.trans hkr_)
                                  refine hK.out _ _ ((((blk_cell (SL.at_ (SL.get2 HS.out)) 0).trans rfl))) (fun hHeld => ?_)
                                  clear hK K
                                  refine norm_ (a' := ?_) ?_ ?_; rotate_left
                                  · show Act.put _ (some 183) _ = _
                                    simp only [Act.put, sT, sZ, sS, i64_w, i32_w]
                                    rfl
                                  refine pure_ (i := 10) (N := some 189) (v := ?_) (a' := ?_) #[true, true, true, true, true, true, true, true, true, true, true, false] rfl rfl (any_of HT_.out (by kernel_rfl)) (fun _ _ _ h => h) (Or.inl ⟨by rfl, ?_⟩) ?_ ?_; rotate_left; · (intro w'; go_simp; with_reducible rfl)
                                  rotate_left; · (simp only [Act.put, sT, sZ, sS, i64_w, i32_w]; rfl)
                                  refine pure_ (i := 11) (N := some 190) (v := ?_) (a' := ?_) #[true, true, true, true, true, true, true, true, true, true, true, true] rfl rfl (any_of HT_.out (by kernel_rfl)) (fun _ _ _ h => h) (Or.inl ⟨by rfl, ?_⟩) ?_ ?_; rotate_left; · (intro w'; go_simp; with_reducible rfl)
                                  rotate_left; · (simp only [Act.put, sT, sZ, sS, i64_w, i32_w]; rfl)
                                  refine done_ (done_of HT_.out (by kernel_rfl)) ?_
                                  try go_wp2
                                  replace HS := Aside0.mk (SL.get3 (SL.get2 (SL.get1 (SL.get1 HS.out))))
                                  go_roundg k1
                                  case measure => have := HQ1.out; omega
                                  case rel => exact ⟨(t427), (A428), (c429), (t435), (A436), (c437), (wrap64 (x8_0 + 1)), (by first | rfl | (simp; done) | (simp [*]; done)), H', ⟨by have := HQ1.out; omega⟩, HS, HK⟩
                                · rw [if_neg c53] at H
                                  exact absurd H (by simp)
                              · rw [if_neg c51] at H
                                have c51b0 : (t417 == t426) = false := by simpa using c51
                                (try (have c51b1 : decide (t417 = t426) = false := by simpa using c51))
                                (try (have c51b2 : (t417 == t426) = false := by simpa using c51))
                                (try (have c51b3 : ¬ (t417 = t426) := by simpa using c51))
                                clear c51
                                exact absurd H (by simp)
                            · rw [if_neg c50] at H
                              have c50b0 : (t416 == t425) = false := beq_eq_false_iff_ne.mpr c50
                              have c50b1 : (t416 != t425) = true := bne_iff_ne.mpr c50
                              exact absurd H (by simp)
                          · rw [if_neg c47] at H
                            exact absurd H (by simp)
                        · rw [if_neg c46] at H
                          have c46b0 : ((Go.bits .and .i64 (rd y367 0) 3) == 2) = false := beq_eq_false_iff_ne.mpr c46
                          have c46b1 : ((Go.bits .and .i64 (rd y367 0) 3) != 2) = true := bne_iff_ne.mpr c46
                          by_cases c57 : (Go.bits .and .i64 (rd y367 0) 3) = 3
                          · rw [if_pos c57] at H
                            have c57b0 : ((Go.bits .and .i64 (rd y367 0) 3) == 3) = true := beq_iff_eq.mpr c57
                            have c57b1 : ((Go.bits .and .i64 (rd y367 0) 3) != 3) = false := bne_eq_false_iff_eq.mpr c57
                            clear c57
                            replace H := Option.bind_eq_some_iff.1 H
                            obtain ⟨j438, hj4380, H⟩ := H
                            try dsimp only at H
                            have hj438 := Option.some.inj hj4380
                            clear hj4380
                            have hj438w : (IntKind.i64.wrap ((y367.length : Int) - 1)) = j438 := (i64_w _).trans hj438
                            by_cases c58 : 0 ≤ j438
                            · rw [if_pos c58] at H
                              have c58b0 : decide (0 ≤ j438) = true := decide_eq_true c58
                              clear c58
                              by_cases c59 : j438 < (y367.length : Int)
                              · rw [if_pos c59] at H
                                have c59b0 : decide (j438 < (y367.length : Int)) = true := decide_eq_true c59
                                clear c59
                                replace H := Option.bind_eq_some_iff.1 H
                                obtain ⟨⟨t440, t441, t442⟩, Hc600, H⟩ := H
                                try dsimp only at H
                                have Hc60 := Aside0.mk Hc600
                                clear Hc600
                                replace H := Option.bind_eq_some_iff.1 H
                                obtain ⟨⟨t446, t447, t448⟩, Hc610, H⟩ := H
                                try dsimp only at H
                                have Hc61 := Aside0.mk Hc610
                                clear Hc610
                                replace H := Option.bind_eq_some_iff.1 H
                                obtain ⟨t451, Hc620, H⟩ := H
                                try dsimp only at H
                                have Hc62 := Aside0.mk Hc620
                                clear Hc620
                                have H' := Aside0.mk H
                                clear H
                                have pq366 : 0 ≤ (x8_0 : Int) := of_decide_eq_true (by first | (with_reducible assumption) | assumption)
                                have qq366 : x8_0 < ((l1.length : Int) : Int) := of_decide_eq_true (by first | (with_reducible assumption) | assumption)
                                obtain ⟨adq366, Aq366_0, cq366_0, eq366, hxxq366, hiq366, hlq366⟩ := RO.inner HR1.out x8_0 pq366 qq366 y367 Ny367.out
                                have hxq366_0 := hxxq366 _ HK.out
                                clear hxxq366
                                have HRq366_0 := Aside0.mk hiq366
                                have HCq366_0 := Aside0.mk hlq366
                                clear hiq366 hlq366
                                cases eq366
                                replace pq366 := eq_true pq366
                                replace qq366 := eq_true qq366
                                have pq368 : 0 ≤ (0 : Int) := (by omega)
                                have qq368 : 0 < ((y367.length : Int) : Int) := of_decide_eq_true (by first | (with_reducible assumption) | assumption)
                                obtain ⟨adq368, eq368, hxq368_0⟩ := Kd.at_int (RO.at_ HRq366_0.out HK.out) 0 pq368 qq368
                                cases eq368
                                (try rw [show ((0 : Int)).toNat = 0 from rfl] at hxq368_0)
                                (try rw [Addr.add_zero'] at hxq368_0)
                                have qiq368 : (0 < y367.length) = True := eq_true (by omega)
                                replace pq368 := eq_true pq368
                                replace qq368 := eq_true qq368
                                have pq439 : 0 ≤ (j438 : Int) := of_decide_eq_true (by first | (with_reducible assumption) | assumption)
                                have qq439 : j438 < ((y367.length : Int) : Int) := of_decide_eq_true (by first | (with_reducible assumption) | assumption)
                                obtain ⟨adq439, eq439, hxq439_0⟩ := Kd.at_int (RO.at_ HRq366_0.out HK.out) j438 pq439 qq439
                                obtain rfl : adq368 = adq439 := (by injection eq439)
                                replace pq439 := eq_true pq439
                                replace qq439 := eq_true qq439
                                go_wp2_with (first | ((with_reducible refine gate_dst (N := 157) rfl ?_); refine goesL_ (some 157) rfl rfl Try.func19 (by kernel_rfl) rfl #[.pointer (some ⟨g3000017, 0, none⟩), .int .i64 (rd y367 j438)] rfl (by (try simp only [List.map_toArray, List.map_cons, List.map_nil]); first | done | rfl | (simp; done)) ?_; have hs0_ := (SL.get3 (SL.get3 HS.out)); (with_reducible refine (draw_Stream_Deal.slcalls k1 _ _ _ _ _ _ _ _ _ _ _ (HF.out.keep HK.out) hs0_  Hc60.out).mono ?_); rintro e_ w63 ⟨A443, c444, Az3000024, cz3000024, rfl, hsr_, hkr_⟩; refine ⟨_, rfl, ?_⟩; replace HS := Aside0.mk (hsr_); replace HK := Aside0.mk (HK.out.trans hkr_); have pq445 : 0 ≤ (j438 : Int) := of_decide_eq_true (by first | (with_reducible assumption) | assumption); have qq445 : j438 < ((y367.length : Int) : Int) := of_decide_eq_true (by first | (with_reducible assumption) | assumption); obtain ⟨adq445, eq445, hxq445_0⟩ := Kd.at_int (RO.at_ HRq366_0.out HK.out) j438 pq445 qq445; obtain rfl : adq368 = adq445 := (by injection eq445); replace pq445 := eq_true pq445; replace qq445 := eq_true qq445) | ((with_reducible refine gate_dst (N := 168) rfl ?_); refine goesL_ (some 168) rfl rfl Try.func20 (by kernel_rfl) rfl #[.pointer (some ⟨g3000019, 0, none⟩), .int .i64 (rd y367 j438)] rfl (by (try simp only [List.map_toArray, List.map_cons, List.map_nil]); first | done | rfl | (simp; done)) ?_; have hs0_ := (SL.get4 (SL.get3 HS.out)); (with_reducible refine (barrowref02_Stream_Deal.slcalls k1 _ _ _ _ _ _ _ _ _ _ _ (HF.out.keep HK.out) hs0_  Hc61.out).mono ?_); rintro e_ w64 ⟨A449, c450, Az3000026, cz3000026, rfl, hsr_, hkr_⟩; refine ⟨_, rfl, ?_⟩; replace HS := Aside0.mk (hsr_); replace HK := Aside0.mk (HK.out.trans hkr_)) | ((with_reducible refine gate_dst (N := 173) rfl ?_); refine goesL_ (some 173) rfl rfl Try.func21 (by kernel_rfl) rfl #[.slice Az3000024 t440.length cz3000024, .slice Az3000026 t446.length cz3000026] rfl (by (try simp only [List.map_toArray, List.map_cons, List.map_nil]); first | done | rfl | (simp; done)) ?_; (with_reducible refine (barrowref02_Same.calls k1 _ _ _ _ _ _ _ _ (SL.row_c (SL.get5 HS.out)).2.2 (SL.row_c (SL.get5 HS.out)).2.1 (SL.row_c (SL.get2 HS.out)).2.2 (SL.row_c (SL.get2 HS.out)).2.1 Hc62.out).mono ?_); rintro e_ w65 ⟨rfl, hb_⟩; refine ⟨_, rfl, ?_⟩; replace hb_ := Drawn0.below hb_; replace HS := Aside0.mk (HS.out.below hb_); replace HK := Aside0.mk (HK.out.trans (Keep.below hb_)); refine stop_ ?_; intro G_ hG_))
                                have H := H'.out
                                clear H'
                                by_cases c66 : t451 = true
                                · subst c66
                                  rw [if_pos rfl] at H
                                  by_cases c67 : (t441 == t447) = true
                                  · rw [if_pos c67] at H
                                    have c67b0 : (t441 == t447) = true := c67
                                    (try (have c67b1 : decide (t441 = t447) = true := by simpa using c67))
                                    (try (have c67b2 : (t441 == t447) = true := by simpa using c67))
                                    clear c67
                                    replace H := Option.bind_eq_some_iff.1 H
                                    obtain ⟨⟨t456, t457⟩, Hc680, H⟩ := H
                                    try dsimp only at H
                                    have Hc68 := Aside0.mk Hc680
                                    clear Hc680
                                    by_cases c69 : t456 = (t448.length : Int)
                                    · rw [if_pos c69] at H
                                      have c69b0 : (t456 == (t448.length : Int)) = true := beq_iff_eq.mpr c69
                                      have c69b1 : (t456 != (t448.length : Int)) = false := bne_eq_false_iff_eq.mpr c69
                                      clear c69
                                      have H' := Aside0.mk H
                                      clear H
                                      refine hG_.out ?_
                                      try simp only [c67b0, c69b0, c69b1]
                                      try go_wp2
                                      refine start_ (n := 12) (S := fun w' => w'.cell? ⟨g3000019, 0, none⟩ = some (.slice A449 t448.length c450)) (ds := []) #[false, false, false, false, false, false, false, false, false, false, false, false] (by kernel_rfl) rfl rfl ((((blk_cell (SL.at_ HS.out) 0).trans rfl))) (fun hHeld => ?_); refine with_tabW barrowlaw02_DrawPlays.tab33 barrowlaw02_DrawPlays.bits33 (fun HT_ HW_ => ?_)
                                      replace HK := Aside0.mk (Keep.drew HK.out)
                                      replace HS := Aside0.mk (SL.drew HS.out)
                                      refine pure_ (i := 0) (N := some 179) (v := ?_) (a' := ?_) #[true, false, false, false, false, false, false, false, false, false, false, false] rfl rfl (any_of HT_.out (by kernel_rfl)) (fun _ _ _ h => h) (Or.inl ⟨by rfl, ?_⟩) ?_ ?_; rotate_left; · (intro w'; go_simp; with_reducible rfl)
                                      rotate_left; · (simp only [Act.put, sT, sZ, sS, i64_w, i32_w]; rfl)
                                      refine pure_ (i := 1) (N := some 180) (v := ?_) (a' := ?_) #[true, true, false, false, false, false, false, false, false, false, false, false] rfl rfl (any_of HT_.out (by kernel_rfl)) (fun _ _ _ h => h) (Or.inl ⟨by rfl, ?_⟩) ?_ ?_; rotate_left; · (intro w'; go_simp; with_reducible rfl)
                                      rotate_left; · (simp only [Act.put, sT, sZ, sS, i64_w, i32_w]; rfl)
                                      refine pure_ (i := 2) (N := some 181) (v := ?_) (a' := ?_) #[true, true, true, false, false, false, false, false, false, false, false, false] rfl rfl (any_of HT_.out (by kernel_rfl)) (fun _ _ _ h => h) (Or.inl ⟨by rfl, ?_⟩) ?_ ?_; rotate_left; · (intro w'; go_simp; with_reducible rfl)
                                      rotate_left; · (simp only [Act.put, sT, sZ, sS, i64_w, i32_w]; rfl)
                                      refine pure_ (i := 3) (N := some 182) (v := ?_) (a' := ?_) #[true, true, true, true, false, false, false, false, false, false, false, false] rfl rfl (any_of HT_.out (by kernel_rfl)) (fun _ _ _ h => h) (Or.inl ⟨by rfl, ?_⟩) ?_ ?_; rotate_left; · (intro w'; go_simp; with_reducible rfl)
                                      rotate_left; · (simp only [Act.put, sT, sZ, sS, i64_w, i32_w]; rfl)
                                      refine pure_ (i := 5) (N := some 184) (v := ?_) (a' := ?_) #[true, true, true, true, false, true, false, false, false, false, false, false] rfl rfl (any_of HT_.out (by kernel_rfl)) (fun _ _ _ h => h) (Or.inl ⟨by rfl, ?_⟩) ?_ ?_; rotate_left; · (intro w'; go_simp; with_reducible rfl)
                                      rotate_left; · (simp only [Act.put, sT, sZ, sS, i64_w, i32_w]; rfl)
                                      refine pure_ (i := 6) (N := some 185) (v := ?_) (a' := ?_) #[true, true, true, true, false, true, true, false, false, false, false, false] rfl rfl (any_of HT_.out (by kernel_rfl)) (fun _ _ _ h => h) (Or.inl ⟨by rfl, ?_⟩) ?_ ?_; rotate_left; · (intro w'; go_simp; with_reducible rfl)
                                      rotate_left; · (simp only [Act.put, sT, sZ, sS, i64_w, i32_w]; rfl)
                                      refine pure_ (i := 7) (N := some 186) (v := ?_) (a' := ?_) #[true, true, true, true, false, true, true, true, false, false, false, false] rfl rfl (any_of HT_.out (by kernel_rfl)) (fun _ _ _ h => h) (Or.inl ⟨by rfl, ?_⟩) ?_ ?_; rotate_left; · (intro w'; go_simp; with_reducible rfl)
                                      rotate_left; · (simp only [Act.put, sT, sZ, sS, i64_w, i32_w]; rfl)
                                      refine take_ (i := 8) (N := some 187) (v := ?_) (a' := ?_) #[true, true, true, true, false, true, true, true, true, false, false, false] rfl rfl (take_ofW HT_.out HW_.out (by kernel_rfl)) (fun _ _ _ h => h) (Or.inl ⟨by rfl, ?_⟩) hHeld ?_ ?_; rotate_left
                                      · intro w' s0
                                        go_simp
                                        with_reducible rfl
                                      rotate_left; · (simp only [Act.put, sT, sZ, sS, i64_w, i32_w]; rfl)
                                      refine pure_ (i := 9) (N := some 188) (v := ?_) (a' := ?_) #[true, true, true, true, false, true, true, true, true, true, false, false] rfl rfl (any_of HT_.out (by kernel_rfl)) (fun _ _ _ h => h) (Or.inl ⟨by rfl, ?_⟩) ?_ ?_; rotate_left; · (intro w'; go_simp; with_reducible rfl)
                                      rotate_left; · (simp only [Act.put, sT, sZ, sS, i64_w, i32_w]; rfl)
                                      refine one_ (i := 4) (N := some 183) #[true, true, true, true, true, true, true, true, true, true, false, false] rfl rfl (one_of HT_.out (by kernel_rfl)) (by decide) (fun K hK => ?_)
                                      refine goes_ Try.func13 (by kernel_rfl) rfl #[.pointer (some ⟨g3000017, 0, none⟩)] (by rfl) rfl rfl (by (try simp only [List.map_toArray, List.map_cons, List.map_nil]); first | done | rfl | (simp; done)) ?_
                                      have hs0_ := (SL.get4 (SL.get4 HS.out))
                                      (with_reducible refine (draw_Stream_Left.slcalls _ _ _ _ _ _ _ _ _ (HF.out.keep HK.out) hs0_  Hc68.out).mono ?_)
                                      rintro e_ w70 ⟨A458, c459, rfl, hsr_, hkr_⟩
                                      refine ⟨_, rfl, ?_⟩
                                      replace HS := Aside0.mk (hsr_)
                                      replace HK := Aside0.mk (HK.out.trans hkr_)
                                      refine hK.out _ _ ((((blk_cell (SL.at_ (SL.get2 HS.out)) 0).trans rfl))) (fun hHeld => ?_)
                                      clear hK K
                                      refine norm_ (a' := ?_) ?_ ?_; rotate_left
                                      · show Act.put _ (some 183) _ = _
                                        simp only [Act.put, sT, sZ, sS, i64_w, i32_w]
                                        rfl
                                      refine pure_ (i := 10) (N := some 189) (v := ?_) (a' := ?_) #[true, true, true, true, true, true, true, true, true, true, true, false] rfl rfl (any_of HT_.out (by kernel_rfl)) (fun _ _ _ h => h) (Or.inl ⟨by rfl, ?_⟩) ?_ ?_; rotate_left; · (intro w'; go_simp; with_reducible rfl)
                                      rotate_left; · (simp only [Act.put, sT, sZ, sS, i64_w, i32_w]; rfl)
                                      refine pure_ (i := 11) (N := some 190) (v := ?_) (a' := ?_) #[true, true, true, true, true, true, true, true, true, true, true, true] rfl rfl (any_of HT_.out (by kernel_rfl)) (fun _ _ _ h => h) (Or.inl ⟨by rfl, ?_⟩) ?_ ?_; rotate_left; · (intro w'; go_simp; with_reducible rfl)
                                      rotate_left; · (simp only [Act.put, sT, sZ, sS, i64_w, i32_w]; rfl)
                                      refine done_ (done_of HT_.out (by kernel_rfl)) ?_
                                      try go_wp2
                                      replace HS := Aside0.mk (SL.get3 (SL.get2 (SL.get1 (SL.get1 (SL.tail (SL.get4 (SL.tail (SL.get4 HS.out))))))))
                                      go_roundg k1
                                      case measure => have := HQ1.out; omega
                                      case rel => exact ⟨(t448), (A449), (c450), (t457), (A458), (c459), (wrap64 (x8_0 + 1)), (by first | rfl | (simp; done) | (simp [*]; done)), H', ⟨by have := HQ1.out; omega⟩, HS, HK⟩
                                    · rw [if_neg c69] at H
                                      exact absurd H (by simp)
                                  · rw [if_neg c67] at H
                                    have c67b0 : (t441 == t447) = false := by simpa using c67
                                    (try (have c67b1 : decide (t441 = t447) = false := by simpa using c67))
                                    (try (have c67b2 : (t441 == t447) = false := by simpa using c67))
                                    (try (have c67b3 : ¬ (t441 = t447) := by simpa using c67))
                                    clear c67
                                    exact absurd H (by simp)
                                · replace c66 := Bool.eq_false_iff.mpr c66
                                  subst c66
                                  rw [if_neg (show ¬ (false = true) by decide)] at H
                                  exact absurd H (by simp)
                              · rw [if_neg c59] at H
                                exact absurd H (by simp)
                            · rw [if_neg c58] at H
                              exact absurd H (by simp)
                          · rw [if_neg c57] at H
                            have c57b0 : ((Go.bits .and .i64 (rd y367 0) 3) == 3) = false := beq_eq_false_iff_ne.mpr c57
                            have c57b1 : ((Go.bits .and .i64 (rd y367 0) 3) != 3) = true := bne_iff_ne.mpr c57
                            replace H := Option.bind_eq_some_iff.1 H
                            obtain ⟨⟨t464, t465⟩, Hc710, H⟩ := H
                            try dsimp only at H
                            have Hc71 := Aside0.mk Hc710
                            clear Hc710
                            by_cases c72 : t464 = (z3000027_0.length : Int)
                            · rw [if_pos c72] at H
                              have c72b0 : (t464 == (z3000027_0.length : Int)) = true := beq_iff_eq.mpr c72
                              have c72b1 : (t464 != (z3000027_0.length : Int)) = false := bne_eq_false_iff_eq.mpr c72
                              clear c72
                              have H' := Aside0.mk H
                              clear H
                              have pq366 : 0 ≤ (x8_0 : Int) := of_decide_eq_true (by first | (with_reducible assumption) | assumption)
                              have qq366 : x8_0 < ((l1.length : Int) : Int) := of_decide_eq_true (by first | (with_reducible assumption) | assumption)
                              obtain ⟨adq366, Aq366_0, cq366_0, eq366, hxxq366, hiq366, hlq366⟩ := RO.inner HR1.out x8_0 pq366 qq366 y367 Ny367.out
                              have hxq366_0 := hxxq366 _ HK.out
                              clear hxxq366
                              have HRq366_0 := Aside0.mk hiq366
                              have HCq366_0 := Aside0.mk hlq366
                              clear hiq366 hlq366
                              cases eq366
                              replace pq366 := eq_true pq366
                              replace qq366 := eq_true qq366
                              have pq368 : 0 ≤ (0 : Int) := (by omega)
                              have qq368 : 0 < ((y367.length : Int) : Int) := of_decide_eq_true (by first | (with_reducible assumption) | assumption)
                              obtain ⟨adq368, eq368, hxq368_0⟩ := Kd.at_int (RO.at_ HRq366_0.out HK.out) 0 pq368 qq368
                              cases eq368
                              (try rw [show ((0 : Int)).toNat = 0 from rfl] at hxq368_0)
                              (try rw [Addr.add_zero'] at hxq368_0)
                              have qiq368 : (0 < y367.length) = True := eq_true (by omega)
                              replace pq368 := eq_true pq368
                              replace qq368 := eq_true qq368
                              try go_wp2
                              refine start_ (n := 12) (S := fun w' => w'.cell? ⟨g3000019, 0, none⟩ = some (.slice Az3000027_0 z3000027_0.length cz3000027_0)) (ds := []) #[false, false, false, false, false, false, false, false, false, false, false, false] (by kernel_rfl) rfl rfl ((((blk_cell (SL.at_ (SL.get1 HS.out)) 0).trans rfl))) (fun hHeld => ?_); refine with_tabW barrowlaw02_DrawPlays.tab33 barrowlaw02_DrawPlays.bits33 (fun HT_ HW_ => ?_)
                              replace HK := Aside0.mk (Keep.drew HK.out)
                              replace HS := Aside0.mk (SL.drew HS.out)
                              refine pure_ (i := 0) (N := some 179) (v := ?_) (a' := ?_) #[true, false, false, false, false, false, false, false, false, false, false, false] rfl rfl (any_of HT_.out (by kernel_rfl)) (fun _ _ _ h => h) (Or.inl ⟨by rfl, ?_⟩) ?_ ?_; rotate_left; · (intro w'; go_simp; with_reducible rfl)
                              rotate_left; · (simp only [Act.put, sT, sZ, sS, i64_w, i32_w]; rfl)
                              refine pure_ (i := 1) (N := some 180) (v := ?_) (a' := ?_) #[true, true, false, false, false, false, false, false, false, false, false, false] rfl rfl (any_of HT_.out (by kernel_rfl)) (fun _ _ _ h => h) (Or.inl ⟨by rfl, ?_⟩) ?_ ?_; rotate_left; · (intro w'; go_simp; with_reducible rfl)
                              rotate_left; · (simp only [Act.put, sT, sZ, sS, i64_w, i32_w]; rfl)
                              refine pure_ (i := 2) (N := some 181) (v := ?_) (a' := ?_) #[true, true, true, false, false, false, false, false, false, false, false, false] rfl rfl (any_of HT_.out (by kernel_rfl)) (fun _ _ _ h => h) (Or.inl ⟨by rfl, ?_⟩) ?_ ?_; rotate_left; · (intro w'; go_simp; with_reducible rfl)
                              rotate_left; · (simp only [Act.put, sT, sZ, sS, i64_w, i32_w]; rfl)
                              refine pure_ (i := 3) (N := some 182) (v := ?_) (a' := ?_) #[true, true, true, true, false, false, false, false, false, false, false, false] rfl rfl (any_of HT_.out (by kernel_rfl)) (fun _ _ _ h => h) (Or.inl ⟨by rfl, ?_⟩) ?_ ?_; rotate_left; · (intro w'; go_simp; with_reducible rfl)
                              rotate_left; · (simp only [Act.put, sT, sZ, sS, i64_w, i32_w]; rfl)
                              refine pure_ (i := 5) (N := some 184) (v := ?_) (a' := ?_) #[true, true, true, true, false, true, false, false, false, false, false, false] rfl rfl (any_of HT_.out (by kernel_rfl)) (fun _ _ _ h => h) (Or.inl ⟨by rfl, ?_⟩) ?_ ?_; rotate_left; · (intro w'; go_simp; with_reducible rfl)
                              rotate_left; · (simp only [Act.put, sT, sZ, sS, i64_w, i32_w]; rfl)
                              refine pure_ (i := 6) (N := some 185) (v := ?_) (a' := ?_) #[true, true, true, true, false, true, true, false, false, false, false, false] rfl rfl (any_of HT_.out (by kernel_rfl)) (fun _ _ _ h => h) (Or.inl ⟨by rfl, ?_⟩) ?_ ?_; rotate_left; · (intro w'; go_simp; with_reducible rfl)
                              rotate_left; · (simp only [Act.put, sT, sZ, sS, i64_w, i32_w]; rfl)
                              refine pure_ (i := 7) (N := some 186) (v := ?_) (a' := ?_) #[true, true, true, true, false, true, true, true, false, false, false, false] rfl rfl (any_of HT_.out (by kernel_rfl)) (fun _ _ _ h => h) (Or.inl ⟨by rfl, ?_⟩) ?_ ?_; rotate_left; · (intro w'; go_simp; with_reducible rfl)
                              rotate_left; · (simp only [Act.put, sT, sZ, sS, i64_w, i32_w]; rfl)
                              refine take_ (i := 8) (N := some 187) (v := ?_) (a' := ?_) #[true, true, true, true, false, true, true, true, true, false, false, false] rfl rfl (take_ofW HT_.out HW_.out (by kernel_rfl)) (fun _ _ _ h => h) (Or.inl ⟨by rfl, ?_⟩) hHeld ?_ ?_; rotate_left
                              · intro w' s0
                                go_simp
                                with_reducible rfl
                              rotate_left; · (simp only [Act.put, sT, sZ, sS, i64_w, i32_w]; rfl)
                              refine pure_ (i := 9) (N := some 188) (v := ?_) (a' := ?_) #[true, true, true, true, false, true, true, true, true, true, false, false] rfl rfl (any_of HT_.out (by kernel_rfl)) (fun _ _ _ h => h) (Or.inl ⟨by rfl, ?_⟩) ?_ ?_; rotate_left; · (intro w'; go_simp; with_reducible rfl)
                              rotate_left; · (simp only [Act.put, sT, sZ, sS, i64_w, i32_w]; rfl)
                              refine one_ (i := 4) (N := some 183) #[true, true, true, true, true, true, true, true, true, true, false, false] rfl rfl (one_of HT_.out (by kernel_rfl)) (by decide) (fun K hK => ?_)
                              refine goes_ Try.func13 (by kernel_rfl) rfl #[.pointer (some ⟨g3000017, 0, none⟩)] (by rfl) rfl rfl (by (try simp only [List.map_toArray, List.map_cons, List.map_nil]); first | done | rfl | (simp; done)) ?_
                              have hs0_ := (SL.get3 (SL.get3 HS.out))
                              (with_reducible refine (draw_Stream_Left.slcalls _ _ _ _ _ _ _ _ _ (HF.out.keep HK.out) hs0_  Hc71.out).mono ?_)
                              rintro e_ w73 ⟨A466, c467, rfl, hsr_, hkr_⟩
                              refine ⟨_, rfl, ?_⟩
                              replace HS := Aside0.mk (hsr_)
                              replace HK := Aside0.mk (HK.out.trans hkr_)
                              refine hK.out _ _ ((((blk_cell (SL.at_ (SL.get3 HS.out)) 0).trans rfl))) (fun hHeld => ?_)
                              clear hK K
                              refine norm_ (a' := ?_) ?_ ?_; rotate_left
                              · show Act.put _ (some 183) _ = _
                                simp only [Act.put, sT, sZ, sS, i64_w, i32_w]
                                rfl
                              refine pure_ (i := 10) (N := some 189) (v := ?_) (a' := ?_) #[true, true, true, true, true, true, true, true, true, true, true, false] rfl rfl (any_of HT_.out (by kernel_rfl)) (fun _ _ _ h => h) (Or.inl ⟨by rfl, ?_⟩) ?_ ?_; rotate_left; · (intro w'; go_simp; with_reducible rfl)
                              rotate_left; · (simp only [Act.put, sT, sZ, sS, i64_w, i32_w]; rfl)
                              refine pure_ (i := 11) (N := some 190) (v := ?_) (a' := ?_) #[true, true, true, true, true, true, true, true, true, true, true, true] rfl rfl (any_of HT_.out (by kernel_rfl)) (fun _ _ _ h => h) (Or.inl ⟨by rfl, ?_⟩) ?_ ?_; rotate_left; · (intro w'; go_simp; with_reducible rfl)
                              rotate_left; · (simp only [Act.put, sT, sZ, sS, i64_w, i32_w]; rfl)
                              refine done_ (done_of HT_.out (by kernel_rfl)) ?_
                              try go_wp2
                              replace HS := Aside0.mk (SL.get3 (SL.get3 (SL.get1 (SL.get1 HS.out))))
                              go_roundg k1
                              case measure => have := HQ1.out; omega
                              case rel => exact ⟨(z3000027_0), (Az3000027_0), (cz3000027_0), (t465), (A466), (c467), (wrap64 (x8_0 + 1)), (by first | rfl | (simp; done) | (simp [*]; done)), H', ⟨by have := HQ1.out; omega⟩, HS, HK⟩
                            · rw [if_neg c72] at H
                              exact absurd H (by simp)
                  · rw [if_neg c18] at H
                    exact absurd H (by simp)
            · rw [if_neg c15] at H
              exact absurd H (by simp)
          · rw [if_neg c14] at H
            have c14b0 : decide (x8_0 < (l1.length : Int)) = false := decide_eq_false c14
            clear c14
            obtain rfl := Option.some.inj H
            go_wp2
            go_ret
            replace HS := Aside0.mk (SL.tail (SL.tail (SL.tail (SL.tail HS.out))))
            unfold barrowlaw02_DrawPlays.Post
            exact ⟨by first | rfl | (simp; done) | (simp [*]; done) | (simp at c14b0 ⊢; first | exact c14b0 | (simp [c14b0]; done)), HS.out, HK.out⟩
theorem barrowlaw02_DrawPlays.calls (k : Nat) (A0 : Option Addr) (c0 : Nat) (l0 : List Int) (A1 : Option Addr) (c1 : Nat) (l1 : List (List Int)) (r : Bool) (w : World) (hr0 : Kd.C (Kd.int .i64) w A0 l0.length l0) (hc0 : l0.length ≤ c0) (hr1 : Kd.C (Kd.slice 3 (Kd.int .i64)) w A1 l1.length l1) (hc1 : l1.length ≤ c1) (h : barrowlaw02_DrawPlays.f k l0 l1 = some r) :
    Calls Try.prog 6 #[.slice A0 l0.length c0, .slice A1 l1.length c1] w fun e w' => e = .returned (.bool r) ∧ Below w.heap.size w w' :=
  (barrowlaw02_DrawPlays.slcalls k A0 c0 l0 A1 c1 l1 r (news w) [] w (fresh_news w) trivial (RO.top hr0) hc0 (RO.top hr1) hc1 h).mono fun _ _ h => ⟨h.1, h.2.2.to_below⟩

/-- THE ONE PURE STATEMENT of barrowlaw02_DrawPlays. -/
def barrowlaw02_DrawPlays.Pure : Prop := ∀ (l0 : List Int) (l1 : List (List Int)), (l0.length ≤ maxLen ∧ l0.length * 8 ≤ 140737488351232 ∧ ∀ x468_ ∈ l0, (Lit.int .i64 x468_).wf = true) → (l1.length ≤ maxLen ∧ l1.length * 24 ≤ 140737488351232 ∧ ∀ x469_ ∈ l1, x469_.length ≤ maxLen ∧ x469_.length * 8 ≤ 140737488351232 ∧ ∀ x470_ ∈ x469_, (Lit.int .i64 x470_).wf = true) → ∃ k, barrowlaw02_DrawPlays.f k l0 l1 = some true

end Go.Proofs.Ytkffeglkbpfndaa.XPL
