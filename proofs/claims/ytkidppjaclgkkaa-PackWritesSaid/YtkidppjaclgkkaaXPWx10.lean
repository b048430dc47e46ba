-- Written by xprint.py (a program of this session) for this claim
import Derived.Test.YtkidppjaclgkkaaSL11
import Derived.Test.YtkidppjaclgkkaaSL5
import Derived.Test.YtkidppjaclgkkaaXPWx0
import Derived.Test.YtkidppjaclgkkaaXPWx1
import Derived.Test.YtkidppjaclgkkaaXPWx2
import Derived.Test.YtkidppjaclgkkaaXPWx3
import Derived.Test.YtkidppjaclgkkaaXPWx6
import Derived.Test.YtkidppjaclgkkaaXPWx8
import Derived.Test.YtkidppjaclgkkaaXPWx9
namespace Go.Proofs.Ytkidppjaclgkkaa.XPW
open Go.Proofs.YtkidppjaclgkkaaV Go.Proofs.YtkidppjaclgkkaaS
open Go.RowKit Go.Proofs.YtkidppjaclgkkaaW.PrintWords Go.Proofs.YtkidppjaclgkkaaW.PrintLast Go.Proofs.YtkidppjaclgkkaaW.PrintMore
attribute [local go_sem] max2_int min2_int max_two min_two max_three min_three max_four min_four   -- for this text's walks alone
set_option linter.unusedVariables false
set_option linter.unusedSimpArgs false

/-! ### barrowlaw03_PackWrites: function 4 -/
mutual
def barrowlaw03_PackWrites.l0 : Nat → (List Int) → Int → (List Int) → (List Int) → Bool → (List Int) → (List Int) → (List Int) → (List Int) → Bool → (List Int) → (List Int) → Option (Bool)
  | 0, _, _, _, _, _, _, _, _, _, _, _, _ => none
  | k + 1, l0, x17_0, y3000008_0, y3000007_0, t315, t316, t317, t318, t320, t321, t322, t326 => if x17_0 < (t317.length : Int) then (if x17_0 < (t316.length : Int) then (if 0 ≤ x17_0 then ((some (y3000007_0.set (x17_0).toNat 99 : List Int)).bind fun y328 => (if x17_0 < (t318.length : Int) then ((some (y3000008_0.set (x17_0).toNat 99 : List Int)).bind fun y330 => (barrowlaw03_PackWrites.l0 k l0 (wrap64 (x17_0 + 1)) y330 y328 t315 t316 t317 t318 t320 t321 t322 t326)) else (none))) else (none)) else (if t315 = true then (if (strOfNums t320).toList = (strOfNums t326).toList then (if t321 = true then ((barrowlaw03_Kept.f t322 l0).bind fun bt331 => (some bt331.1)) else (none)) else (none)) else (none))) else (if t315 = true then (if (strOfNums t320).toList = (strOfNums t326).toList then (if t321 = true then ((barrowlaw03_Kept.f t322 l0).bind fun bt333 => (some bt333.1)) else (none)) else (none)) else (none))
def barrowlaw03_PackWrites.l100 : Nat → (List Int) → (List Int) → Int → Bool → (List Int) → (List Int) → (List Int) → Option (Bool)
  | 0, _, _, _, _, _, _, _ => none
  | k + 1, y3000008_100, y3000007_100, x17_100, t315, t316, t317, t318 => if x17_100 < (t317.length : Int) then (if x17_100 < (t316.length : Int) then (if 0 ≤ x17_100 then ((some (y3000007_100.set (x17_100).toNat 99 : List Int)).bind fun y336 => (if x17_100 < (t318.length : Int) then ((some (y3000008_100.set (x17_100).toNat 99 : List Int)).bind fun y338 => (barrowlaw03_PackWrites.l100 k y338 y336 (wrap64 (x17_100 + 1)) t315 t316 t317 t318)) else (none))) else (none)) else (if t315 = true then (none) else (none))) else (if t315 = true then (none) else (none))
end
def barrowlaw03_PackWrites.f (k : Nat) (l0 : List Int) (a1 : Int) (a2 : ByteArray) (l3 : List Int) : Option (Bool) := (barrowlaw03_small.f k).bind fun t315 => (if (wrap64 ((l0.length : Int) + (a2.size : Int))) > 2048 then (some t315) else (if (l3.length : Int) > 300 then (some t315) else ((barrowlaw03_Lent.f l0).bind fun t316 => ((pack_Uint.f k t316 a1).bind fun t317 => ((pack_Int.f k t316 a1).bind fun t318 => ((pack_Text.f k t316 a2).bind fun t319 => ((pack_Ints.f k t316 l3).bind fun t320 => ((barrowlaw03_Kept.f t316 l0).bind fun bt321 => ((barrowref03_Uint.f k l0 a1).bind fun t323 => (if (strOfNums t317).toList = (strOfNums t323).toList then ((barrowref03_Int.f k l0 a1).bind fun t324 => (if (strOfNums t318).toList = (strOfNums t324).toList then ((barrowref03_Text.f k l0 a2).bind fun t325 => (if (strOfNums t319).toList = (strOfNums t325).toList then ((barrowref03_Ints.f k l0 l3).bind fun t326 => (barrowlaw03_PackWrites.l0 k l0 0 t318 t317 t315 t316 t317 t318 t320 bt321.1 bt321.2 t326)) else (barrowlaw03_PackWrites.l100 k t318 t317 0 t315 t316 t317 t318))) else (barrowlaw03_PackWrites.l100 k t318 t317 0 t315 t316 t317 t318))) else (barrowlaw03_PackWrites.l100 k t318 t317 0 t315 t316 t317 t318)))))))))))
theorem barrowlaw03_PackWrites.mono_l : ∀ k, (∀ y0 y1 y2 y3 y4 y5 y6 y7 y8 y9 y10 y11, LeO (barrowlaw03_PackWrites.l0 k y0 y1 y2 y3 y4 y5 y6 y7 y8 y9 y10 y11) (barrowlaw03_PackWrites.l0 (k + 1) y0 y1 y2 y3 y4 y5 y6 y7 y8 y9 y10 y11)) ∧ (∀ y0 y1 y2 y3 y4 y5 y6, LeO (barrowlaw03_PackWrites.l100 k y0 y1 y2 y3 y4 y5 y6) (barrowlaw03_PackWrites.l100 (k + 1) y0 y1 y2 y3 y4 y5 y6))
  | 0 => ⟨fun _ _ _ _ _ _ _ _ _ _ _ _ r h => by simp [barrowlaw03_PackWrites.l0] at h, fun _ _ _ _ _ _ _ r h => by simp [barrowlaw03_PackWrites.l100] at h⟩
  | k + 1 => by
    obtain ⟨ih0, ih1⟩ := barrowlaw03_PackWrites.mono_l k
    refine ⟨?_, ?_⟩
    · intro y0 y1 y2 y3 y4 y5 y6 y7 y8 y9 y10 y11
      unfold barrowlaw03_PackWrites.l0
      repeat' first
      | (with_reducible exact ih0 _ _ _ _ _ _ _ _ _ _ _ _)
      | (with_reducible exact ih1 _ _ _ _ _ _ _)
      | (with_reducible exact barrowlaw03_small.mono _)
      | (with_reducible exact barrowref03_Int.mono _ _ _)
      | (with_reducible exact barrowref03_Ints.mono _ _ _)
      | (with_reducible exact barrowref03_Text.mono _ _ _)
      | (with_reducible exact barrowref03_Uint.mono _ _ _)
      | (with_reducible exact pack_Int.mono _ _ _)
      | (with_reducible exact pack_Ints.mono _ _ _)
      | (with_reducible exact pack_Text.mono _ _ _)
      | (with_reducible exact pack_Uint.mono _ _ _)
      | (with_reducible exact LeO.refl _)
      | (with_reducible exact LeO.none _)
      | (with_reducible refine LeO.ite ?_ ?_)
      | (with_reducible refine everyOf_le (fun _ => ?_))
      | (with_reducible refine LeO.bind ?_ (fun _ => ?_))
      | exact ih0 _ _ _ _ _ _ _ _ _ _ _ _
      | exact ih1 _ _ _ _ _ _ _
      | exact barrowlaw03_small.mono _
      | exact barrowref03_Int.mono _ _ _
      | exact barrowref03_Ints.mono _ _ _
      | exact barrowref03_Text.mono _ _ _
      | exact barrowref03_Uint.mono _ _ _
      | exact pack_Int.mono _ _ _
      | exact pack_Ints.mono _ _ _
      | exact pack_Text.mono _ _ _
      | exact pack_Uint.mono _ _ _
      | exact LeO.none _
      | refine LeO.ite ?_ ?_
      | refine LeO.bind ?_ (fun _ => ?_)
    · intro y0 y1 y2 y3 y4 y5 y6
      unfold barrowlaw03_PackWrites.l100
      repeat' first
      | (with_reducible exact ih0 _ _ _ _ _ _ _ _ _ _ _ _)
      | (with_reducible exact ih1 _ _ _ _ _ _ _)
      | (with_reducible exact barrowlaw03_small.mono _)
      | (with_reducible exact barrowref03_Int.mono _ _ _)
      | (with_reducible exact barrowref03_Ints.mono _ _ _)
      | (with_reducible exact barrowref03_Text.mono _ _ _)
      | (with_reducible exact barrowref03_Uint.mono _ _ _)
      | (with_reducible exact pack_Int.mono _ _ _)
      | (with_reducible exact pack_Ints.mono _ _ _)
      | (with_reducible exact pack_Text.mono _ _ _)
      | (with_reducible exact pack_Uint.mono _ _ _)
      | (with_reducible exact LeO.refl _)
      | (with_reducible exact LeO.none _)
      | (with_reducible refine LeO.ite ?_ ?_)
      | (with_reducible refine everyOf_le (fun _ => ?_))
      | (with_reducible refine LeO.bind ?_ (fun _ => ?_))
      | exact ih0 _ _ _ _ _ _ _ _ _ _ _ _
      | exact ih1 _ _ _ _ _ _ _
      | exact barrowlaw03_small.mono _
      | exact barrowref03_Int.mono _ _ _
      | exact barrowref03_Ints.mono _ _ _
      | exact barrowref03_Text.mono _ _ _
      | exact barrowref03_Uint.mono _ _ _
      | exact pack_Int.mono _ _ _
      | exact pack_Ints.mono _ _ _
      | exact pack_Text.mono _ _ _
      | exact pack_Uint.mono _ _ _
      | exact LeO.none _
      | refine LeO.ite ?_ ?_
      | refine LeO.bind ?_ (fun _ => ?_)
theorem barrowlaw03_PackWrites.mono : ∀ a0 a1 a2 a3 k, LeO (barrowlaw03_PackWrites.f k a0 a1 a2 a3) (barrowlaw03_PackWrites.f (k + 1) a0 a1 a2 a3) := by
  intro a0 a1 a2 a3 k
  obtain ⟨ih0, ih1⟩ := barrowlaw03_PackWrites.mono_l k
  unfold barrowlaw03_PackWrites.f
  repeat' first
      | (with_reducible exact ih0 _ _ _ _ _ _ _ _ _ _ _ _)
      | (with_reducible exact ih1 _ _ _ _ _ _ _)
      | (with_reducible exact barrowlaw03_small.mono _)
      | (with_reducible exact barrowref03_Int.mono _ _ _)
      | (with_reducible exact barrowref03_Ints.mono _ _ _)
      | (with_reducible exact barrowref03_Text.mono _ _ _)
      | (with_reducible exact barrowref03_Uint.mono _ _ _)
      | (with_reducible exact pack_Int.mono _ _ _)
      | (with_reducible exact pack_Ints.mono _ _ _)
      | (with_reducible exact pack_Text.mono _ _ _)
      | (with_reducible exact pack_Uint.mono _ _ _)
      | (with_reducible exact LeO.refl _)
      | (with_reducible exact LeO.none _)
      | (with_reducible refine LeO.ite ?_ ?_)
      | (with_reducible refine everyOf_le (fun _ => ?_))
      | (with_reducible refine LeO.bind ?_ (fun _ => ?_))
      | exact ih0 _ _ _ _ _ _ _ _ _ _ _ _
      | exact ih1 _ _ _ _ _ _ _
      | exact barrowlaw03_small.mono _
      | exact barrowref03_Int.mono _ _ _
      | exact barrowref03_Ints.mono _ _ _
      | exact barrowref03_Text.mono _ _ _
      | exact barrowref03_Uint.mono _ _ _
      | exact pack_Int.mono _ _ _
      | exact pack_Ints.mono _ _ _
      | exact pack_Text.mono _ _ _
      | exact pack_Uint.mono _ _ _
      | exact LeO.none _
      | refine LeO.ite ?_ ?_
      | refine LeO.bind ?_ (fun _ => ?_)
def barrowlaw03_PackWrites.T10 : Bool × List (List Nat × List Nat) := (true, [([], []), ([0], [0]), ([], []), ([], []), ([2, 3], [2, 3]), ([4], [4]), ([1, 5], [1, 5]), ([6, 4], [6]), ([7], [7]), ([8, 7], [7, 8]), ([7], [7]), ([7], [7]), ([10, 11, 7, 7], [7, 10, 11]), ([12, 7], [7, 12]), ([9, 13, 7], [7, 9, 13]), ([7, 14], [7, 14]), ([15, 12], [15]), ([16], [16]), ([17, 16], [16, 17]), ([16], [16]), ([16], [16]), ([19, 20, 16, 16], [16, 19, 20]), ([21, 16], [16, 21]), ([18, 22, 16], [16, 18, 22]), ([16, 23], [16, 23]), ([24, 21], [24]), ([25], [25]), ([26, 25], [25, 26]), ([25], [25]), ([25], [25]), ([28, 29, 25, 25], [25, 28, 29]), ([30, 25], [25, 30]), ([27, 31, 25], [25, 27, 31]), ([25, 32], [25, 32]), ([33, 30, 0, 1, 2, 3, 4, 5, 6, 7, 8, 9, 10, 11, 12, 13, 14, 15, 16, 17, 18, 19, 20, 21, 22, 23, 24, 25, 26, 27, 28, 29, 30, 31, 32, 33], [33])])
def barrowlaw03_PackWrites.B10 : List Nat := [0, 1, 0, 0, 12, 28, 63, 127, 255, 511, 255, 255, 3327, 7423, 16383, 32767, 65535, 131071, 262143, 131071, 131071, 1703935, 3801087, 8388607, 16777215, 33554431, 67108863, 134217727, 67108863, 67108863, 872415231, 1946157055, 4294967295, 8589934591, 17179869183]
theorem barrowlaw03_PackWrites.tab10 : rtab .any (opsOf Try.f4 10) = barrowlaw03_PackWrites.T10 := by kernel_rfl
theorem barrowlaw03_PackWrites.bits10 : waitsOk barrowlaw03_PackWrites.T10.2 barrowlaw03_PackWrites.B10 = true := by kernel_rfl
def barrowlaw03_PackWrites.Post (r : Bool) (S : Nat → Prop) (L : List Asr) (w : World) (e : Ending) (w' : World) : Prop := e = .returned (.bool r) ∧ SL (L) w' S ∧ Keep S w w'
set_option maxHeartbeats 8000000 in
set_option maxRecDepth 100000 in
theorem barrowlaw03_PackWrites.slcalls (k : Nat) (A0 : Option Addr) (c0 : Nat) (l0 : List Int) (a1 : Int) (a2 : ByteArray) (A3 : Option Addr) (c3 : Nat) (l3 : List Int) (r : Bool) (S : Nat → Prop) (L : List Asr) (w : World) (hf : Fresh S w) (hs : SL (L) w S) (hr0 : RO S w (fun w_ => Kd.C (Kd.int .u8) w_ A0 l0.length l0)) (hc0 : l0.length ≤ c0) (hr3 : RO S w (fun w_ => Kd.C (Kd.int .i64) w_ A3 l3.length l3)) (hc3 : l3.length ≤ c3) (h : barrowlaw03_PackWrites.f k l0 a1 a2 l3 = some r) :
    Calls Try.prog 4 #[.slice A0 l0.length c0, .int .i64 a1, .string a2, .slice A3 l3.length c3] w (barrowlaw03_PackWrites.Post r S L w) := by
  have HR0 := Aside0.mk hr0
  have HC0 := Aside0.mk hc0
  clear hr0 hc0
  have HR3 := Aside0.mk hr3
  have HC3 := Aside0.mk hc3
  clear hr3 hc3
  have HF := Aside0.mk hf
  have HS := Aside0.mk hs
  have HK := Aside0.mk (Keep.refl S w)
  clear hf hs
  have H : ((barrowlaw03_small.f k).bind fun t315 => (if (wrap64 ((l0.length : Int) + (a2.size : Int))) > 2048 then (some t315) else (if (l3.length : Int) > 300 then (some t315) else ((barrowlaw03_Lent.f l0).bind fun t316 => ((pack_Uint.f k t316 a1).bind fun t317 => ((pack_Int.f k t316 a1).bind fun t318 => ((pack_Text.f k t316 a2).bind fun t319 => ((pack_Ints.f k t316 l3).bind fun t320 => ((barrowlaw03_Kept.f t316 l0).bind fun bt321 => ((barrowref03_Uint.f k l0 a1).bind fun t323 => (if (strOfNums t317).toList = (strOfNums t323).toList then ((barrowref03_Int.f k l0 a1).bind fun t324 => (if (strOfNums t318).toList = (strOfNums t324).toList then ((barrowref03_Text.f k l0 a2).bind fun t325 => (if (strOfNums t319).toList = (strOfNums t325).toList then ((barrowref03_Ints.f k l0 l3).bind fun t326 => (barrowlaw03_PackWrites.l0 k l0 0 t318 t317 t315 t316 t317 t318 t320 bt321.1 bt321.2 t326)) else (barrowlaw03_PackWrites.l100 k t318 t317 0 t315 t316 t317 t318))) else (barrowlaw03_PackWrites.l100 k t318 t317 0 t315 t316 t317 t318))) else (barrowlaw03_PackWrites.l100 k t318 t317 0 t315 t316 t317 t318)))))))))))) = some r := h
  clear h
  replace H := Option.bind_eq_some_iff.1 H
  obtain ⟨t315, Hc10, H⟩ := H
  try dsimp only at H
  have Hc1 := Aside0.mk Hc10
  clear Hc10
  by_cases c2 : (wrap64 ((l0.length : Int) + (a2.size : Int))) > 2048
  · rw [if_pos c2] at H
    have c2b0 : decide (2048 < (wrap64 ((l0.length : Int) + (a2.size : Int)))) = true := decide_eq_true c2
    clear c2
    obtain rfl := Option.some.inj H
    go_enter Try.func4, Try.ntmps4
    go_wp2_with (first | ((with_reducible refine gate_dst (N := 18) rfl ?_); refine goesL_ (some 18) rfl rfl Try.func7 (by kernel_rfl) rfl #[] rfl (by (try simp only [List.map_toArray, List.map_cons, List.map_nil]); first | done | rfl | (simp; done)) ?_; (with_reducible refine (barrowlaw03_small.calls k _ _  Hc1.out).mono ?_); rintro e_ w3 ⟨rfl, hb_⟩; refine ⟨_, rfl, ?_⟩; replace HS := Aside0.mk (HS.out.below hb_); replace HK := Aside0.mk (HK.out.trans (Keep.below hb_))))
    go_ret
    unfold barrowlaw03_PackWrites.Post
    exact ⟨by first | rfl | (simp; done) | (simp [*]; done) | (simp at c2b0 ⊢; first | exact c2b0 | (simp [c2b0]; done)), HS.out, HK.out⟩
  · rw [if_neg c2] at H
    have c2b0 : decide (2048 < (wrap64 ((l0.length : Int) + (a2.size : Int)))) = false := decide_eq_false c2
    clear c2
    by_cases c4 : (l3.length : Int) > 300
    · rw [if_pos c4] at H
      have c4b0 : decide (300 < (l3.length : Int)) = true := decide_eq_true c4
      have c4b1 : decide (300 < l3.length) = true := decide_eq_true (by omega)
      clear c4
      obtain rfl := Option.some.inj H
      go_enter Try.func4, Try.ntmps4
      go_wp2_with (first | ((with_reducible refine gate_dst (N := 18) rfl ?_); refine goesL_ (some 18) rfl rfl Try.func7 (by kernel_rfl) rfl #[] rfl (by (try simp only [List.map_toArray, List.map_cons, List.map_nil]); first | done | rfl | (simp; done)) ?_; (with_reducible refine (barrowlaw03_small.calls k _ _  Hc1.out).mono ?_); rintro e_ w5 ⟨rfl, hb_⟩; refine ⟨_, rfl, ?_⟩; replace HS := Aside0.mk (HS.out.below hb_); replace HK := Aside0.mk (HK.out.trans (Keep.below hb_))))
      go_ret
      unfold barrowlaw03_PackWrites.Post
      exact ⟨by first | rfl | (simp; done) | (simp [*]; done) | (simp at c4b0 ⊢; first | exact c4b0 | (simp [c4b0]; done)), HS.out, HK.out⟩
    · rw [if_neg c4] at H
      have c4b0 : decide (300 < (l3.length : Int)) = false := decide_eq_false c4
      have c4b1 : decide (300 < l3.length) = false := decide_eq_false (by omega)
      clear c4
      replace H := Option.bind_eq_some_iff.1 H
      obtain ⟨t316, Hc60, H⟩ := H
      try dsimp only at H
      have Hc6 := Aside0.mk Hc60
      clear Hc60
      replace H := Option.bind_eq_some_iff.1 H
      obtain ⟨t317, Hc70, H⟩ := H
      try dsimp only at H
      have Hc7 := Aside0.mk Hc70
      clear Hc70
      replace H := Option.bind_eq_some_iff.1 H
      obtain ⟨t318, Hc80, H⟩ := H
      try dsimp only at H
      have Hc8 := Aside0.mk Hc80
      clear Hc80
      replace H := Option.bind_eq_some_iff.1 H
      obtain ⟨t319, Hc90, H⟩ := H
      try dsimp only at H
      have Hc9 := Aside0.mk Hc90
      clear Hc90
      replace H := Option.bind_eq_some_iff.1 H
      obtain ⟨t320, Hc100, H⟩ := H
      try dsimp only at H
      have Hc10 := Aside0.mk Hc100
      clear Hc100
      replace H := Option.bind_eq_some_iff.1 H
      obtain ⟨⟨t321, t322⟩, Hc110, H⟩ := H
      try dsimp only at H
      have Hc11 := Aside0.mk Hc110
      clear Hc110
      replace H := Option.bind_eq_some_iff.1 H
      obtain ⟨t323, Hc120, H⟩ := H
      try dsimp only at H
      have Hc12 := Aside0.mk Hc120
      clear Hc120
      by_cases c13 : (strOfNums t317).toList = (strOfNums t323).toList
      · rw [if_pos c13] at H
        have c13b0 : ((strOfNums t317).toList == (strOfNums t323).toList) = true := beq_iff_eq.mpr c13
        have c13b1 : ((strOfNums t317).toList != (strOfNums t323).toList) = false := bne_eq_false_iff_eq.mpr c13
        clear c13
        replace H := Option.bind_eq_some_iff.1 H
        obtain ⟨t324, Hc140, H⟩ := H
        try dsimp only at H
        have Hc14 := Aside0.mk Hc140
        clear Hc140
        by_cases c15 : (strOfNums t318).toList = (strOfNums t324).toList
        · rw [if_pos c15] at H
          have c15b0 : ((strOfNums t318).toList == (strOfNums t324).toList) = true := beq_iff_eq.mpr c15
          have c15b1 : ((strOfNums t318).toList != (strOfNums t324).toList) = false := bne_eq_false_iff_eq.mpr c15
          clear c15
          replace H := Option.bind_eq_some_iff.1 H
          obtain ⟨t325, Hc160, H⟩ := H
          try dsimp only at H
          have Hc16 := Aside0.mk Hc160
          clear Hc160
          by_cases c17 : (strOfNums t319).toList = (strOfNums t325).toList
          · rw [if_pos c17] at H
            have c17b0 : ((strOfNums t319).toList == (strOfNums t325).toList) = true := beq_iff_eq.mpr c17
            have c17b1 : ((strOfNums t319).toList != (strOfNums t325).toList) = false := bne_eq_false_iff_eq.mpr c17
            clear c17
            replace H := Option.bind_eq_some_iff.1 H
            obtain ⟨t326, Hc180, H⟩ := H
            try dsimp only at H
            have Hc18 := Aside0.mk Hc180
            clear Hc180
            have H' := Aside0.mk H
            clear H
            go_enter Try.func4, Try.ntmps4
            try go_wp2_with (first | ((with_reducible refine gate_dst (N := 18) rfl ?_); refine goesL_ (some 18) rfl rfl Try.func7 (by kernel_rfl) rfl #[] rfl (by (try simp only [List.map_toArray, List.map_cons, List.map_nil]); first | done | rfl | (simp; done)) ?_; (with_reducible refine (barrowlaw03_small.calls k _ _  Hc1.out).mono ?_); rintro e_ w19 ⟨rfl, hb_⟩; refine ⟨_, rfl, ?_⟩; replace HS := Aside0.mk (HS.out.below hb_); replace HK := Aside0.mk (HK.out.trans (Keep.below hb_))) | ((with_reducible refine gate_dst (N := 32) rfl ?_); refine goesL_ (some 32) rfl rfl Try.func9 (by kernel_rfl) rfl #[.slice A0 l0.length c0] rfl (by (try simp only [List.map_toArray, List.map_cons, List.map_nil]); first | done | rfl | (simp; done)) ?_; have hs0_ := HS.out; (with_reducible refine (barrowlaw03_Lent.slcalls _ _ _ _ _ _ _ (HF.out.keep HK.out) hs0_ (HR0.out.keep HK.out) HC0.out Hc6.out).mono ?_); rintro e_ w20 ⟨Az3000006, cz3000006, rfl, hsr_, hkr_⟩; refine ⟨_, rfl, ?_⟩; replace HS := Aside0.mk (hsr_); replace HK := Aside0.mk (HK.out.trans hkr_)) | ((with_reducible refine gate_dst (N := 35) rfl ?_); refine goesL_ (some 35) rfl rfl Try.func8 (by kernel_rfl) rfl #[.slice Az3000006 t316.length cz3000006, .int .i64 a1] rfl (by (try simp only [List.map_toArray, List.map_cons, List.map_nil]); first | done | rfl | (simp; done)) ?_; (with_reducible refine (pack_Uint.calls k _ _ _ _ _ _ (lent_c HS.out).2.2 (lent_c HS.out).2.1 Hc7.out).mono ?_); rintro e_ w21 ⟨v3000007_, rfl, ho3000007_, hb_⟩; refine ⟨_, rfl, ?_⟩; have hs_ := (SL.new (HF.out.keep HK.out) HS.out hb_ (row_of_R ho3000007_)).1; obtain ⟨Az3000007, cz3000007, e2_, _, _⟩ := SL.row_reads hs_; subst e2_; replace HS := Aside0.mk (hs_); replace HK := Aside0.mk (HK.out.trans (Keep.below hb_))) | ((with_reducible refine gate_dst (N := 38) rfl ?_); refine goesL_ (some 38) rfl rfl Try.func10 (by kernel_rfl) rfl #[.slice Az3000006 t316.length cz3000006, .int .i64 a1] rfl (by (try simp only [List.map_toArray, List.map_cons, List.map_nil]); first | done | rfl | (simp; done)) ?_; (with_reducible refine (pack_Int.calls k _ _ _ _ _ _ (lent_c (SL.get1 HS.out)).2.2 (lent_c (SL.get1 HS.out)).2.1 Hc8.out).mono ?_); rintro e_ w22 ⟨v3000008_, rfl, ho3000008_, hb_⟩; refine ⟨_, rfl, ?_⟩; have hs_ := (SL.new (HF.out.keep HK.out) HS.out hb_ (row_of_R ho3000008_)).1; obtain ⟨Az3000008, cz3000008, e2_, _, _⟩ := SL.row_reads hs_; subst e2_; replace HS := Aside0.mk (hs_); replace HK := Aside0.mk (HK.out.trans (Keep.below hb_))) | ((with_reducible refine gate_dst (N := 41) rfl ?_); refine goesL_ (some 41) rfl rfl Try.func11 (by kernel_rfl) rfl #[.slice Az3000006 t316.length cz3000006, .string a2] rfl (by (try simp only [List.map_toArray, List.map_cons, List.map_nil]); first | done | rfl | (simp; done)) ?_; (with_reducible refine (pack_Text.calls k _ _ _ _ _ _ (lent_c (SL.get2 HS.out)).2.2 (lent_c (SL.get2 HS.out)).2.1 Hc9.out).mono ?_); rintro e_ w23 ⟨v3000009_, rfl, ho3000009_, hb_⟩; refine ⟨_, rfl, ?_⟩; have hs_ := (SL.new (HF.out.keep HK.out) HS.out hb_ (row_of_R ho3000009_)).1; obtain ⟨Az3000009, cz3000009, e2_, _, _⟩ := SL.row_reads hs_; subst e2_; replace HS := Aside0.mk (hs_); replace HK := Aside0.mk (HK.out.trans (Keep.below hb_))) | ((with_reducible refine gate_dst (N := 44) rfl ?_); refine goesL_ (some 44) rfl rfl Try.func12 (by kernel_rfl) rfl #[.slice Az3000006 t316.length cz3000006, .slice A3 l3.length c3] rfl (by (try simp only [List.map_toArray, List.map_cons, List.map_nil]); first | done | rfl | (simp; done)) ?_; (with_reducible refine (pack_Ints.calls k _ _ _ _ _ _ _ _ (lent_c (SL.get3 HS.out)).2.2 (lent_c (SL.get3 HS.out)).2.1 (RO.at_ HR3.out HK.out) HC3.out Hc10.out).mono ?_); rintro e_ w24 ⟨v3000010_, rfl, ho3000010_, hb_⟩; refine ⟨_, rfl, ?_⟩; have hs_ := (SL.new (HF.out.keep HK.out) HS.out hb_ (row_of_R ho3000010_)).1; obtain ⟨Az3000010, cz3000010, e2_, _, _⟩ := SL.row_reads hs_; subst e2_; replace HS := Aside0.mk (hs_); replace HK := Aside0.mk (HK.out.trans (Keep.below hb_))) | ((with_reducible refine gate_dst (N := 47) rfl ?_); refine goesL_ (some 47) rfl rfl Try.func13 (by kernel_rfl) rfl #[.slice Az3000006 t316.length cz3000006, .slice A0 l0.length c0] rfl (by (try simp only [List.map_toArray, List.map_cons, List.map_nil]); first | done | rfl | (simp; done)) ?_; have hs0_ := (SL.get4 HS.out); (with_reducible refine (barrowlaw03_Kept.slcalls _ _ _ _ _ _ _ _ _ _ _ (HF.out.keep HK.out) hs0_ (HR0.out.keep HK.out) HC0.out Hc11.out).mono ?_); rintro e_ w25 ⟨rfl, hsr_, hkr_⟩; refine ⟨_, rfl, ?_⟩; replace HS := Aside0.mk (hsr_); replace HK := Aside0.mk (HK.out.trans hkr_)))
            refine start_ (n := 35) (S := fun w' => (Kd.int .u8).C w' Az3000007 t317.length t317 ∧ (Kd.int .u8).C w' Az3000008 t318.length t318 ∧ (Kd.int .u8).C w' Az3000009 t319.length t319 ∧ (Kd.int .u8).C w' Az3000010 t320.length t320) (ds := []) #[false, false, false, false, false, false, false, false, false, false, false, false, false, false, false, false, false, false, false, false, false, false, false, false, false, false, false, false, false, false, false, false, false, false, false] (by kernel_rfl) rfl rfl ⟨(SL.row_c (SL.get4 HS.out)).2.2, (SL.row_c (SL.get3 HS.out)).2.2, (SL.row_c (SL.get2 HS.out)).2.2, (SL.row_c (SL.get1 HS.out)).2.2⟩ (fun hHeld => ?_); refine with_tabW barrowlaw03_PackWrites.tab10 barrowlaw03_PackWrites.bits10 (fun HT_ HW_ => ?_)
            replace HK := Aside0.mk (Keep.drew HK.out)
            replace HS := Aside0.mk (SL.drew HS.out)
            refine pure_ (i := 0) (N := some 48) (v := ?_) (a' := ?_) #[true, false, false, false, false, false, false, false, false, false, false, false, false, false, false, false, false, false, false, false, false, false, false, false, false, false, false, false, false, false, false, false, false, false, false] rfl rfl (any_of HT_.out (by kernel_rfl)) (fun _ _ _ h => h) (Or.inl ⟨by rfl, ?_⟩) ?_ ?_; rotate_left; · (intro w'; go_simp; with_reducible rfl)
            rotate_left; · (simp only [Act.put, sT, sZ, sS, i64_w, i32_w]; rfl)
            refine pure_ (i := 2) (N := some 50) (v := ?_) (a' := ?_) #[true, false, true, false, false, false, false, false, false, false, false, false, false, false, false, false, false, false, false, false, false, false, false, false, false, false, false, false, false, false, false, false, false, false, false] rfl rfl (any_of HT_.out (by kernel_rfl)) (fun _ _ _ h => h) (Or.inl ⟨by rfl, ?_⟩) ?_ ?_; rotate_left; · (intro w'; go_simp; with_reducible rfl)
            rotate_left; · (simp only [Act.put, sT, sZ, sS, i64_w, i32_w]; rfl)
            refine pure_ (i := 3) (N := some 51) (v := ?_) (a' := ?_) #[true, false, true, true, false, false, false, false, false, false, false, false, false, false, false, false, false, false, false, false, false, false, false, false, false, false, false, false, false, false, false, false, false, false, false] rfl rfl (any_of HT_.out (by kernel_rfl)) (fun _ _ _ h => h) (Or.inl ⟨by rfl, ?_⟩) ?_ ?_; rotate_left; · (intro w'; go_simp; with_reducible rfl)
            rotate_left; · (simp only [Act.put, sT, sZ, sS, i64_w, i32_w]; rfl)
            refine take_ (i := 1) (N := some 49) (v := ?_) (a' := ?_) #[true, true, true, true, false, false, false, false, false, false, false, false, false, false, false, false, false, false, false, false, false, false, false, false, false, false, false, false, false, false, false, false, false, false, false] rfl rfl (take_ofW HT_.out HW_.out (by kernel_rfl)) (fun _ _ _ h => h) (Or.inl ⟨by rfl, ?_⟩) hHeld ?_ ?_; rotate_left
            · rintro w' ⟨s0, s1, s2, s3⟩
              have hcv_ := Kd.C_string (P := Try.prog) (A := Az3000007) (c := cz3000007) Try.underlying23 Try.underlying5 Try.underlying9 s0
              go_simp
              with_reducible rfl
            rotate_left; · (simp only [Act.put, sT, sZ, sS, i64_w, i32_w]; rfl)
            refine one_ (i := 4) (N := some 52) #[true, true, true, true, true, false, false, false, false, false, false, false, false, false, false, false, false, false, false, false, false, false, false, false, false, false, false, false, false, false, false, false, false, false, false] rfl rfl (one_of HT_.out (by kernel_rfl)) (by decide) (fun K hK => ?_)
            refine goes_ Try.func14 (by kernel_rfl) rfl #[.slice A0 l0.length c0, .int .i64 a1] (by rfl) rfl rfl (by (try simp only [List.map_toArray, List.map_cons, List.map_nil]); first | done | rfl | (simp; done)) ?_
            (with_reducible refine (barrowref03_Uint.calls k _ _ _ _ _ _ (RO.at_ HR0.out HK.out) HC0.out Hc12.out).mono ?_)
            rintro e_ w28 ⟨v3000011_, rfl, ho3000011_, hb_⟩
            refine ⟨_, rfl, ?_⟩
            have hs_ := (SL.new (HF.out.keep HK.out) HS.out hb_ (row_of_R ho3000011_)).1
            obtain ⟨Az3000011, cz3000011, e2_, _, _⟩ := SL.row_reads hs_
            subst e2_
            replace HS := Aside0.mk (hs_)
            replace HK := Aside0.mk (HK.out.trans (Keep.below hb_))
            refine hK.out _ _ ⟨(SL.row_c (SL.get5 HS.out)).2.2, (SL.row_c (SL.get4 HS.out)).2.2, (SL.row_c (SL.get3 HS.out)).2.2, (SL.row_c (SL.get2 HS.out)).2.2⟩ (fun hHeld => ?_)
            clear hK K
            refine norm_ (a' := ?_) ?_ ?_; rotate_left
            · show Act.put _ (some 52) _ = _
              simp only [Act.put, sT, sZ, sS, i64_w, i32_w]
              rfl
            refine one_ (i := 5) (N := some 53) #[true, true, true, true, true, true, false, false, false, false, false, false, false, false, false, false, false, false, false, false, false, false, false, false, false, false, false, false, false, false, false, false, false, false, false] rfl rfl (one_of HT_.out (by kernel_rfl)) (by decide) (fun K hK => ?_)
            refine st_of (by rfl) ?_
            refine op_same (v := .string (strOfNums t323)) (by have hcv_ := Kd.C_string (P := Try.prog) (A := Az3000011) (c := cz3000011) Try.underlying23 Try.underlying5 Try.underlying9 (SL.row_c HS.out).2.2; go_simp) ?_
            refine hK.out _ _ ⟨(SL.row_c (SL.get5 HS.out)).2.2, (SL.row_c (SL.get4 HS.out)).2.2, (SL.row_c (SL.get3 HS.out)).2.2, (SL.row_c (SL.get2 HS.out)).2.2⟩ (fun hHeld => ?_)
            clear hK K
            refine norm_ (a' := ?_) ?_ ?_; rotate_left
            · show Act.put _ (some 53) _ = _
              simp only [Act.put, sT, sZ, sS, i64_w, i32_w]
              rfl
            refine pure_ (i := 6) (N := some 54) (v := ?_) (a' := ?_) #[true, true, true, true, true, true, true, false, false, false, false, false, false, false, false, false, false, false, false, false, false, false, false, false, false, false, false, false, false, false, false, false, false, false, false] rfl rfl (any_of HT_.out (by kernel_rfl)) (fun _ _ _ h => h) (Or.inl ⟨by rfl, ?_⟩) ?_ ?_; rotate_left; · (intro w'; go_simp; with_reducible rfl)
            rotate_left; · (simp only [Act.put, sT, sZ, sS, i64_w, i32_w]; rfl)
            refine pure_ (i := 7) (N := some 55) (v := ?_) (a' := ?_) #[true, true, true, true, true, true, true, true, false, false, false, false, false, false, false, false, false, false, false, false, false, false, false, false, false, false, false, false, false, false, false, false, false, false, false] rfl rfl (any_of HT_.out (by kernel_rfl)) (fun _ _ _ h => h) (Or.inl ⟨by rfl, ?_⟩) ?_ ?_; rotate_left; · (intro w'; go_simp; with_reducible rfl)
            rotate_left; · (simp only [Act.put, sT, sZ, sS, i64_w, i32_w]; rfl)
            refine pure_ (i := 8) (N := some 56) (v := ?_) (a' := ?_) #[true, true, true, true, true, true, true, true, true, false, false, false, false, false, false, false, false, false, false, false, false, false, false, false, false, false, false, false, false, false, false, false, false, false, false] rfl rfl (any_of HT_.out (by kernel_rfl)) (fun _ _ _ h => h) (Or.inl ⟨by rfl, ?_⟩) ?_ ?_; rotate_left; · (intro w'; go_simp; with_reducible rfl)
            rotate_left; · (simp only [Act.put, sT, sZ, sS, i64_w, i32_w]; rfl)
            refine pure_ (i := 10) (N := some 58) (v := ?_) (a' := ?_) #[true, true, true, true, true, true, true, true, true, false, true, false, false, false, false, false, false, false, false, false, false, false, false, false, false, false, false, false, false, false, false, false, false, false, false] rfl rfl (any_of HT_.out (by kernel_rfl)) (fun _ _ _ h => h) (Or.inl ⟨by rfl, ?_⟩) ?_ ?_; rotate_left; · (intro w'; go_simp; with_reducible rfl)
            rotate_left; · (simp only [Act.put, sT, sZ, sS, i64_w, i32_w]; rfl)
            refine pure_ (i := 11) (N := some 59) (v := ?_) (a' := ?_) #[true, true, true, true, true, true, true, true, true, false, true, true, false, false, false, false, false, false, false, false, false, false, false, false, false, false, false, false, false, false, false, false, false, false, false] rfl rfl (any_of HT_.out (by kernel_rfl)) (fun _ _ _ h => h) (Or.inl ⟨by rfl, ?_⟩) ?_ ?_; rotate_left; · (intro w'; go_simp; with_reducible rfl)
            rotate_left; · (simp only [Act.put, sT, sZ, sS, i64_w, i32_w]; rfl)
            refine take_ (i := 9) (N := some 57) (v := ?_) (a' := ?_) #[true, true, true, true, true, true, true, true, true, true, true, true, false, false, false, false, false, false, false, false, false, false, false, false, false, false, false, false, false, false, false, false, false, false, false] rfl rfl (take_ofW HT_.out HW_.out (by kernel_rfl)) (fun _ _ _ h => h) (Or.inl ⟨by rfl, ?_⟩) hHeld ?_ ?_; rotate_left
            · rintro w' ⟨s0, s1, s2, s3⟩
              have hcv_ := Kd.C_string (P := Try.prog) (A := Az3000008) (c := cz3000008) Try.underlying23 Try.underlying5 Try.underlying9 s1
              go_simp
              with_reducible rfl
            rotate_left; · (simp only [Act.put, sT, sZ, sS, i64_w, i32_w]; rfl)
            refine one_ (i := 12) (N := some 60) #[true, true, true, true, true, true, true, true, true, true, true, true, true, false, false, false, false, false, false, false, false, false, false, false, false, false, false, false, false, false, false, false, false, false, false] rfl rfl (one_of HT_.out (by kernel_rfl)) (by decide) (fun K hK => ?_)
            refine goes_ Try.func15 (by kernel_rfl) rfl #[.slice A0 l0.length c0, .int .i64 a1] (by rfl) rfl rfl (by (try simp only [List.map_toArray, List.map_cons, List.map_nil]); first | done | rfl | (simp; done)) ?_
            (with_reducible refine (barrowref03_Int.calls k _ _ _ _ _ _ (RO.at_ HR0.out HK.out) HC0.out Hc14.out).mono ?_)
            rintro e_ w33 ⟨v3000012_, rfl, ho3000012_, hb_⟩
            refine ⟨_, rfl, ?_⟩
            have hs_ := (SL.new (HF.out.keep HK.out) HS.out hb_ (row_of_R ho3000012_)).1
            obtain ⟨Az3000012, cz3000012, e2_, _, _⟩ := SL.row_reads hs_
            subst e2_
            replace HS := Aside0.mk (hs_)
            replace HK := Aside0.mk (HK.out.trans (Keep.below hb_))
            refine hK.out _ _ ⟨(SL.row_c (SL.get6 HS.out)).2.2, (SL.row_c (SL.get5 HS.out)).2.2, (SL.row_c (SL.get4 HS.out)).2.2, (SL.row_c (SL.get3 HS.out)).2.2⟩ (fun hHeld => ?_)
            clear hK K
            refine norm_ (a' := ?_) ?_ ?_; rotate_left
            · show Act.put _ (some 60) _ = _
              simp only [Act.put, sT, sZ, sS, i64_w, i32_w]
              rfl
            refine one_ (i := 13) (N := some 61) #[true, true, true, true, true, true, true, true, true, true, true, true, true, true, false, false, false, false, false, false, false, false, false, false, false, false, false, false, false, false, false, false, false, false, false] rfl rfl (one_of HT_.out (by kernel_rfl)) (by decide) (fun K hK => ?_)
            refine st_of (by rfl) ?_
            refine op_same (v := .string (strOfNums t324)) (by have hcv_ := Kd.C_string (P := Try.prog) (A := Az3000012) (c := cz3000012) Try.underlying23 Try.underlying5 Try.underlying9 (SL.row_c HS.out).2.2; go_simp) ?_
            refine hK.out _ _ ⟨(SL.row_c (SL.get6 HS.out)).2.2, (SL.row_c (SL.get5 HS.out)).2.2, (SL.row_c (SL.get4 HS.out)).2.2, (SL.row_c (SL.get3 HS.out)).2.2⟩ (fun hHeld => ?_)
            clear hK K
            refine norm_ (a' := ?_) ?_ ?_; rotate_left
            · show Act.put _ (some 61) _ = _
              simp only [Act.put, sT, sZ, sS, i64_w, i32_w]
              rfl
            refine pure_ (i := 14) (N := some 62) (v := ?_) (a' := ?_) #[true, true, true, true, true, true, true, true, true, true, true, true, true, true, true, false, false, false, false, false, false, false, false, false, false, false, false, false, false, false, false, false, false, false, false] rfl rfl (any_of HT_.out (by kernel_rfl)) (fun _ _ _ h => h) (Or.inl ⟨by rfl, ?_⟩) ?_ ?_; rotate_left; · (intro w'; go_simp; with_reducible rfl)
            rotate_left; · (simp only [Act.put, sT, sZ, sS, i64_w, i32_w]; rfl)
            refine pure_ (i := 15) (N := some 63) (v := ?_) (a' := ?_) #[true, true, true, true, true, true, true, true, true, true, true, true, true, true, true, true, false, false, false, false, false, false, false, false, false, false, false, false, false, false, false, false, false, false, false] rfl rfl (any_of HT_.out (by kernel_rfl)) (fun _ _ _ h => h) (Or.inl ⟨by rfl, ?_⟩) ?_ ?_; rotate_left; · (intro w'; go_simp; with_reducible rfl)
            rotate_left; · (simp only [Act.put, sT, sZ, sS, i64_w, i32_w]; rfl)
            refine pure_ (i := 16) (N := some 64) (v := ?_) (a' := ?_) #[true, true, true, true, true, true, true, true, true, true, true, true, true, true, true, true, true, false, false, false, false, false, false, false, false, false, false, false, false, false, false, false, false, false, false] rfl rfl (any_of HT_.out (by kernel_rfl)) (fun _ _ _ h => h) (Or.inl ⟨by rfl, ?_⟩) ?_ ?_; rotate_left; · (intro w'; go_simp; with_reducible rfl)
            rotate_left; · (simp only [Act.put, sT, sZ, sS, i64_w, i32_w]; rfl)
            refine pure_ (i := 17) (N := some 65) (v := ?_) (a' := ?_) #[true, true, true, true, true, true, true, true, true, true, true, true, true, true, true, true, true, true, false, false, false, false, false, false, false, false, false, false, false, false, false, false, false, false, false] rfl rfl (any_of HT_.out (by kernel_rfl)) (fun _ _ _ h => h) (Or.inl ⟨by rfl, ?_⟩) ?_ ?_; rotate_left; · (intro w'; go_simp; with_reducible rfl)
            rotate_left; · (simp only [Act.put, sT, sZ, sS, i64_w, i32_w]; rfl)
            refine pure_ (i := 19) (N := some 67) (v := ?_) (a' := ?_) #[true, true, true, true, true, true, true, true, true, true, true, true, true, true, true, true, true, true, false, true, false, false, false, false, false, false, false, false, false, false, false, false, false, false, false] rfl rfl (any_of HT_.out (by kernel_rfl)) (fun _ _ _ h => h) (Or.inl ⟨by rfl, ?_⟩) ?_ ?_; rotate_left; · (intro w'; go_simp; with_reducible rfl)
            rotate_left; · (simp only [Act.put, sT, sZ, sS, i64_w, i32_w]; rfl)
            refine pure_ (i := 20) (N := some 68) (v := ?_) (a' := ?_) #[true, true, true, true, true, true, true, true, true, true, true, true, true, true, true, true, true, true, false, true, true, false, false, false, false, false, false, false, false, false, false, false, false, false, false] rfl rfl (any_of HT_.out (by kernel_rfl)) (fun _ _ _ h => h) (Or.inl ⟨by rfl, ?_⟩) ?_ ?_; rotate_left; · (intro w'; go_simp; with_reducible rfl)
            rotate_left; · (simp only [Act.put, sT, sZ, sS, i64_w, i32_w]; rfl)
            refine take_ (i := 18) (N := some 66) (v := ?_) (a' := ?_) #[true, true, true, true, true, true, true, true, true, true, true, true, true, true, true, true, true, true, true, true, true, false, false, false, false, false, false, false, false, false, false, false, false, false, false] rfl rfl (take_ofW HT_.out HW_.out (by kernel_rfl)) (fun _ _ _ h => h) (Or.inl ⟨by rfl, ?_⟩) hHeld ?_ ?_; rotate_left
            · rintro w' ⟨s0, s1, s2, s3⟩
              have hcv_ := Kd.C_string (P := Try.prog) (A := Az3000009) (c := cz3000009) Try.underlying23 Try.underlying5 Try.underlying9 s2
              go_simp
              with_reducible rfl
            rotate_left; · (simp only [Act.put, sT, sZ, sS, i64_w, i32_w]; rfl)
            refine one_ (i := 21) (N := some 69) #[true, true, true, true, true, true, true, true, true, true, true, true, true, true, true, true, true, true, true, true, true, true, false, false, false, false, false, false, false, false, false, false, false, false, false] rfl rfl (one_of HT_.out (by kernel_rfl)) (by decide) (fun K hK => ?_)
            refine goes_ Try.func16 (by kernel_rfl) rfl #[.slice A0 l0.length c0, .string a2] (by rfl) rfl rfl (by (try simp only [List.map_toArray, List.map_cons, List.map_nil]); first | done | rfl | (simp; done)) ?_
            (with_reducible refine (barrowref03_Text.calls k _ _ _ _ _ _ (RO.at_ HR0.out HK.out) HC0.out Hc16.out).mono ?_)
            rintro e_ w38 ⟨v3000013_, rfl, ho3000013_, hb_⟩
            refine ⟨_, rfl, ?_⟩
            have hs_ := (SL.new (HF.out.keep HK.out) HS.out hb_ (row_of_R ho3000013_)).1
            obtain ⟨Az3000013, cz3000013, e2_, _, _⟩ := SL.row_reads hs_
            subst e2_
            replace HS := Aside0.mk (hs_)
            replace HK := Aside0.mk (HK.out.trans (Keep.below hb_))
            refine hK.out _ _ ⟨(SL.row_c (SL.get7 HS.out)).2.2, (SL.row_c (SL.get6 HS.out)).2.2, (SL.row_c (SL.get5 HS.out)).2.2, (SL.row_c (SL.get4 HS.out)).2.2⟩ (fun hHeld => ?_)
            clear hK K
            refine norm_ (a' := ?_) ?_ ?_; rotate_left
            · show Act.put _ (some 69) _ = _
              simp only [Act.put, sT, sZ, sS, i64_w, i32_w]
              rfl
            refine one_ (i := 22) (N := some 70) #[true, true, true, true, true, true, true, true, true, true, true, true, true, true, true, true, true, true, true, true, true, true, true, false, false, false, false, false, false, false, false, false, false, false, false] rfl rfl (one_of HT_.out (by kernel_rfl)) (by decide) (fun K hK => ?_)
            refine st_of (by rfl) ?_
            refine op_same (v := .string (strOfNums t325)) (by have hcv_ := Kd.C_string (P := Try.prog) (A := Az3000013) (c := cz3000013) Try.underlying23 Try.underlying5 Try.underlying9 (SL.row_c HS.out).2.2; go_simp) ?_
            refine hK.out _ _ ⟨(SL.row_c (SL.get7 HS.out)).2.2, (SL.row_c (SL.get6 HS.out)).2.2, (SL.row_c (SL.get5 HS.out)).2.2, (SL.row_c (SL.get4 HS.out)).2.2⟩ (fun hHeld => ?_)
            clear hK K
            refine norm_ (a' := ?_) ?_ ?_; rotate_left
            · show Act.put _ (some 70) _ = _
              simp only [Act.put, sT, sZ, sS, i64_w, i32_w]
              rfl
            refine pure_ (i := 23) (N := some 71) (v := ?_) (a' := ?_) #[true, true, true, true, true, true, true, true, true, true, true, true, true, true, true, true, true, true, true, true, true, true, true, true, false, false, false, false, false, false, false, false, false, false, false] rfl rfl (any_of HT_.out (by kernel_rfl)) (fun _ _ _ h => h) (Or.inl ⟨by rfl, ?_⟩) ?_ ?_; rotate_left; · (intro w'; go_simp; with_reducible rfl)
            rotate_left; · (simp only [Act.put, sT, sZ, sS, i64_w, i32_w]; rfl)
            refine pure_ (i := 24) (N := some 72) (v := ?_) (a' := ?_) #[true, true, true, true, true, true, true, true, true, true, true, true, true, true, true, true, true, true, true, true, true, true, true, true, true, false, false, false, false, false, false, false, false, false, false] rfl rfl (any_of HT_.out (by kernel_rfl)) (fun _ _ _ h => h) (Or.inl ⟨by rfl, ?_⟩) ?_ ?_; rotate_left; · (intro w'; go_simp; with_reducible rfl)
            rotate_left; · (simp only [Act.put, sT, sZ, sS, i64_w, i32_w]; rfl)
            refine pure_ (i := 25) (N := some 73) (v := ?_) (a' := ?_) #[true, true, true, true, true, true, true, true, true, true, true, true, true, true, true, true, true, true, true, true, true, true, true, true, true, true, false, false, false, false, false, false, false, false, false] rfl rfl (any_of HT_.out (by kernel_rfl)) (fun _ _ _ h => h) (Or.inl ⟨by rfl, ?_⟩) ?_ ?_; rotate_left; · (intro w'; go_simp; with_reducible rfl)
            rotate_left; · (simp only [Act.put, sT, sZ, sS, i64_w, i32_w]; rfl)
            refine pure_ (i := 26) (N := some 74) (v := ?_) (a' := ?_) #[true, true, true, true, true, true, true, true, true, true, true, true, true, true, true, true, true, true, true, true, true, true, true, true, true, true, true, false, false, false, false, false, false, false, false] rfl rfl (any_of HT_.out (by kernel_rfl)) (fun _ _ _ h => h) (Or.inl ⟨by rfl, ?_⟩) ?_ ?_; rotate_left; · (intro w'; go_simp; with_reducible rfl)
            rotate_left; · (simp only [Act.put, sT, sZ, sS, i64_w, i32_w]; rfl)
            refine pure_ (i := 28) (N := some 76) (v := ?_) (a' := ?_) #[true, true, true, true, true, true, true, true, true, true, true, true, true, true, true, true, true, true, true, true, true, true, true, true, true, true, true, false, true, false, false, false, false, false, false] rfl rfl (any_of HT_.out (by kernel_rfl)) (fun _ _ _ h => h) (Or.inl ⟨by rfl, ?_⟩) ?_ ?_; rotate_left; · (intro w'; go_simp; with_reducible rfl)
            rotate_left; · (simp only [Act.put, sT, sZ, sS, i64_w, i32_w]; rfl)
            refine pure_ (i := 29) (N := some 77) (v := ?_) (a' := ?_) #[true, true, true, true, true, true, true, true, true, true, true, true, true, true, true, true, true, true, true, true, true, true, true, true, true, true, true, false, true, true, false, false, false, false, false] rfl rfl (any_of HT_.out (by kernel_rfl)) (fun _ _ _ h => h) (Or.inl ⟨by rfl, ?_⟩) ?_ ?_; rotate_left; · (intro w'; go_simp; with_reducible rfl)
            rotate_left; · (simp only [Act.put, sT, sZ, sS, i64_w, i32_w]; rfl)
            refine take_ (i := 27) (N := some 75) (v := ?_) (a' := ?_) #[true, true, true, true, true, true, true, true, true, true, true, true, true, true, true, true, true, true, true, true, true, true, true, true, true, true, true, true, true, true, false, false, false, false, false] rfl rfl (take_ofW HT_.out HW_.out (by kernel_rfl)) (fun _ _ _ h => h) (Or.inl ⟨by rfl, ?_⟩) hHeld ?_ ?_; rotate_left
            · rintro w' ⟨s0, s1, s2, s3⟩
              have hcv_ := Kd.C_string (P := Try.prog) (A := Az3000010) (c := cz3000010) Try.underlying23 Try.underlying5 Try.underlying9 s3
              go_simp
              with_reducible rfl
            rotate_left; · (simp only [Act.put, sT, sZ, sS, i64_w, i32_w]; rfl)
            refine one_ (i := 30) (N := some 78) #[true, true, true, true, true, true, true, true, true, true, true, true, true, true, true, true, true, true, true, true, true, true, true, true, true, true, true, true, true, true, true, false, false, false, false] rfl rfl (one_of HT_.out (by kernel_rfl)) (by decide) (fun K hK => ?_)
            refine goes_ Try.func17 (by kernel_rfl) rfl #[.slice A0 l0.length c0, .slice A3 l3.length c3] (by rfl) rfl rfl (by (try simp only [List.map_toArray, List.map_cons, List.map_nil]); first | done | rfl | (simp; done)) ?_
            (with_reducible refine (barrowref03_Ints.calls k _ _ _ _ _ _ _ _ (RO.at_ HR0.out HK.out) HC0.out (RO.at_ HR3.out HK.out) HC3.out Hc18.out).mono ?_)
            rintro e_ w43 ⟨v3000014_, rfl, ho3000014_, hb_⟩
            refine ⟨_, rfl, ?_⟩
            have hs_ := (SL.new (HF.out.keep HK.out) HS.out hb_ (row_of_R ho3000014_)).1
            obtain ⟨Az3000014, cz3000014, e2_, _, _⟩ := SL.row_reads hs_
            subst e2_
            replace HS := Aside0.mk (hs_)
            replace HK := Aside0.mk (HK.out.trans (Keep.below hb_))
            refine hK.out _ _ ⟨(SL.row_c (SL.get8 HS.out)).2.2, (SL.row_c (SL.get7 HS.out)).2.2, (SL.row_c (SL.get6 HS.out)).2.2, (SL.row_c (SL.get5 HS.out)).2.2⟩ (fun hHeld => ?_)
            clear hK K
            refine norm_ (a' := ?_) ?_ ?_; rotate_left
            · show Act.put _ (some 78) _ = _
              simp only [Act.put, sT, sZ, sS, i64_w, i32_w]
              rfl
            refine one_ (i := 31) (N := some 79) #[true, true, true, true, true, true, true, true, true, true, true, true, true, true, true, true, true, true, true, true, true, true, true, true, true, true, true, true, true, true, true, true, false, false, false] rfl rfl (one_of HT_.out (by kernel_rfl)) (by decide) (fun K hK => ?_)
            refine st_of (by rfl) ?_
            refine op_same (v := .string (strOfNums t326)) (by have hcv_ := Kd.C_string (P := Try.prog) (A := Az3000014) (c := cz3000014) Try.underlying23 Try.underlying5 Try.underlying9 (SL.row_c HS.out).2.2; go_simp) ?_
            refine hK.out _ _ ⟨(SL.row_c (SL.get8 HS.out)).2.2, (SL.row_c (SL.get7 HS.out)).2.2, (SL.row_c (SL.get6 HS.out)).2.2, (SL.row_c (SL.get5 HS.out)).2.2⟩ (fun hHeld => ?_)
            clear hK K
            refine norm_ (a' := ?_) ?_ ?_; rotate_left
            · show Act.put _ (some 79) _ = _
              simp only [Act.put, sT, sZ, sS, i64_w, i32_w]
              rfl
            refine pure_ (i := 32) (N := some 80) (v := ?_) (a' := ?_) #[true, true, true, true, true, true, true, true, true, true, true, true, true, true, true, true, true, true, true, true, true, true, true, true, true, true, true, true, true, true, true, true, true, false, false] rfl rfl (any_of HT_.out (by kernel_rfl)) (fun _ _ _ h => h) (Or.inl ⟨by rfl, ?_⟩) ?_ ?_; rotate_left; · (intro w'; go_simp; with_reducible rfl)
            rotate_left; · (simp only [Act.put, sT, sZ, sS, i64_w, i32_w]; rfl)
            refine pure_ (i := 33) (N := some 81) (v := ?_) (a' := ?_) #[true, true, true, true, true, true, true, true, true, true, true, true, true, true, true, true, true, true, true, true, true, true, true, true, true, true, true, true, true, true, true, true, true, true, false] rfl rfl (any_of HT_.out (by kernel_rfl)) (fun _ _ _ h => h) (Or.inl ⟨by rfl, ?_⟩) ?_ ?_; rotate_left; · (intro w'; go_simp; with_reducible rfl)
            rotate_left; · (simp only [Act.put, sT, sZ, sS, i64_w, i32_w]; rfl)
            refine pure_ (i := 34) (N := some 16) (v := ?_) (a' := ?_) #[true, true, true, true, true, true, true, true, true, true, true, true, true, true, true, true, true, true, true, true, true, true, true, true, true, true, true, true, true, true, true, true, true, true, true] rfl rfl (any_of HT_.out (by kernel_rfl)) (fun _ _ _ h => h) (Or.inl ⟨by rfl, ?_⟩) ?_ ?_; rotate_left; · (intro w'; go_simp; with_reducible rfl)
            rotate_left; · (simp only [Act.put, sT, sZ, sS, i64_w, i32_w]; rfl)
            refine done_ (done_of HT_.out (by kernel_rfl)) ?_
            try go_wp2
            replace HS := Aside0.mk (SL.tail (SL.tail (SL.tail HS.out)))
            go_loopg [17] k (fun kq v17 w' => ∃ (y3000008_0 : List Int) (y3000007_0 : List Int) (x17_0 : Int), v17 = .int .i64 x17_0 ∧ Aside0 (barrowlaw03_PackWrites.l0 kq l0 x17_0 y3000008_0 y3000007_0 t315 t316 t317 t318 t320 t321 t322 t326 = some r) ∧ Aside0 (kq ≤ k) ∧ Aside0 (SL (row (Kd.int .u8) 5 (.slice Az3000011 t323.length cz3000011) t323 :: lentR 5 (.slice Az3000006 t316.length cz3000006) t322 :: row (Kd.int .u8) 5 (.slice Az3000010 t320.length cz3000010) t320 :: row (Kd.int .u8) 5 (.slice Az3000009 t319.length cz3000009) t319 :: row (Kd.int .u8) 5 (.slice Az3000008 t318.length cz3000008) y3000008_0 :: row (Kd.int .u8) 5 (.slice Az3000007 t317.length cz3000007) y3000007_0 :: L) w' S) ∧ Aside0 (Keep S w w'))
            case atStart => exact ⟨(t318), (t317), (0), (by first | rfl | (simp; done) | (simp [*]; done)), H', ⟨Nat.le_refl _⟩, HS, HK⟩
            case round =>
              clear H' HS HK
              obtain ⟨y3000008_0, y3000007_0, x17_0, rfl, HA, HQ1, HS, HK⟩ := hrel
              cases gk with
              | zero => exact absurd HA.out (by simp [barrowlaw03_PackWrites.l0])
              | succ k1 =>
                have H := HA.out
                clear HA
                simp only [barrowlaw03_PackWrites.l0] at H
                by_cases c46 : x17_0 < (t317.length : Int)
                · rw [if_pos c46] at H
                  have c46b0 : decide (x17_0 < (t317.length : Int)) = true := decide_eq_true c46
                  clear c46
                  by_cases c47 : x17_0 < (t316.length : Int)
                  · rw [if_pos c47] at H
                    have c47b0 : decide (x17_0 < (t316.length : Int)) = true := decide_eq_true c47
                    clear c47
                    by_cases c48 : 0 ≤ x17_0
                    · rw [if_pos c48] at H
                      have c48b0 : decide (0 ≤ x17_0) = true := decide_eq_true c48
                      clear c48
                      replace H := Option.bind_eq_some_iff.1 H
                      obtain ⟨y328, hy3280, H⟩ := H
                      try dsimp only at H
                      have hy328 := Option.some.inj hy3280
                      clear hy3280
                      have Ny328 := Aside0.mk hy328
                      clear hy328
                      by_cases c49 : x17_0 < (t318.length : Int)
                      · rw [if_pos c49] at H
                        have c49b0 : decide (x17_0 < (t318.length : Int)) = true := decide_eq_true c49
                        clear c49
                        replace H := Option.bind_eq_some_iff.1 H
                        obtain ⟨y330, hy3300, H⟩ := H
                        try dsimp only at H
                        have hy330 := Option.some.inj hy3300
                        clear hy3300
                        have Ny330 := Aside0.mk hy330
                        clear hy330
                        have H' := Aside0.mk H
                        clear H
                        have pq327 : 0 ≤ (x17_0 : Int) := of_decide_eq_true (by first | (with_reducible assumption) | assumption)
                        have qq327 : x17_0 < ((t317.length : Int) : Int) := of_decide_eq_true (by first | (with_reducible assumption) | assumption)
                        obtain ⟨adq327, eq327, hxq327_0⟩ := Kd.at_int (SL.row_c (SL.get5 HS.out)).2.2 x17_0 pq327 qq327
                        cases eq327
                        replace pq327 := eq_true pq327
                        replace qq327 := eq_true qq327
                        go_wp2_with (first | ((with_reducible refine gate_store (t := 5) (p := 96) (v := (.const (.int .u8 99))) rfl ?_); refine wpList_plain rfl (fun K_ hK_ => ?_); refine op_set (S := S) (enc := Value.int .u8) (h1 := fun _ => rfl) 5 (.tmp 96) (.const (.int .u8 99)) rfl adq327 (x17_0) 99 (SL.get5 HS.out) (by rfl) rfl (by kernel_rfl) (of_decide_eq_true (by first | (with_reducible assumption) | assumption)) (of_decide_eq_true (by first | (with_reducible assumption) | assumption)) y328 Ny328.out ?_; intro w50 hs_ hk_; refine hK_ _ _ ?_; clear hK_ K_; replace HS := Aside0.mk ((SL.back5 (show SL (row (Kd.int .u8) 5 (.slice (some adq327) t317.length cz3000007) y328 :: _) _ _ from hs_))); replace HK := Aside0.mk (HK.out.trans hk_); have pq329 : 0 ≤ (x17_0 : Int) := of_decide_eq_true (by first | (with_reducible assumption) | assumption); have qq329 : x17_0 < ((t318.length : Int) : Int) := of_decide_eq_true (by first | (with_reducible assumption) | assumption); obtain ⟨adq329, eq329, hxq329_0⟩ := Kd.at_int (SL.row_c (SL.get4 HS.out)).2.2 x17_0 pq329 qq329; cases eq329; replace pq329 := eq_true pq329; replace qq329 := eq_true qq329) | ((with_reducible refine gate_store (t := 5) (p := 99) (v := (.const (.int .u8 99))) rfl ?_); refine wpList_plain rfl (fun K_ hK_ => ?_); refine op_set (S := S) (enc := Value.int .u8) (h1 := fun _ => rfl) 5 (.tmp 99) (.const (.int .u8 99)) rfl adq329 (x17_0) 99 (SL.get4 HS.out) (by rfl) rfl (by kernel_rfl) (of_decide_eq_true (by first | (with_reducible assumption) | assumption)) (of_decide_eq_true (by first | (with_reducible assumption) | assumption)) y330 Ny330.out ?_; intro w51 hs_ hk_; refine hK_ _ _ ?_; clear hK_ K_; replace HS := Aside0.mk ((SL.back4 (show SL (row (Kd.int .u8) 5 (.slice (some adq329) t318.length cz3000008) y330 :: _) _ _ from hs_))); replace HK := Aside0.mk (HK.out.trans hk_)))
                        go_roundg k1
                        case measure => have := HQ1.out; omega
                        case rel => exact ⟨(y330), (y328), (wrap64 (x17_0 + 1)), (by first | rfl | (simp; done) | (simp [*]; done)), H', ⟨by have := HQ1.out; omega⟩, HS, HK⟩
                      · rw [if_neg c49] at H
                        exact absurd H (by simp)
                    · rw [if_neg c48] at H
                      exact absurd H (by simp)
                  · rw [if_neg c47] at H
                    have c47b0 : decide (x17_0 < (t316.length : Int)) = false := decide_eq_false c47
                    clear c47
                    by_cases c52 : t315 = true
                    · subst c52
                      rw [if_pos rfl] at H
                      by_cases c53 : (strOfNums t320).toList = (strOfNums t326).toList
                      · rw [if_pos c53] at H
                        have c53b0 : ((strOfNums t320).toList == (strOfNums t326).toList) = true := beq_iff_eq.mpr c53
                        have c53b1 : ((strOfNums t320).toList != (strOfNums t326).toList) = false := bne_eq_false_iff_eq.mpr c53
                        clear c53
                        by_cases c54 : t321 = true
                        · subst c54
                          rw [if_pos rfl] at H
                          replace H := Option.bind_eq_some_iff.1 H
                          obtain ⟨⟨t331, t332⟩, Hc550, H⟩ := H
                          try dsimp only at H
                          have Hc55 := Aside0.mk Hc550
                          clear Hc550
                          obtain rfl := Option.some.inj H
                          go_wp2_with (first | ((with_reducible refine gate_dst (N := 110) rfl ?_); (try (refine gate_guard (by rfl) ?_; dsimp only)); refine goesL_ (some 110) rfl rfl Try.func13 (by kernel_rfl) rfl #[.slice Az3000006 t316.length cz3000006, .slice A0 l0.length c0] rfl (by (try simp only [List.map_toArray, List.map_cons, List.map_nil]); first | done | rfl | (simp; done)) ?_; have el3000006_ := Aside0.mk (lent_c (SL.get1 HS.out)).1; refine calls_of_args (args' := #[.slice Az3000006 t322.length cz3000006, .slice A0 l0.length c0]) (by rw [← el3000006_.out]) ?_; have hs0_ := (lent_len (SL.get1 HS.out)); (with_reducible refine (barrowlaw03_Kept.slcalls _ _ _ _ _ _ _ _ _ _ _ (HF.out.keep HK.out) hs0_ (HR0.out.keep HK.out) HC0.out Hc55.out).mono ?_); rintro e_ w56 ⟨rfl, hsr_, hkr_⟩; refine ⟨_, rfl, ?_⟩; replace HS := Aside0.mk ((lent_n el3000006_.out hsr_)); replace HK := Aside0.mk (HK.out.trans hkr_)))
                          go_ret
                          replace HS := Aside0.mk (SL.tail (SL.tail (SL.tail (SL.tail (SL.tail (SL.tail HS.out))))))
                          unfold barrowlaw03_PackWrites.Post
                          exact ⟨by first | rfl | (simp; done) | (simp [*]; done) | (simp at c53b0 ⊢; first | exact c53b0 | (simp [c53b0]; done)), HS.out, HK.out⟩
                        · replace c54 := Bool.eq_false_iff.mpr c54
                          subst c54
                          rw [if_neg (show ¬ (false = true) by decide)] at H
                          exact absurd H (by simp)
                      · rw [if_neg c53] at H
                        exact absurd H (by simp)
                    · replace c52 := Bool.eq_false_iff.mpr c52
                      subst c52
                      rw [if_neg (show ¬ (false = true) by decide)] at H
                      exact absurd H (by simp)
                · rw [if_neg c46] at H
                  have c46b0 : decide (x17_0 < (t317.length : Int)) = false := decide_eq_false c46
                  clear c46
                  by_cases c57 : t315 = true
                  · subst c57
                    rw [if_pos rfl] at H
                    by_cases c58 : (strOfNums t320).toList = (strOfNums t326).toList
                    · rw [if_pos c58] at H
                      have c58b0 : ((strOfNums t320).toList == (strOfNums t326).toList) = true := beq_iff_eq.mpr c58
                      have c58b1 : ((strOfNums t320).toList != (strOfNums t326).toList) = false := bne_eq_false_iff_eq.mpr c58
                      clear c58
                      by_cases c59 : t321 = true
                      · subst c59
                        rw [if_pos rfl] at H
                        replace H := Option.bind_eq_some_iff.1 H
                        obtain ⟨⟨t333, t334⟩, Hc600, H⟩ := H
                        try dsimp only at H
                        have Hc60 := Aside0.mk Hc600
                        clear Hc600
                        obtain rfl := Option.some.inj H
                        go_wp2_with (first | ((with_reducible refine gate_dst (N := 110) rfl ?_); (try (refine gate_guard (by rfl) ?_; dsimp only)); refine goesL_ (some 110) rfl rfl Try.func13 (by kernel_rfl) rfl #[.slice Az3000006 t316.length cz3000006, .slice A0 l0.length c0] rfl (by (try simp only [List.map_toArray, List.map_cons, List.map_nil]); first | done | rfl | (simp; done)) ?_; have el3000006_ := Aside0.mk (lent_c (SL.get1 HS.out)).1; refine calls_of_args (args' := #[.slice Az3000006 t322.length cz3000006, .slice A0 l0.length c0]) (by rw [← el3000006_.out]) ?_; have hs0_ := (lent_len (SL.get1 HS.out)); (with_reducible refine (barrowlaw03_Kept.slcalls _ _ _ _ _ _ _ _ _ _ _ (HF.out.keep HK.out) hs0_ (HR0.out.keep HK.out) HC0.out Hc60.out).mono ?_); rintro e_ w61 ⟨rfl, hsr_, hkr_⟩; refine ⟨_, rfl, ?_⟩; replace HS := Aside0.mk ((lent_n el3000006_.out hsr_)); replace HK := Aside0.mk (HK.out.trans hkr_)))
                        go_ret
                        replace HS := Aside0.mk (SL.tail (SL.tail (SL.tail (SL.tail (SL.tail (SL.tail HS.out))))))
                        unfold barrowlaw03_PackWrites.Post
                        exact ⟨by first | rfl | (simp; done) | (simp [*]; done) | (simp at c58b0 ⊢; first | exact c58b0 | (simp [c58b0]; done)), HS.out, HK.out⟩
                      · replace c59 := Bool.eq_false_iff.mpr c59
                        subst c59
                        rw [if_neg (show ¬ (false = true) by decide)] at H
                        exact absurd H (by simp)
                    · rw [if_neg c58] at H
                      exact absurd H (by simp)
                  · replace c57 := Bool.eq_false_iff.mpr c57
                    subst c57
                    rw [if_neg (show ¬ (false = true) by decide)] at H
                    exact absurd H (by simp)
          · rw [if_neg c17] at H
            have c17b0 : ((strOfNums t319).toList == (strOfNums t325).toList) = false := beq_eq_false_iff_ne.mpr c17
            have c17b1 : ((strOfNums t319).toList != (strOfNums t325).toList) = true := bne_iff_ne.mpr c17
            have H' := Aside0.mk H
            clear H
            go_enter Try.func4, Try.ntmps4
            try go_wp2_with (first | ((with_reducible refine gate_dst (N := 18) rfl ?_); refine goesL_ (some 18) rfl rfl Try.func7 (by kernel_rfl) rfl #[] rfl (by (try simp only [List.map_toArray, List.map_cons, List.map_nil]); first | done | rfl | (simp; done)) ?_; (with_reducible refine (barrowlaw03_small.calls k _ _  Hc1.out).mono ?_); rintro e_ w62 ⟨rfl, hb_⟩; refine ⟨_, rfl, ?_⟩; replace HS := Aside0.mk (HS.out.below hb_); replace HK := Aside0.mk (HK.out.trans (Keep.below hb_))) | ((with_reducible refine gate_dst (N := 32) rfl ?_); refine goesL_ (some 32) rfl rfl Try.func9 (by kernel_rfl) rfl #[.slice A0 l0.length c0] rfl (by (try simp only [List.map_toArray, List.map_cons, List.map_nil]); first | done | rfl | (simp; done)) ?_; have hs0_ := HS.out; (with_reducible refine (barrowlaw03_Lent.slcalls _ _ _ _ _ _ _ (HF.out.keep HK.out) hs0_ (HR0.out.keep HK.out) HC0.out Hc6.out).mono ?_); rintro e_ w63 ⟨Az3000006, cz3000006, rfl, hsr_, hkr_⟩; refine ⟨_, rfl, ?_⟩; replace HS := Aside0.mk (hsr_); replace HK := Aside0.mk (HK.out.trans hkr_)) | ((with_reducible refine gate_dst (N := 35) rfl ?_); refine goesL_ (some 35) rfl rfl Try.func8 (by kernel_rfl) rfl #[.slice Az3000006 t316.length cz3000006, .int .i64 a1] rfl (by (try simp only [List.map_toArray, List.map_cons, List.map_nil]); first | done | rfl | (simp; done)) ?_; (with_reducible refine (pack_Uint.calls k _ _ _ _ _ _ (lent_c HS.out).2.2 (lent_c HS.out).2.1 Hc7.out).mono ?_); rintro e_ w64 ⟨v3000007_, rfl, ho3000007_, hb_⟩; refine ⟨_, rfl, ?_⟩; have hs_ := (SL.new (HF.out.keep HK.out) HS.out hb_ (row_of_R ho3000007_)).1; obtain ⟨Az3000007, cz3000007, e2_, _, _⟩ := SL.row_reads hs_; subst e2_; replace HS := Aside0.mk (hs_); replace HK := Aside0.mk (HK.out.trans (Keep.below hb_))) | ((with_reducible refine gate_dst (N := 38) rfl ?_); refine goesL_ (some 38) rfl rfl Try.func10 (by kernel_rfl) rfl #[.slice Az3000006 t316.length cz3000006, .int .i64 a1] rfl (by (try simp only [List.map_toArray, List.map_cons, List.map_nil]); first | done | rfl | (simp; done)) ?_; (with_reducible refine (pack_Int.calls k _ _ _ _ _ _ (lent_c (SL.get1 HS.out)).2.2 (lent_c (SL.get1 HS.out)).2.1 Hc8.out).mono ?_); rintro e_ w65 ⟨v3000008_, rfl, ho3000008_, hb_⟩; refine ⟨_, rfl, ?_⟩; have hs_ := (SL.new (HF.out.keep HK.out) HS.out hb_ (row_of_R ho3000008_)).1; obtain ⟨Az3000008, cz3000008, e2_, _, _⟩ := SL.row_reads hs_; subst e2_; replace HS := Aside0.mk (hs_); replace HK := Aside0.mk (HK.out.trans (Keep.below hb_))) | ((with_reducible refine gate_dst (N := 41) rfl ?_); refine goesL_ (some 41) rfl rfl Try.func11 (by kernel_rfl) rfl #[.slice Az3000006 t316.length cz3000006, .string a2] rfl (by (try simp only [List.map_toArray, List.map_cons, List.map_nil]); first | done | rfl | (simp; done)) ?_; (with_reducible refine (pack_Text.calls k _ _ _ _ _ _ (lent_c (SL.get2 HS.out)).2.2 (lent_c (SL.get2 HS.out)).2.1 Hc9.out).mono ?_); rintro e_ w66 ⟨v3000009_, rfl, ho3000009_, hb_⟩; refine ⟨_, rfl, ?_⟩; have hs_ := (SL.new (HF.out.keep HK.out) HS.out hb_ (row_of_R ho3000009_)).1; obtain ⟨Az3000009, cz3000009, e2_, _, _⟩ := SL.row_reads hs_; subst e2_; replace HS := Aside0.mk (hs_); replace HK := Aside0.mk (HK.out.trans (Keep.below hb_))) | ((with_reducible refine gate_dst (N := 44) rfl ?_); refine goesL_ (some 44) rfl rfl Try.func12 (by kernel_rfl) rfl #[.slice Az3000006 t316.length cz3000006, .slice A3 l3.length c3] rfl (by (try simp only [List.map_toArray, List.map_cons, List.map_nil]); first | done | rfl | (simp; done)) ?_; (with_reducible refine (pack_Ints.calls k _ _ _ _ _ _ _ _ (lent_c (SL.get3 HS.out)).2.2 (lent_c (SL.get3 HS.out)).2.1 (RO.at_ HR3.out HK.out) HC3.out Hc10.out).mono ?_); rintro e_ w67 ⟨v3000010_, rfl, ho3000010_, hb_⟩; refine ⟨_, rfl, ?_⟩; have hs_ := (SL.new (HF.out.keep HK.out) HS.out hb_ (row_of_R ho3000010_)).1; obtain ⟨Az3000010, cz3000010, e2_, _, _⟩ := SL.row_reads hs_; subst e2_; replace HS := Aside0.mk (hs_); replace HK := Aside0.mk (HK.out.trans (Keep.below hb_))) | ((with_reducible refine gate_dst (N := 47) rfl ?_); refine goesL_ (some 47) rfl rfl Try.func13 (by kernel_rfl) rfl #[.slice Az3000006 t316.length cz3000006, .slice A0 l0.length c0] rfl (by (try simp only [List.map_toArray, List.map_cons, List.map_nil]); first | done | rfl | (simp; done)) ?_; have hs0_ := (SL.get4 HS.out); (with_reducible refine (barrowlaw03_Kept.slcalls _ _ _ _ _ _ _ _ _ _ _ (HF.out.keep HK.out) hs0_ (HR0.out.keep HK.out) HC0.out Hc11.out).mono ?_); rintro e_ w68 ⟨rfl, hsr_, hkr_⟩; refine ⟨_, rfl, ?_⟩; replace HS := Aside0.mk (hsr_); replace HK := Aside0.mk (HK.out.trans hkr_)))
            refine start_ (n := 35) (S := fun w' => (Kd.int .u8).C w' Az3000007 t317.length t317 ∧ (Kd.int .u8).C w' Az3000008 t318.length t318 ∧ (Kd.int .u8).C w' Az3000009 t319.length t319) (ds := []) #[false, false, false, false, false, false, false, false, false, false, false, false, false, false, false, false, false, false, false, false, false, false, false, false, false, false, false, false, false, false, false, false, false, false, false] (by kernel_rfl) rfl rfl ⟨(SL.row_c (SL.get4 HS.out)).2.2, (SL.row_c (SL.get3 HS.out)).2.2, (SL.row_c (SL.get2 HS.out)).2.2⟩ (fun hHeld => ?_); refine with_tabW barrowlaw03_PackWrites.tab10 barrowlaw03_PackWrites.bits10 (fun HT_ HW_ => ?_)
            replace HK := Aside0.mk (Keep.drew HK.out)
            replace HS := Aside0.mk (SL.drew HS.out)
            refine pure_ (i := 0) (N := some 48) (v := ?_) (a' := ?_) #[true, false, false, false, false, false, false, false, false, false, false, false, false, false, false, false, false, false, false, false, false, false, false, false, false, false, false, false, false, false, false, false, false, false, false] rfl rfl (any_of HT_.out (by kernel_rfl)) (fun _ _ _ h => h) (Or.inl ⟨by rfl, ?_⟩) ?_ ?_; rotate_left; · (intro w'; go_simp; with_reducible rfl)
            rotate_left; · (simp only [Act.put, sT, sZ, sS, i64_w, i32_w]; rfl)
            refine pure_ (i := 2) (N := some 50) (v := ?_) (a' := ?_) #[true, false, true, false, false, false, false, false, false, false, false, false, false, false, false, false, false, false, false, false, false, false, false, false, false, false, false, false, false, false, false, false, false, false, false] rfl rfl (any_of HT_.out (by kernel_rfl)) (fun _ _ _ h => h) (Or.inl ⟨by rfl, ?_⟩) ?_ ?_; rotate_left; · (intro w'; go_simp; with_reducible rfl)
            rotate_left; · (simp only [Act.put, sT, sZ, sS, i64_w, i32_w]; rfl)
            refine pure_ (i := 3) (N := some 51) (v := ?_) (a' := ?_) #[true, false, true, true, false, false, false, false, false, false, false, false, false, false, false, false, false, false, false, false, false, false, false, false, false, false, false, false, false, false, false, false, false, false, false] rfl rfl (any_of HT_.out (by kernel_rfl)) (fun _ _ _ h => h) (Or.inl ⟨by rfl, ?_⟩) ?_ ?_; rotate_left; · (intro w'; go_simp; with_reducible rfl)
            rotate_left; · (simp only [Act.put, sT, sZ, sS, i64_w, i32_w]; rfl)
            refine take_ (i := 1) (N := some 49) (v := ?_) (a' := ?_) #[true, true, true, true, false, false, false, false, false, false, false, false, false, false, false, false, false, false, false, false, false, false, false, false, false, false, false, false, false, false, false, false, false, false, false] rfl rfl (take_ofW HT_.out HW_.out (by kernel_rfl)) (fun _ _ _ h => h) (Or.inl ⟨by rfl, ?_⟩) hHeld ?_ ?_; rotate_left
            · rintro w' ⟨s0, s1, s2⟩
              have hcv_ := Kd.C_string (P := Try.prog) (A := Az3000007) (c := cz3000007) Try.underlying23 Try.underlying5 Try.underlying9 s0
              go_simp
              with_reducible rfl
            rotate_left; · (simp only [Act.put, sT, sZ, sS, i64_w, i32_w]; rfl)
            refine one_ (i := 4) (N := some 52) #[true, true, true, true, true, false, false, false, false, false, false, false, false, false, false, false, false, false, false, false, false, false, false, false, false, false, false, false, false, false, false, false, false, false, false] rfl rfl (one_of HT_.out (by kernel_rfl)) (by decide) (fun K hK => ?_)
            refine goes_ Try.func14 (by kernel_rfl) rfl #[.slice A0 l0.length c0, .int .i64 a1] (by rfl) rfl rfl (by (try simp only [List.map_toArray, List.map_cons, List.map_nil]); first | done | rfl | (simp; done)) ?_
            (with_reducible refine (barrowref03_Uint.calls k _ _ _ _ _ _ (RO.at_ HR0.out HK.out) HC0.out Hc12.out).mono ?_)
            rintro e_ w71 ⟨v3000011_, rfl, ho3000011_, hb_⟩
            refine ⟨_, rfl, ?_⟩
            have hs_ := (SL.new (HF.out.keep HK.out) HS.out hb_ (row_of_R ho3000011_)).1
            obtain ⟨Az3000011, cz3000011, e2_, _, _⟩ := SL.row_reads hs_
            subst e2_
            replace HS := Aside0.mk (hs_)
            replace HK := Aside0.mk (HK.out.trans (Keep.below hb_))
            refine hK.out _ _ ⟨(SL.row_c (SL.get5 HS.out)).2.2, (SL.row_c (SL.get4 HS.out)).2.2, (SL.row_c (SL.get3 HS.out)).2.2⟩ (fun hHeld => ?_)
            clear hK K
            refine norm_ (a' := ?_) ?_ ?_; rotate_left
            · show Act.put _ (some 52) _ = _
              simp only [Act.put, sT, sZ, sS, i64_w, i32_w]
              rfl
            refine one_ (i := 5) (N := some 53) #[true, true, true, true, true, true, false, false, false, false, false, false, false, false, false, false, false, false, false, false, false, false, false, false, false, false, false, false, false, false, false, false, false, false, false] rfl rfl (one_of HT_.out (by kernel_rfl)) (by decide) (fun K hK => ?_)
            refine st_of (by rfl) ?_
            refine op_same (v := .string (strOfNums t323)) (by have hcv_ := Kd.C_string (P := Try.prog) (A := Az3000011) (c := cz3000011) Try.underlying23 Try.underlying5 Try.underlying9 (SL.row_c HS.out).2.2; go_simp) ?_
            refine hK.out _ _ ⟨(SL.row_c (SL.get5 HS.out)).2.2, (SL.row_c (SL.get4 HS.out)).2.2, (SL.row_c (SL.get3 HS.out)).2.2⟩ (fun hHeld => ?_)
            clear hK K
            refine norm_ (a' := ?_) ?_ ?_; rotate_left
            · show Act.put _ (some 53) _ = _
              simp only [Act.put, sT, sZ, sS, i64_w, i32_w]
              rfl
            refine pure_ (i := 6) (N := some 54) (v := ?_) (a' := ?_) #[true, true, true, true, true, true, true, false, false, false, false, false, false, false, false, false, false, false, false, false, false, false, false, false, false, false, false, false, false, false, false, false, false, false, false] rfl rfl (any_of HT_.out (by kernel_rfl)) (fun _ _ _ h => h) (Or.inl ⟨by rfl, ?_⟩) ?_ ?_; rotate_left; · (intro w'; go_simp; with_reducible rfl)
            rotate_left; · (simp only [Act.put, sT, sZ, sS, i64_w, i32_w]; rfl)
            refine pure_ (i := 7) (N := some 55) (v := ?_) (a' := ?_) #[true, true, true, true, true, true, true, true, false, false, false, false, false, false, false, false, false, false, false, false, false, false, false, false, false, false, false, false, false, false, false, false, false, false, false] rfl rfl (any_of HT_.out (by kernel_rfl)) (fun _ _ _ h => h) (Or.inl ⟨by rfl, ?_⟩) ?_ ?_; rotate_left; · (intro w'; go_simp; with_reducible rfl)
            rotate_left; · (simp only [Act.put, sT, sZ, sS, i64_w, i32_w]; rfl)
            refine pure_ (i := 8) (N := some 56) (v := ?_) (a' := ?_) #[true, true, true, true, true, true, true, true, true, false, false, false, false, false, false, false, false, false, false, false, false, false, false, false, false, false, false, false, false, false, false, false, false, false, false] rfl rfl (any_of HT_.out (by kernel_rfl)) (fun _ _ _ h => h) (Or.inl ⟨by rfl, ?_⟩) ?_ ?_; rotate_left; · (intro w'; go_simp; with_reducible rfl)
            rotate_left; · (simp only [Act.put, sT, sZ, sS, i64_w, i32_w]; rfl)
            refine pure_ (i := 10) (N := some 58) (v := ?_) (a' := ?_) #[true, true, true, true, true, true, true, true, true, false, true, false, false, false, false, false, false, false, false, false, false, false, false, false, false, false, false, false, false, false, false, false, false, false, false] rfl rfl (any_of HT_.out (by kernel_rfl)) (fun _ _ _ h => h) (Or.inl ⟨by rfl, ?_⟩) ?_ ?_; rotate_left; · (intro w'; go_simp; with_reducible rfl)
            rotate_left; · (simp only [Act.put, sT, sZ, sS, i64_w, i32_w]; rfl)
            refine pure_ (i := 11) (N := some 59) (v := ?_) (a' := ?_) #[true, true, true, true, true, true, true, true, true, false, true, true, false, false, false, false, false, false, false, false, false, false, false, false, false, false, false, false, false, false, false, false, false, false, false] rfl rfl (any_of HT_.out (by kernel_rfl)) (fun _ _ _ h => h) (Or.inl ⟨by rfl, ?_⟩) ?_ ?_; rotate_left; · (intro w'; go_simp; with_reducible rfl)
            rotate_left; · (simp only [Act.put, sT, sZ, sS, i64_w, i32_w]; rfl)
            refine take_ (i := 9) (N := some 57) (v := ?_) (a' := ?_) #[true, true, true, true, true, true, true, true, true, true, true, true, false, false, false, false, false, false, false, false, false, false, false, false, false, false, false, false, false, false, false, false, false, false, false] rfl rfl (take_ofW HT_.out HW_.out (by kernel_rfl)) (fun _ _ _ h => h) (Or.inl ⟨by rfl, ?_⟩) hHeld ?_ ?_; rotate_left
            · rintro w' ⟨s0, s1, s2⟩
              have hcv_ := Kd.C_string (P := Try.prog) (A := Az3000008) (c := cz3000008) Try.underlying23 Try.underlying5 Try.underlying9 s1
              go_simp
              with_reducible rfl
            rotate_left; · (simp only [Act.put, sT, sZ, sS, i64_w, i32_w]; rfl)
            refine one_ (i := 12) (N := some 60) #[true, true, true, true, true, true, true, true, true, true, true, true, true, false, false, false, false, false, false, false, false, false, false, false, false, false, false, false, false, false, false, false, false, false, false] rfl rfl (one_of HT_.out (by kernel_rfl)) (by decide) (fun K hK => ?_)
            refine goes_ Try.func15 (by kernel_rfl) rfl #[.slice A0 l0.length c0, .int .i64 a1] (by rfl) rfl rfl (by (try simp only [List.map_toArray, List.map_cons, List.map_nil]); first | done | rfl | (simp; done)) ?_
            (with_reducible refine (barrowref03_Int.calls k _ _ _ _ _ _ (RO.at_ HR0.out HK.out) HC0.out Hc14.out).mono ?_)
            rintro e_ w76 ⟨v3000012_, rfl, ho3000012_, hb_⟩
            refine ⟨_, rfl, ?_⟩
            have hs_ := (SL.new (HF.out.keep HK.out) HS.out hb_ (row_of_R ho3000012_)).1
            obtain ⟨Az3000012, cz3000012, e2_, _, _⟩ := SL.row_reads hs_
            subst e2_
            replace HS := Aside0.mk (hs_)
            replace HK := Aside0.mk (HK.out.trans (Keep.below hb_))
            refine hK.out _ _ ⟨(SL.row_c (SL.get6 HS.out)).2.2, (SL.row_c (SL.get5 HS.out)).2.2, (SL.row_c (SL.get4 HS.out)).2.2⟩ (fun hHeld => ?_)
            clear hK K
            refine norm_ (a' := ?_) ?_ ?_; rotate_left
            · show Act.put _ (some 60) _ = _
              simp only [Act.put, sT, sZ, sS, i64_w, i32_w]
              rfl
            refine one_ (i := 13) (N := some 61) #[true, true, true, true, true, true, true, true, true, true, true, true, true, true, false, false, false, false, false, false, false, false, false, false, false, false, false, false, false, false, false, false, false, false, false] rfl rfl (one_of HT_.out (by kernel_rfl)) (by decide) (fun K hK => ?_)
            refine st_of (by rfl) ?_
            refine op_same (v := .string (strOfNums t324)) (by have hcv_ := Kd.C_string (P := Try.prog) (A := Az3000012) (c := cz3000012) Try.underlying23 Try.underlying5 Try.underlying9 (SL.row_c HS.out).2.2; go_simp) ?_
            refine hK.out _ _ ⟨(SL.row_c (SL.get6 HS.out)).2.2, (SL.row_c (SL.get5 HS.out)).2.2, (SL.row_c (SL.get4 HS.out)).2.2⟩ (fun hHeld => ?_)
            clear hK K
            refine norm_ (a' := ?_) ?_ ?_; rotate_left
            · show Act.put _ (some 61) _ = _
              simp only [Act.put, sT, sZ, sS, i64_w, i32_w]
              rfl
            refine pure_ (i := 14) (N := some 62) (v := ?_) (a' := ?_) #[true, true, true, true, true, true, true, true, true, true, true, true, true, true, true, false, false, false, false, false, false, false, false, false, false, false, false, false, false, false, false, false, false, false, false] rfl rfl (any_of HT_.out (by kernel_rfl)) (fun _ _ _ h => h) (Or.inl ⟨by rfl, ?_⟩) ?_ ?_; rotate_left; · (intro w'; go_simp; with_reducible rfl)
            rotate_left; · (simp only [Act.put, sT, sZ, sS, i64_w, i32_w]; rfl)
            refine pure_ (i := 15) (N := some 63) (v := ?_) (a' := ?_) #[true, true, true, true, true, true, true, true, true, true, true, true, true, true, true, true, false, false, false, false, false, false, false, false, false, false, false, false, false, false, false, false, false, false, false] rfl rfl (any_of HT_.out (by kernel_rfl)) (fun _ _ _ h => h) (Or.inl ⟨by rfl, ?_⟩) ?_ ?_; rotate_left; · (intro w'; go_simp; with_reducible rfl)
            rotate_left; · (simp only [Act.put, sT, sZ, sS, i64_w, i32_w]; rfl)
            refine pure_ (i := 16) (N := some 64) (v := ?_) (a' := ?_) #[true, true, true, true, true, true, true, true, true, true, true, true, true, true, true, true, true, false, false, false, false, false, false, false, false, false, false, false, false, false, false, false, false, false, false] rfl rfl (any_of HT_.out (by kernel_rfl)) (fun _ _ _ h => h) (Or.inl ⟨by rfl, ?_⟩) ?_ ?_; rotate_left; · (intro w'; go_simp; with_reducible rfl)
            rotate_left; · (simp only [Act.put, sT, sZ, sS, i64_w, i32_w]; rfl)
            refine pure_ (i := 17) (N := some 65) (v := ?_) (a' := ?_) #[true, true, true, true, true, true, true, true, true, true, true, true, true, true, true, true, true, true, false, false, false, false, false, false, false, false, false, false, false, false, false, false, false, false, false] rfl rfl (any_of HT_.out (by kernel_rfl)) (fun _ _ _ h => h) (Or.inl ⟨by rfl, ?_⟩) ?_ ?_; rotate_left; · (intro w'; go_simp; with_reducible rfl)
            rotate_left; · (simp only [Act.put, sT, sZ, sS, i64_w, i32_w]; rfl)
            refine pure_ (i := 19) (N := some 67) (v := ?_) (a' := ?_) #[true, true, true, true, true, true, true, true, true, true, true, true, true, true, true, true, true, true, false, true, false, false, false, false, false, false, false, false, false, false, false, false, false, false, false] rfl rfl (any_of HT_.out (by kernel_rfl)) (fun _ _ _ h => h) (Or.inl ⟨by rfl, ?_⟩) ?_ ?_; rotate_left; · (intro w'; go_simp; with_reducible rfl)
            rotate_left; · (simp only [Act.put, sT, sZ, sS, i64_w, i32_w]; rfl)
            refine pure_ (i := 20) (N := some 68) (v := ?_) (a' := ?_) #[true, true, true, true, true, true, true, true, true, true, true, true, true, true, true, true, true, true, false, true, true, false, false, false, false, false, false, false, false, false, false, false, false, false, false] rfl rfl (any_of HT_.out (by kernel_rfl)) (fun _ _ _ h => h) (Or.inl ⟨by rfl, ?_⟩) ?_ ?_; rotate_left; · (intro w'; go_simp; with_reducible rfl)
            rotate_left; · (simp only [Act.put, sT, sZ, sS, i64_w, i32_w]; rfl)
            refine take_ (i := 18) (N := some 66) (v := ?_) (a' := ?_) #[true, true, true, true, true, true, true, true, true, true, true, true, true, true, true, true, true, true, true, true, true, false, false, false, false, false, false, false, false, false, false, false, false, false, false] rfl rfl (take_ofW HT_.out HW_.out (by kernel_rfl)) (fun _ _ _ h => h) (Or.inl ⟨by rfl, ?_⟩) hHeld ?_ ?_; rotate_left
            · rintro w' ⟨s0, s1, s2⟩
              have hcv_ := Kd.C_string (P := Try.prog) (A := Az3000009) (c := cz3000009) Try.underlying23 Try.underlying5 Try.underlying9 s2
              go_simp
              with_reducible rfl
            rotate_left; · (simp only [Act.put, sT, sZ, sS, i64_w, i32_w]; rfl)
            refine one_ (i := 21) (N := some 69) #[true, true, true, true, true, true, true, true, true, true, true, true, true, true, true, true, true, true, true, true, true, true, false, false, false, false, false, false, false, false, false, false, false, false, false] rfl rfl (one_of HT_.out (by kernel_rfl)) (by decide) (fun K hK => ?_)
            refine goes_ Try.func16 (by kernel_rfl) rfl #[.slice A0 l0.length c0, .string a2] (by rfl) rfl rfl (by (try simp only [List.map_toArray, List.map_cons, List.map_nil]); first | done | rfl | (simp; done)) ?_
            (with_reducible refine (barrowref03_Text.calls k _ _ _ _ _ _ (RO.at_ HR0.out HK.out) HC0.out Hc16.out).mono ?_)
            rintro e_ w81 ⟨v3000013_, rfl, ho3000013_, hb_⟩
            refine ⟨_, rfl, ?_⟩
            have hs_ := (SL.new (HF.out.keep HK.out) HS.out hb_ (row_of_R ho3000013_)).1
            obtain ⟨Az3000013, cz3000013, e2_, _, _⟩ := SL.row_reads hs_
            subst e2_
            replace HS := Aside0.mk (hs_)
            replace HK := Aside0.mk (HK.out.trans (Keep.below hb_))
            refine hK.out _ _ ⟨(SL.row_c (SL.get7 HS.out)).2.2, (SL.row_c (SL.get6 HS.out)).2.2, (SL.row_c (SL.get5 HS.out)).2.2⟩ (fun hHeld => ?_)
            clear hK K
            refine norm_ (a' := ?_) ?_ ?_; rotate_left
            · show Act.put _ (some 69) _ = _
              simp only [Act.put, sT, sZ, sS, i64_w, i32_w]
              rfl
            refine one_ (i := 22) (N := some 70) #[true, true, true, true, true, true, true, true, true, true, true, true, true, true, true, true, true, true, true, true, true, true, true, false, false, false, false, false, false, false, false, false, false, false, false] rfl rfl (one_of HT_.out (by kernel_rfl)) (by decide) (fun K hK => ?_)
            refine st_of (by rfl) ?_
            refine op_same (v := .string (strOfNums t325)) (by have hcv_ := Kd.C_string (P := Try.prog) (A := Az3000013) (c := cz3000013) Try.underlying23 Try.underlying5 Try.underlying9 (SL.row_c HS.out).2.2; go_simp) ?_
            refine hK.out _ _ ⟨(SL.row_c (SL.get7 HS.out)).2.2, (SL.row_c (SL.get6 HS.out)).2.2, (SL.row_c (SL.get5 HS.out)).2.2⟩ (fun hHeld => ?_)
            clear hK K
            refine norm_ (a' := ?_) ?_ ?_; rotate_left
            · show Act.put _ (some 70) _ = _
              simp only [Act.put, sT, sZ, sS, i64_w, i32_w]
              rfl
            refine pure_ (i := 23) (N := some 71) (v := ?_) (a' := ?_) #[true, true, true, true, true, true, true, true, true, true, true, true, true, true, true, true, true, true, true, true, true, true, true, true, false, false, false, false, false, false, false, false, false, false, false] rfl rfl (any_of HT_.out (by kernel_rfl)) (fun _ _ _ h => h) (Or.inl ⟨by rfl, ?_⟩) ?_ ?_; rotate_left; · (intro w'; go_simp; with_reducible rfl)
            rotate_left; · (simp only [Act.put, sT, sZ, sS, i64_w, i32_w]; rfl)
            refine pure_ (i := 24) (N := some 72) (v := ?_) (a' := ?_) #[true, true, true, true, true, true, true, true, true, true, true, true, true, true, true, true, true, true, true, true, true, true, true, true, true, false, false, false, false, false, false, false, false, false, false] rfl rfl (any_of HT_.out (by kernel_rfl)) (fun _ _ _ h => h) (Or.inl ⟨by rfl, ?_⟩) ?_ ?_; rotate_left; · (intro w'; go_simp; with_reducible rfl)
            rotate_left; · (simp only [Act.put, sT, sZ, sS, i64_w, i32_w]; rfl)
            refine pure_ (i := 25) (N := some 73) (v := ?_) (a' := ?_) #[true, true, true, true, true, true, true, true, true, true, true, true, true, true, true, true, true, true, true, true, true, true, true, true, true, true, false, false, false, false, false, false, false, false, false] rfl rfl (any_of HT_.out (by kernel_rfl)) (fun _ _ _ h => h) (Or.inl ⟨by rfl, ?_⟩) ?_ ?_; rotate_left; · (intro w'; go_simp; with_reducible rfl)
            rotate_left; · (simp only [Act.put, sT, sZ, sS, i64_w, i32_w]; rfl)
            refine pure_ (i := 26) (N := some 74) (v := undef) (a' := ?_) #[true, true, true, true, true, true, true, true, true, true, true, true, true, true, true, true, true, true, true, true, true, true, true, true, true, true, true, false, false, false, false, false, false, false, false] rfl rfl (any_of HT_.out (by kernel_rfl)) (fun _ _ _ h => h) (Or.inr ⟨by rfl, rfl⟩) ?_ ?_; rotate_left; · (simp only [Act.put, sT, sZ, sS, i64_w, i32_w]; rfl)
            refine pure_ (i := 27) (N := some 75) (v := undef) (a' := ?_) #[true, true, true, true, true, true, true, true, true, true, true, true, true, true, true, true, true, true, true, true, true, true, true, true, true, true, true, true, false, false, false, false, false, false, false] rfl rfl (any_of HT_.out (by kernel_rfl)) (fun _ _ _ h => h) (Or.inr ⟨by rfl, rfl⟩) ?_ ?_; rotate_left; · (simp only [Act.put, sT, sZ, sS, i64_w, i32_w]; rfl)
            refine pure_ (i := 28) (N := some 76) (v := undef) (a' := ?_) #[true, true, true, true, true, true, true, true, true, true, true, true, true, true, true, true, true, true, true, true, true, true, true, true, true, true, true, true, true, false, false, false, false, false, false] rfl rfl (any_of HT_.out (by kernel_rfl)) (fun _ _ _ h => h) (Or.inr ⟨by rfl, rfl⟩) ?_ ?_; rotate_left; · (simp only [Act.put, sT, sZ, sS, i64_w, i32_w]; rfl)
            refine pure_ (i := 29) (N := some 77) (v := undef) (a' := ?_) #[true, true, true, true, true, true, true, true, true, true, true, true, true, true, true, true, true, true, true, true, true, true, true, true, true, true, true, true, true, true, false, false, false, false, false] rfl rfl (any_of HT_.out (by kernel_rfl)) (fun _ _ _ h => h) (Or.inr ⟨by rfl, rfl⟩) ?_ ?_; rotate_left; · (simp only [Act.put, sT, sZ, sS, i64_w, i32_w]; rfl)
            refine pure_ (i := 30) (N := some 78) (v := undef) (a' := ?_) #[true, true, true, true, true, true, true, true, true, true, true, true, true, true, true, true, true, true, true, true, true, true, true, true, true, true, true, true, true, true, true, false, false, false, false] rfl rfl (any_of HT_.out (by kernel_rfl)) (fun _ _ _ h => h) (Or.inr ⟨by rfl, rfl⟩) ?_ ?_; rotate_left; · (simp only [Act.put, sT, sZ, sS, i64_w, i32_w]; rfl)
            refine pure_ (i := 31) (N := some 79) (v := undef) (a' := ?_) #[true, true, true, true, true, true, true, true, true, true, true, true, true, true, true, true, true, true, true, true, true, true, true, true, true, true, true, true, true, true, true, true, false, false, false] rfl rfl (any_of HT_.out (by kernel_rfl)) (fun _ _ _ h => h) (Or.inr ⟨by rfl, rfl⟩) ?_ ?_; rotate_left; · (simp only [Act.put, sT, sZ, sS, i64_w, i32_w]; rfl)
            refine pure_ (i := 32) (N := some 80) (v := undef) (a' := ?_) #[true, true, true, true, true, true, true, true, true, true, true, true, true, true, true, true, true, true, true, true, true, true, true, true, true, true, true, true, true, true, true, true, true, false, false] rfl rfl (any_of HT_.out (by kernel_rfl)) (fun _ _ _ h => h) (Or.inr ⟨by rfl, rfl⟩) ?_ ?_; rotate_left; · (simp only [Act.put, sT, sZ, sS, i64_w, i32_w]; rfl)
            refine pure_ (i := 33) (N := some 81) (v := ?_) (a' := ?_) #[true, true, true, true, true, true, true, true, true, true, true, true, true, true, true, true, true, true, true, true, true, true, true, true, true, true, true, true, true, true, true, true, true, true, false] rfl rfl (any_of HT_.out (by kernel_rfl)) (fun _ _ _ h => h) (Or.inl ⟨by rfl, ?_⟩) ?_ ?_; rotate_left; · (intro w'; go_simp; with_reducible rfl)
            rotate_left; · (simp only [Act.put, sT, sZ, sS, i64_w, i32_w]; rfl)
            refine pure_ (i := 34) (N := some 16) (v := ?_) (a' := ?_) #[true, true, true, true, true, true, true, true, true, true, true, true, true, true, true, true, true, true, true, true, true, true, true, true, true, true, true, true, true, true, true, true, true, true, true] rfl rfl (any_of HT_.out (by kernel_rfl)) (fun _ _ _ h => h) (Or.inl ⟨by rfl, ?_⟩) ?_ ?_; rotate_left; · (intro w'; go_simp; with_reducible rfl)
            rotate_left; · (simp only [Act.put, sT, sZ, sS, i64_w, i32_w]; rfl)
            refine done_ (done_of HT_.out (by kernel_rfl)) ?_
            try go_wp2
            replace HS := Aside0.mk (SL.tail (SL.tail HS.out))
            go_loopg [17] k (fun kq v17 w' => ∃ (y3000008_100 : List Int) (y3000007_100 : List Int) (x17_100 : Int), v17 = .int .i64 x17_100 ∧ Aside0 (barrowlaw03_PackWrites.l100 kq y3000008_100 y3000007_100 x17_100 t315 t316 t317 t318 = some r) ∧ Aside0 (kq ≤ k) ∧ Aside0 (SL (row (Kd.int .u8) 5 (.slice Az3000011 t323.length cz3000011) t323 :: lentR 5 (.slice Az3000006 t316.length cz3000006) t322 :: row (Kd.int .u8) 5 (.slice Az3000010 t320.length cz3000010) t320 :: row (Kd.int .u8) 5 (.slice Az3000009 t319.length cz3000009) t319 :: row (Kd.int .u8) 5 (.slice Az3000008 t318.length cz3000008) y3000008_100 :: row (Kd.int .u8) 5 (.slice Az3000007 t317.length cz3000007) y3000007_100 :: L) w' S) ∧ Aside0 (Keep S w w'))
            case atStart => exact ⟨(t318), (t317), (0), (by first | rfl | (simp; done) | (simp [*]; done)), H', ⟨Nat.le_refl _⟩, HS, HK⟩
            case round =>
              clear H' HS HK
              obtain ⟨y3000008_100, y3000007_100, x17_100, rfl, HA, HQ1, HS, HK⟩ := hrel
              cases gk with
              | zero => exact absurd HA.out (by simp [barrowlaw03_PackWrites.l100])
              | succ k1 =>
                have H := HA.out
                clear HA
                simp only [barrowlaw03_PackWrites.l100] at H
                by_cases c84 : x17_100 < (t317.length : Int)
                · rw [if_pos c84] at H
                  have c84b0 : decide (x17_100 < (t317.length : Int)) = true := decide_eq_true c84
                  clear c84
                  by_cases c85 : x17_100 < (t316.length : Int)
                  · rw [if_pos c85] at H
                    have c85b0 : decide (x17_100 < (t316.length : Int)) = true := decide_eq_true c85
                    clear c85
                    by_cases c86 : 0 ≤ x17_100
                    · rw [if_pos c86] at H
                      have c86b0 : decide (0 ≤ x17_100) = true := decide_eq_true c86
                      clear c86
                      replace H := Option.bind_eq_some_iff.1 H
                      obtain ⟨y336, hy3360, H⟩ := H
                      try dsimp only at H
                      have hy336 := Option.some.inj hy3360
                      clear hy3360
                      have Ny336 := Aside0.mk hy336
                      clear hy336
                      by_cases c87 : x17_100 < (t318.length : Int)
                      · rw [if_pos c87] at H
                        have c87b0 : decide (x17_100 < (t318.length : Int)) = true := decide_eq_true c87
                        clear c87
                        replace H := Option.bind_eq_some_iff.1 H
                        obtain ⟨y338, hy3380, H⟩ := H
                        try dsimp only at H
                        have hy338 := Option.some.inj hy3380
                        clear hy3380
                        have Ny338 := Aside0.mk hy338
                        clear hy338
                        have H' := Aside0.mk H
                        clear H
                        have pq335 : 0 ≤ (x17_100 : Int) := of_decide_eq_true (by first | (with_reducible assumption) | assumption)
                        have qq335 : x17_100 < ((t317.length : Int) : Int) := of_decide_eq_true (by first | (with_reducible assumption) | assumption)
                        obtain ⟨adq335, eq335, hxq335_0⟩ := Kd.at_int (SL.row_c (SL.get5 HS.out)).2.2 x17_100 pq335 qq335
                        cases eq335
                        replace pq335 := eq_true pq335
                        replace qq335 := eq_true qq335
                        go_wp2_with (first | ((with_reducible refine gate_store (t := 5) (p := 96) (v := (.const (.int .u8 99))) rfl ?_); refine wpList_plain rfl (fun K_ hK_ => ?_); refine op_set (S := S) (enc := Value.int .u8) (h1 := fun _ => rfl) 5 (.tmp 96) (.const (.int .u8 99)) rfl adq335 (x17_100) 99 (SL.get5 HS.out) (by rfl) rfl (by kernel_rfl) (of_decide_eq_true (by first | (with_reducible assumption) | assumption)) (of_decide_eq_true (by first | (with_reducible assumption) | assumption)) y336 Ny336.out ?_; intro w88 hs_ hk_; refine hK_ _ _ ?_; clear hK_ K_; replace HS := Aside0.mk ((SL.back5 (show SL (row (Kd.int .u8) 5 (.slice (some adq335) t317.length cz3000007) y336 :: _) _ _ from hs_))); replace HK := Aside0.mk (HK.out.trans hk_); have pq337 : 0 ≤ (x17_100 : Int) := of_decide_eq_true (by first | (with_reducible assumption) | assumption); have qq337 : x17_100 < ((t318.length : Int) : Int) := of_decide_eq_true (by first | (with_reducible assumption) | assumption); obtain ⟨adq337, eq337, hxq337_0⟩ := Kd.at_int (SL.row_c (SL.get4 HS.out)).2.2 x17_100 pq337 qq337; cases eq337; replace pq337 := eq_true pq337; replace qq337 := eq_true qq337) | ((with_reducible refine gate_store (t := 5) (p := 99) (v := (.const (.int .u8 99))) rfl ?_); refine wpList_plain rfl (fun K_ hK_ => ?_); refine op_set (S := S) (enc := Value.int .u8) (h1 := fun _ => rfl) 5 (.tmp 99) (.const (.int .u8 99)) rfl adq337 (x17_100) 99 (SL.get4 HS.out) (by rfl) rfl (by kernel_rfl) (of_decide_eq_true (by first | (with_reducible assumption) | assumption)) (of_decide_eq_true (by first | (with_reducible assumption) | assumption)) y338 Ny338.out ?_; intro w89 hs_ hk_; refine hK_ _ _ ?_; clear hK_ K_; replace HS := Aside0.mk ((SL.back4 (show SL (row (Kd.int .u8) 5 (.slice (some adq337) t318.length cz3000008) y338 :: _) _ _ from hs_))); replace HK := Aside0.mk (HK.out.trans hk_)))
                        go_roundg k1
                        case measure => have := HQ1.out; omega
                        case rel => exact ⟨(y338), (y336), (wrap64 (x17_100 + 1)), (by first | rfl | (simp; done) | (simp [*]; done)), H', ⟨by have := HQ1.out; omega⟩, HS, HK⟩
                      · rw [if_neg c87] at H
                        exact absurd H (by simp)
                    · rw [if_neg c86] at H
                      exact absurd H (by simp)
                  · rw [if_neg c85] at H
                    have c85b0 : decide (x17_100 < (t316.length : Int)) = false := decide_eq_false c85
                    clear c85
                    by_cases c90 : t315 = true
                    · subst c90
                      rw [if_pos rfl] at H
                      exact absurd H (by simp)
                    · replace c90 := Bool.eq_false_iff.mpr c90
                      subst c90
                      rw [if_neg (show ¬ (false = true) by decide)] at H
                      exact absurd H (by simp)
                · rw [if_neg c84] at H
                  have c84b0 : decide (x17_100 < (t317.length : Int)) = false := decide_eq_false c84
                  clear c84
                  by_cases c91 : t315 = true
                  · subst c91
                    rw [if_pos rfl] at H
                    exact absurd H (by simp)
                  · replace c91 := Bool.eq_false_iff.mpr c91
                    subst c91
                    rw [if_neg (show ¬ (false = true) by decide)] at H
                    exact absurd H (by simp)
        · rw [if_neg c15] at H
          have c15b0 : ((strOfNums t318).toList == (strOfNums t324).toList) = false := beq_eq_false_iff_ne.mpr c15
          have c15b1 : ((strOfNums t318).toList != (strOfNums t324).toList) = true := bne_iff_ne.mpr c15
          have H' := Aside0.mk H
          clear H
          go_enter Try.func4, Try.ntmps4
          try go_wp2_with (first | ((with_reducible refine gate_dst (N := 18) rfl ?_); refine goesL_ (some 18) rfl rfl Try.func7 (by kernel_rfl) rfl #[] rfl (by (try simp only [List.map_toArray, List.map_cons, List.map_nil]); first | done | rfl | (simp; done)) ?_; (with_reducible refine (barrowlaw03_small.calls k _ _  Hc1.out).mono ?_); rintro e_ w92 ⟨rfl, hb_⟩; refine ⟨_, rfl, ?_⟩; replace HS := Aside0.mk (HS.out.below hb_); replace HK := Aside0.mk (HK.out.trans (Keep.below hb_))) | ((with_reducible refine gate_dst (N := 32) rfl ?_); refine goesL_ (some 32) rfl rfl Try.func9 (by kernel_rfl) rfl #[.slice A0 l0.length c0] rfl (by (try simp only [List.map_toArray, List.map_cons, List.map_nil]); first | done | rfl | (simp; done)) ?_; have hs0_ := HS.out; (with_reducible refine (barrowlaw03_Lent.slcalls _ _ _ _ _ _ _ (HF.out.keep HK.out) hs0_ (HR0.out.keep HK.out) HC0.out Hc6.out).mono ?_); rintro e_ w93 ⟨Az3000006, cz3000006, rfl, hsr_, hkr_⟩; refine ⟨_, rfl, ?_⟩; replace HS := Aside0.mk (hsr_); replace HK := Aside0.mk (HK.out.trans hkr_)) | ((with_reducible refine gate_dst (N := 35) rfl ?_); refine goesL_ (some 35) rfl rfl Try.func8 (by kernel_rfl) rfl #[.slice Az3000006 t316.length cz3000006, .int .i64 a1] rfl (by (try simp only [List.map_toArray, List.map_cons, List.map_nil]); first | done | rfl | (simp; done)) ?_; (with_reducible refine (pack_Uint.calls k _ _ _ _ _ _ (lent_c HS.out).2.2 (lent_c HS.out).2.1 Hc7.out).mono ?_); rintro e_ w94 ⟨v3000007_, rfl, ho3000007_, hb_⟩; refine ⟨_, rfl, ?_⟩; have hs_ := (SL.new (HF.out.keep HK.out) HS.out hb_ (row_of_R ho3000007_)).1; obtain ⟨Az3000007, cz3000007, e2_, _, _⟩ := SL.row_reads hs_; subst e2_; replace HS := Aside0.mk (hs_); replace HK := Aside0.mk (HK.out.trans (Keep.below hb_))) | ((with_reducible refine gate_dst (N := 38) rfl ?_); refine goesL_ (some 38) rfl rfl Try.func10 (by kernel_rfl) rfl #[.slice Az3000006 t316.length cz3000006, .int .i64 a1] rfl (by (try simp only [List.map_toArray, List.map_cons, List.map_nil]); first | done | rfl | (simp; done)) ?_; (with_reducible refine (pack_Int.calls k _ _ _ _ _ _ (lent_c (SL.get1 HS.out)).2.2 (lent_c (SL.get1 HS.out)).2.1 Hc8.out).mono ?_); rintro e_ w95 ⟨v3000008_, rfl, ho3000008_, hb_⟩; refine ⟨_, rfl, ?_⟩; have hs_ := (SL.new (HF.out.keep HK.out) HS.out hb_ (row_of_R ho3000008_)).1; obtain ⟨Az3000008, cz3000008, e2_, _, _⟩ := SL.row_reads hs_; subst e2_; replace HS := Aside0.mk (hs_); replace HK := Aside0.mk (HK.out.trans (Keep.below hb_))) | ((with_reducible refine gate_dst (N := 41) rfl ?_); refine goesL_ (some 41) rfl rfl Try.func11 (by kernel_rfl) rfl #[.slice Az3000006 t316.length cz3000006, .string a2] rfl (by (try simp only [List.map_toArray, List.map_cons, List.map_nil]); first | done | rfl | (simp; done)) ?_; (with_reducible refine (pack_Text.calls k _ _ _ _ _ _ (lent_c (SL.get2 HS.out)).2.2 (lent_c (SL.get2 HS.out)).2.1 Hc9.out).mono ?_); rintro e_ w96 ⟨v3000009_, rfl, ho3000009_, hb_⟩; refine ⟨_, rfl, ?_⟩; have hs_ := (SL.new (HF.out.keep HK.out) HS.out hb_ (row_of_R ho3000009_)).1; obtain ⟨Az3000009, cz3000009, e2_, _, _⟩ := SL.row_reads hs_; subst e2_; replace HS := Aside0.mk (hs_); replace HK := Aside0.mk (HK.out.trans (Keep.below hb_))) | ((with_reducible refine gate_dst (N := 44) rfl ?_); refine goesL_ (some 44) rfl rfl Try.func12 (by kernel_rfl) rfl #[.slice Az3000006 t316.length cz3000006, .slice A3 l3.length c3] rfl (by (try simp only [List.map_toArray, List.map_cons, List.map_nil]); first | done | rfl | (simp; done)) ?_; (with_reducible refine (pack_Ints.calls k _ _ _ _ _ _ _ _ (lent_c (SL.get3 HS.out)).2.2 (lent_c (SL.get3 HS.out)).2.1 (RO.at_ HR3.out HK.out) HC3.out Hc10.out).mono ?_); rintro e_ w97 ⟨v3000010_, rfl, ho3000010_, hb_⟩; refine ⟨_, rfl, ?_⟩; have hs_ := (SL.new (HF.out.keep HK.out) HS.out hb_ (row_of_R ho3000010_)).1; obtain ⟨Az3000010, cz3000010, e2_, _, _⟩ := SL.row_reads hs_; subst e2_; replace HS := Aside0.mk (hs_); replace HK := Aside0.mk (HK.out.trans (Keep.below hb_))) | ((with_reducible refine gate_dst (N := 47) rfl ?_); refine goesL_ (some 47) rfl rfl Try.func13 (by kernel_rfl) rfl #[.slice Az3000006 t316.length cz3000006, .slice A0 l0.length c0] rfl (by (try simp only [List.map_toArray, List.map_cons, List.map_nil]); first | done | rfl | (simp; done)) ?_; have hs0_ := (SL.get4 HS.out); (with_reducible refine (barrowlaw03_Kept.slcalls _ _ _ _ _ _ _ _ _ _ _ (HF.out.keep HK.out) hs0_ (HR0.out.keep HK.out) HC0.out Hc11.out).mono ?_); rintro e_ w98 ⟨rfl, hsr_, hkr_⟩; refine ⟨_, rfl, ?_⟩; replace HS := Aside0.mk (hsr_); replace HK := Aside0.mk (HK.out.trans hkr_)))
          refine start_ (n := 35) (S := fun w' => (Kd.int .u8).C w' Az3000007 t317.length t317 ∧ (Kd.int .u8).C w' Az3000008 t318.length t318) (ds := []) #[false, false, false, false, false, false, false, false, false, false, false, false, false, false, false, false, false, false, false, false, false, false, false, false, false, false, false, false, false, false, false, false, false, false, false] (by kernel_rfl) rfl rfl ⟨(SL.row_c (SL.get4 HS.out)).2.2, (SL.row_c (SL.get3 HS.out)).2.2⟩ (fun hHeld => ?_); refine with_tabW barrowlaw03_PackWrites.tab10 barrowlaw03_PackWrites.bits10 (fun HT_ HW_ => ?_)
          replace HK := Aside0.mk (Keep.drew HK.out)
          replace HS := Aside0.mk (SL.drew HS.out)
          refine pure_ (i := 0) (N := some 48) (v := ?_) (a' := ?_) #[true, false, false, false, false, false, false, false, false, false, false, false, false, false, false, false, false, false, false, false, false, false, false, false, false, false, false, false, false, false, false, false, false, false, false] rfl rfl (any_of HT_.out (by kernel_rfl)) (fun _ _ _ h => h) (Or.inl ⟨by rfl, ?_⟩) ?_ ?_; rotate_left; · (intro w'; go_simp; with_reducible rfl)
          rotate_left; · (simp only [Act.put, sT, sZ, sS, i64_w, i32_w]; rfl)
          refine pure_ (i := 2) (N := some 50) (v := ?_) (a' := ?_) #[true, false, true, false, false, false, false, false, false, false, false, false, false, false, false, false, false, false, false, false, false, false, false, false, false, false, false, false, false, false, false, false, false, false, false] rfl rfl (any_of HT_.out (by kernel_rfl)) (fun _ _ _ h => h) (Or.inl ⟨by rfl, ?_⟩) ?_ ?_; rotate_left; · (intro w'; go_simp; with_reducible rfl)
          rotate_left; · (simp only [Act.put, sT, sZ, sS, i64_w, i32_w]; rfl)
          refine pure_ (i := 3) (N := some 51) (v := ?_) (a' := ?_) #[true, false, true, true, false, false, false, false, false, false, false, false, false, false, false, false, false, false, false, false, false, false, false, false, false, false, false, false, false, false, false, false, false, false, false] rfl rfl (any_of HT_.out (by kernel_rfl)) (fun _ _ _ h => h) (Or.inl ⟨by rfl, ?_⟩) ?_ ?_; rotate_left; · (intro w'; go_simp; with_reducible rfl)
          rotate_left; · (simp only [Act.put, sT, sZ, sS, i64_w, i32_w]; rfl)
          refine take_ (i := 1) (N := some 49) (v := ?_) (a' := ?_) #[true, true, true, true, false, false, false, false, false, false, false, false, false, false, false, false, false, false, false, false, false, false, false, false, false, false, false, false, false, false, false, false, false, false, false] rfl rfl (take_ofW HT_.out HW_.out (by kernel_rfl)) (fun _ _ _ h => h) (Or.inl ⟨by rfl, ?_⟩) hHeld ?_ ?_; rotate_left
          · rintro w' ⟨s0, s1⟩
            have hcv_ := Kd.C_string (P := Try.prog) (A := Az3000007) (c := cz3000007) Try.underlying23 Try.underlying5 Try.underlying9 s0
            go_simp
            with_reducible rfl
          rotate_left; · (simp only [Act.put, sT, sZ, sS, i64_w, i32_w]; rfl)
          refine one_ (i := 4) (N := some 52) #[true, true, true, true, true, false, false, false, false, false, false, false, false, false, false, false, false, false, false, false, false, false, false, false, false, false, false, false, false, false, false, false, false, false, false] rfl rfl (one_of HT_.out (by kernel_rfl)) (by decide) (fun K hK => ?_)
          refine goes_ Try.func14 (by kernel_rfl) rfl #[.slice A0 l0.length c0, .int .i64 a1] (by rfl) rfl rfl (by (try simp only [List.map_toArray, List.map_cons, List.map_nil]); first | done | rfl | (simp; done)) ?_
          (with_reducible refine (barrowref03_Uint.calls k _ _ _ _ _ _ (RO.at_ HR0.out HK.out) HC0.out Hc12.out).mono ?_)
          rintro e_ w101 ⟨v3000011_, rfl, ho3000011_, hb_⟩
          refine ⟨_, rfl, ?_⟩
          have hs_ := (SL.new (HF.out.keep HK.out) HS.out hb_ (row_of_R ho3000011_)).1
          obtain ⟨Az3000011, cz3000011, e2_, _, _⟩ := SL.row_reads hs_
          subst e2_
          replace HS := Aside0.mk (hs_)
          replace HK := Aside0.mk (HK.out.trans (Keep.below hb_))
          refine hK.out _ _ ⟨(SL.row_c (SL.get5 HS.out)).2.2, (SL.row_c (SL.get4 HS.out)).2.2⟩ (fun hHeld => ?_)
          clear hK K
          refine norm_ (a' := ?_) ?_ ?_; rotate_left
          · show Act.put _ (some 52) _ = _
            simp only [Act.put, sT, sZ, sS, i64_w, i32_w]
            rfl
          refine one_ (i := 5) (N := some 53) #[true, true, true, true, true, true, false, false, false, false, false, false, false, false, false, false, false, false, false, false, false, false, false, false, false, false, false, false, false, false, false, false, false, false, false] rfl rfl (one_of HT_.out (by kernel_rfl)) (by decide) (fun K hK => ?_)
          refine st_of (by rfl) ?_
          refine op_same (v := .string (strOfNums t323)) (by have hcv_ := Kd.C_string (P := Try.prog) (A := Az3000011) (c := cz3000011) Try.underlying23 Try.underlying5 Try.underlying9 (SL.row_c HS.out).2.2; go_simp) ?_
          refine hK.out _ _ ⟨(SL.row_c (SL.get5 HS.out)).2.2, (SL.row_c (SL.get4 HS.out)).2.2⟩ (fun hHeld => ?_)
          clear hK K
          refine norm_ (a' := ?_) ?_ ?_; rotate_left
          · show Act.put _ (some 53) _ = _
            simp only [Act.put, sT, sZ, sS, i64_w, i32_w]
            rfl
          refine pure_ (i := 6) (N := some 54) (v := ?_) (a' := ?_) #[true, true, true, true, true, true, true, false, false, false, false, false, false, false, false, false, false, false, false, false, false, false, false, false, false, false, false, false, false, false, false, false, false, false, false] rfl rfl (any_of HT_.out (by kernel_rfl)) (fun _ _ _ h => h) (Or.inl ⟨by rfl, ?_⟩) ?_ ?_; rotate_left; · (intro w'; go_simp; with_reducible rfl)
          rotate_left; · (simp only [Act.put, sT, sZ, sS, i64_w, i32_w]; rfl)
          refine pure_ (i := 7) (N := some 55) (v := ?_) (a' := ?_) #[true, true, true, true, true, true, true, true, false, false, false, false, false, false, false, false, false, false, false, false, false, false, false, false, false, false, false, false, false, false, false, false, false, false, false] rfl rfl (any_of HT_.out (by kernel_rfl)) (fun _ _ _ h => h) (Or.inl ⟨by rfl, ?_⟩) ?_ ?_; rotate_left; · (intro w'; go_simp; with_reducible rfl)
          rotate_left; · (simp only [Act.put, sT, sZ, sS, i64_w, i32_w]; rfl)
          refine pure_ (i := 8) (N := some 56) (v := ?_) (a' := ?_) #[true, true, true, true, true, true, true, true, true, false, false, false, false, false, false, false, false, false, false, false, false, false, false, false, false, false, false, false, false, false, false, false, false, false, false] rfl rfl (any_of HT_.out (by kernel_rfl)) (fun _ _ _ h => h) (Or.inl ⟨by rfl, ?_⟩) ?_ ?_; rotate_left; · (intro w'; go_simp; with_reducible rfl)
          rotate_left; · (simp only [Act.put, sT, sZ, sS, i64_w, i32_w]; rfl)
          refine pure_ (i := 10) (N := some 58) (v := ?_) (a' := ?_) #[true, true, true, true, true, true, true, true, true, false, true, false, false, false, false, false, false, false, false, false, false, false, false, false, false, false, false, false, false, false, false, false, false, false, false] rfl rfl (any_of HT_.out (by kernel_rfl)) (fun _ _ _ h => h) (Or.inl ⟨by rfl, ?_⟩) ?_ ?_; rotate_left; · (intro w'; go_simp; with_reducible rfl)
          rotate_left; · (simp only [Act.put, sT, sZ, sS, i64_w, i32_w]; rfl)
          refine pure_ (i := 11) (N := some 59) (v := ?_) (a' := ?_) #[true, true, true, true, true, true, true, true, true, false, true, true, false, false, false, false, false, false, false, false, false, false, false, false, false, false, false, false, false, false, false, false, false, false, false] rfl rfl (any_of HT_.out (by kernel_rfl)) (fun _ _ _ h => h) (Or.inl ⟨by rfl, ?_⟩) ?_ ?_; rotate_left; · (intro w'; go_simp; with_reducible rfl)
          rotate_left; · (simp only [Act.put, sT, sZ, sS, i64_w, i32_w]; rfl)
          refine take_ (i := 9) (N := some 57) (v := ?_) (a' := ?_) #[true, true, true, true, true, true, true, true, true, true, true, true, false, false, false, false, false, false, false, false, false, false, false, false, false, false, false, false, false, false, false, false, false, false, false] rfl rfl (take_ofW HT_.out HW_.out (by kernel_rfl)) (fun _ _ _ h => h) (Or.inl ⟨by rfl, ?_⟩) hHeld ?_ ?_; rotate_left
          · rintro w' ⟨s0, s1⟩
            have hcv_ := Kd.C_string (P := Try.prog) (A := Az3000008) (c := cz3000008) Try.underlying23 Try.underlying5 Try.underlying9 s1
            go_simp
            with_reducible rfl
          rotate_left; · (simp only [Act.put, sT, sZ, sS, i64_w, i32_w]; rfl)
          refine one_ (i := 12) (N := some 60) #[true, true, true, true, true, true, true, true, true, true, true, true, true, false, false, false, false, false, false, false, false, false, false, false, false, false, false, false, false, false, false, false, false, false, false] rfl rfl (one_of HT_.out (by kernel_rfl)) (by decide) (fun K hK => ?_)
          refine goes_ Try.func15 (by kernel_rfl) rfl #[.slice A0 l0.length c0, .int .i64 a1] (by rfl) rfl rfl (by (try simp only [List.map_toArray, List.map_cons, List.map_nil]); first | done | rfl | (simp; done)) ?_
          (with_reducible refine (barrowref03_Int.calls k _ _ _ _ _ _ (RO.at_ HR0.out HK.out) HC0.out Hc14.out).mono ?_)
          rintro e_ w106 ⟨v3000012_, rfl, ho3000012_, hb_⟩
          refine ⟨_, rfl, ?_⟩
          have hs_ := (SL.new (HF.out.keep HK.out) HS.out hb_ (row_of_R ho3000012_)).1
          obtain ⟨Az3000012, cz3000012, e2_, _, _⟩ := SL.row_reads hs_
          subst e2_
          replace HS := Aside0.mk (hs_)
          replace HK := Aside0.mk (HK.out.trans (Keep.below hb_))
          refine hK.out _ _ ⟨(SL.row_c (SL.get6 HS.out)).2.2, (SL.row_c (SL.get5 HS.out)).2.2⟩ (fun hHeld => ?_)
          clear hK K
          refine norm_ (a' := ?_) ?_ ?_; rotate_left
          · show Act.put _ (some 60) _ = _
            simp only [Act.put, sT, sZ, sS, i64_w, i32_w]
            rfl
          refine one_ (i := 13) (N := some 61) #[true, true, true, true, true, true, true, true, true, true, true, true, true, true, false, false, false, false, false, false, false, false, false, false, false, false, false, false, false, false, false, false, false, false, false] rfl rfl (one_of HT_.out (by kernel_rfl)) (by decide) (fun K hK => ?_)
          refine st_of (by rfl) ?_
          refine op_same (v := .string (strOfNums t324)) (by have hcv_ := Kd.C_string (P := Try.prog) (A := Az3000012) (c := cz3000012) Try.underlying23 Try.underlying5 Try.underlying9 (SL.row_c HS.out).2.2; go_simp) ?_
          refine hK.out _ _ ⟨(SL.row_c (SL.get6 HS.out)).2.2, (SL.row_c (SL.get5 HS.out)).2.2⟩ (fun hHeld => ?_)
          clear hK K
          refine norm_ (a' := ?_) ?_ ?_; rotate_left
          · show Act.put _ (some 61) _ = _
            simp only [Act.put, sT, sZ, sS, i64_w, i32_w]
            rfl
          refine pure_ (i := 14) (N := some 62) (v := ?_) (a' := ?_) #[true, true, true, true, true, true, true, true, true, true, true, true, true, true, true, false, false, false, false, false, false, false, false, false, false, false, false, false, false, false, false, false, false, false, false] rfl rfl (any_of HT_.out (by kernel_rfl)) (fun _ _ _ h => h) (Or.inl ⟨by rfl, ?_⟩) ?_ ?_; rotate_left; · (intro w'; go_simp; with_reducible rfl)
          rotate_left; · (simp only [Act.put, sT, sZ, sS, i64_w, i32_w]; rfl)
          refine pure_ (i := 15) (N := some 63) (v := ?_) (a' := ?_) #[true, true, true, true, true, true, true, true, true, true, true, true, true, true, true, true, false, false, false, false, false, false, false, false, false, false, false, false, false, false, false, false, false, false, false] rfl rfl (any_of HT_.out (by kernel_rfl)) (fun _ _ _ h => h) (Or.inl ⟨by rfl, ?_⟩) ?_ ?_; rotate_left; · (intro w'; go_simp; with_reducible rfl)
          rotate_left; · (simp only [Act.put, sT, sZ, sS, i64_w, i32_w]; rfl)
          refine pure_ (i := 16) (N := some 64) (v := ?_) (a' := ?_) #[true, true, true, true, true, true, true, true, true, true, true, true, true, true, true, true, true, false, false, false, false, false, false, false, false, false, false, false, false, false, false, false, false, false, false] rfl rfl (any_of HT_.out (by kernel_rfl)) (fun _ _ _ h => h) (Or.inl ⟨by rfl, ?_⟩) ?_ ?_; rotate_left; · (intro w'; go_simp; with_reducible rfl)
          rotate_left; · (simp only [Act.put, sT, sZ, sS, i64_w, i32_w]; rfl)
          refine pure_ (i := 17) (N := some 65) (v := undef) (a' := ?_) #[true, true, true, true, true, true, true, true, true, true, true, true, true, true, true, true, true, true, false, false, false, false, false, false, false, false, false, false, false, false, false, false, false, false, false] rfl rfl (any_of HT_.out (by kernel_rfl)) (fun _ _ _ h => h) (Or.inr ⟨by rfl, rfl⟩) ?_ ?_; rotate_left; · (simp only [Act.put, sT, sZ, sS, i64_w, i32_w]; rfl)
          refine pure_ (i := 18) (N := some 66) (v := undef) (a' := ?_) #[true, true, true, true, true, true, true, true, true, true, true, true, true, true, true, true, true, true, true, false, false, false, false, false, false, false, false, false, false, false, false, false, false, false, false] rfl rfl (any_of HT_.out (by kernel_rfl)) (fun _ _ _ h => h) (Or.inr ⟨by rfl, rfl⟩) ?_ ?_; rotate_left; · (simp only [Act.put, sT, sZ, sS, i64_w, i32_w]; rfl)
          refine pure_ (i := 19) (N := some 67) (v := undef) (a' := ?_) #[true, true, true, true, true, true, true, true, true, true, true, true, true, true, true, true, true, true, true, true, false, false, false, false, false, false, false, false, false, false, false, false, false, false, false] rfl rfl (any_of HT_.out (by kernel_rfl)) (fun _ _ _ h => h) (Or.inr ⟨by rfl, rfl⟩) ?_ ?_; rotate_left; · (simp only [Act.put, sT, sZ, sS, i64_w, i32_w]; rfl)
          refine pure_ (i := 20) (N := some 68) (v := undef) (a' := ?_) #[true, true, true, true, true, true, true, true, true, true, true, true, true, true, true, true, true, true, true, true, true, false, false, false, false, false, false, false, false, false, false, false, false, false, false] rfl rfl (any_of HT_.out (by kernel_rfl)) (fun _ _ _ h => h) (Or.inr ⟨by rfl, rfl⟩) ?_ ?_; rotate_left; · (simp only [Act.put, sT, sZ, sS, i64_w, i32_w]; rfl)
          refine pure_ (i := 21) (N := some 69) (v := undef) (a' := ?_) #[true, true, true, true, true, true, true, true, true, true, true, true, true, true, true, true, true, true, true, true, true, true, false, false, false, false, false, false, false, false, false, false, false, false, false] rfl rfl (any_of HT_.out (by kernel_rfl)) (fun _ _ _ h => h) (Or.inr ⟨by rfl, rfl⟩) ?_ ?_; rotate_left; · (simp only [Act.put, sT, sZ, sS, i64_w, i32_w]; rfl)
          refine pure_ (i := 22) (N := some 70) (v := undef) (a' := ?_) #[true, true, true, true, true, true, true, true, true, true, true, true, true, true, true, true, true, true, true, true, true, true, true, false, false, false, false, false, false, false, false, false, false, false, false] rfl rfl (any_of HT_.out (by kernel_rfl)) (fun _ _ _ h => h) (Or.inr ⟨by rfl, rfl⟩) ?_ ?_; rotate_left; · (simp only [Act.put, sT, sZ, sS, i64_w, i32_w]; rfl)
          refine pure_ (i := 23) (N := some 71) (v := undef) (a' := ?_) #[true, true, true, true, true, true, true, true, true, true, true, true, true, true, true, true, true, true, true, true, true, true, true, true, false, false, false, false, false, false, false, false, false, false, false] rfl rfl (any_of HT_.out (by kernel_rfl)) (fun _ _ _ h => h) (Or.inr ⟨by rfl, rfl⟩) ?_ ?_; rotate_left; · (simp only [Act.put, sT, sZ, sS, i64_w, i32_w]; rfl)
          refine pure_ (i := 24) (N := some 72) (v := ?_) (a' := ?_) #[true, true, true, true, true, true, true, true, true, true, true, true, true, true, true, true, true, true, true, true, true, true, true, true, true, false, false, false, false, false, false, false, false, false, false] rfl rfl (any_of HT_.out (by kernel_rfl)) (fun _ _ _ h => h) (Or.inl ⟨by rfl, ?_⟩) ?_ ?_; rotate_left; · (intro w'; go_simp; with_reducible rfl)
          rotate_left; · (simp only [Act.put, sT, sZ, sS, i64_w, i32_w]; rfl)
          refine pure_ (i := 25) (N := some 73) (v := ?_) (a' := ?_) #[true, true, true, true, true, true, true, true, true, true, true, true, true, true, true, true, true, true, true, true, true, true, true, true, true, true, false, false, false, false, false, false, false, false, false] rfl rfl (any_of HT_.out (by kernel_rfl)) (fun _ _ _ h => h) (Or.inl ⟨by rfl, ?_⟩) ?_ ?_; rotate_left; · (intro w'; go_simp; with_reducible rfl)
          rotate_left; · (simp only [Act.put, sT, sZ, sS, i64_w, i32_w]; rfl)
          refine pure_ (i := 26) (N := some 74) (v := undef) (a' := ?_) #[true, true, true, true, true, true, true, true, true, true, true, true, true, true, true, true, true, true, true, true, true, true, true, true, true, true, true, false, false, false, false, false, false, false, false] rfl rfl (any_of HT_.out (by kernel_rfl)) (fun _ _ _ h => h) (Or.inr ⟨by rfl, rfl⟩) ?_ ?_; rotate_left; · (simp only [Act.put, sT, sZ, sS, i64_w, i32_w]; rfl)
          refine pure_ (i := 27) (N := some 75) (v := undef) (a' := ?_) #[true, true, true, true, true, true, true, true, true, true, true, true, true, true, true, true, true, true, true, true, true, true, true, true, true, true, true, true, false, false, false, false, false, false, false] rfl rfl (any_of HT_.out (by kernel_rfl)) (fun _ _ _ h => h) (Or.inr ⟨by rfl, rfl⟩) ?_ ?_; rotate_left; · (simp only [Act.put, sT, sZ, sS, i64_w, i32_w]; rfl)
          refine pure_ (i := 28) (N := some 76) (v := undef) (a' := ?_) #[true, true, true, true, true, true, true, true, true, true, true, true, true, true, true, true, true, true, true, true, true, true, true, true, true, true, true, true, true, false, false, false, false, false, false] rfl rfl (any_of HT_.out (by kernel_rfl)) (fun _ _ _ h => h) (Or.inr ⟨by rfl, rfl⟩) ?_ ?_; rotate_left; · (simp only [Act.put, sT, sZ, sS, i64_w, i32_w]; rfl)
          refine pure_ (i := 29) (N := some 77) (v := undef) (a' := ?_) #[true, true, true, true, true, true, true, true, true, true, true, true, true, true, true, true, true, true, true, true, true, true, true, true, true, true, true, true, true, true, false, false, false, false, false] rfl rfl (any_of HT_.out (by kernel_rfl)) (fun _ _ _ h => h) (Or.inr ⟨by rfl, rfl⟩) ?_ ?_; rotate_left; · (simp only [Act.put, sT, sZ, sS, i64_w, i32_w]; rfl)
          refine pure_ (i := 30) (N := some 78) (v := undef) (a' := ?_) #[true, true, true, true, true, true, true, true, true, true, true, true, true, true, true, true, true, true, true, true, true, true, true, true, true, true, true, true, true, true, true, false, false, false, false] rfl rfl (any_of HT_.out (by kernel_rfl)) (fun _ _ _ h => h) (Or.inr ⟨by rfl, rfl⟩) ?_ ?_; rotate_left; · (simp only [Act.put, sT, sZ, sS, i64_w, i32_w]; rfl)
          refine pure_ (i := 31) (N := some 79) (v := undef) (a' := ?_) #[true, true, true, true, true, true, true, true, true, true, true, true, true, true, true, true, true, true, true, true, true, true, true, true, true, true, true, true, true, true, true, true, false, false, false] rfl rfl (any_of HT_.out (by kernel_rfl)) (fun _ _ _ h => h) (Or.inr ⟨by rfl, rfl⟩) ?_ ?_; rotate_left; · (simp only [Act.put, sT, sZ, sS, i64_w, i32_w]; rfl)
          refine pure_ (i := 32) (N := some 80) (v := undef) (a' := ?_) #[true, true, true, true, true, true, true, true, true, true, true, true, true, true, true, true, true, true, true, true, true, true, true, true, true, true, true, true, true, true, true, true, true, false, false] rfl rfl (any_of HT_.out (by kernel_rfl)) (fun _ _ _ h => h) (Or.inr ⟨by rfl, rfl⟩) ?_ ?_; rotate_left; · (simp only [Act.put, sT, sZ, sS, i64_w, i32_w]; rfl)
          refine pure_ (i := 33) (N := some 81) (v := ?_) (a' := ?_) #[true, true, true, true, true, true, true, true, true, true, true, true, true, true, true, true, true, true, true, true, true, true, true, true, true, true, true, true, true, true, true, true, true, true, false] rfl rfl (any_of HT_.out (by kernel_rfl)) (fun _ _ _ h => h) (Or.inl ⟨by rfl, ?_⟩) ?_ ?_; rotate_left; · (intro w'; go_simp; with_reducible rfl)
          rotate_left; · (simp only [Act.put, sT, sZ, sS, i64_w, i32_w]; rfl)
          refine pure_ (i := 34) (N := some 16) (v := ?_) (a' := ?_) #[true, true, true, true, true, true, true, true, true, true, true, true, true, true, true, true, true, true, true, true, true, true, true, true, true, true, true, true, true, true, true, true, true, true, true] rfl rfl (any_of HT_.out (by kernel_rfl)) (fun _ _ _ h => h) (Or.inl ⟨by rfl, ?_⟩) ?_ ?_; rotate_left; · (intro w'; go_simp; with_reducible rfl)
          rotate_left; · (simp only [Act.put, sT, sZ, sS, i64_w, i32_w]; rfl)
          refine done_ (done_of HT_.out (by kernel_rfl)) ?_
          try go_wp2
          replace HS := Aside0.mk (SL.tail HS.out)
          go_loopg [17] k (fun kq v17 w' => ∃ (y3000008_100 : List Int) (y3000007_100 : List Int) (x17_100 : Int), v17 = .int .i64 x17_100 ∧ Aside0 (barrowlaw03_PackWrites.l100 kq y3000008_100 y3000007_100 x17_100 t315 t316 t317 t318 = some r) ∧ Aside0 (kq ≤ k) ∧ Aside0 (SL (row (Kd.int .u8) 5 (.slice Az3000011 t323.length cz3000011) t323 :: lentR 5 (.slice Az3000006 t316.length cz3000006) t322 :: row (Kd.int .u8) 5 (.slice Az3000010 t320.length cz3000010) t320 :: row (Kd.int .u8) 5 (.slice Az3000009 t319.length cz3000009) t319 :: row (Kd.int .u8) 5 (.slice Az3000008 t318.length cz3000008) y3000008_100 :: row (Kd.int .u8) 5 (.slice Az3000007 t317.length cz3000007) y3000007_100 :: L) w' S) ∧ Aside0 (Keep S w w'))
          case atStart => exact ⟨(t318), (t317), (0), (by first | rfl | (simp; done) | (simp [*]; done)), H', ⟨Nat.le_refl _⟩, HS, HK⟩
          case round =>
            clear H' HS HK
            obtain ⟨y3000008_100, y3000007_100, x17_100, rfl, HA, HQ1, HS, HK⟩ := hrel
            cases gk with
            | zero => exact absurd HA.out (by simp [barrowlaw03_PackWrites.l100])
            | succ k1 =>
              have H := HA.out
              clear HA
              simp only [barrowlaw03_PackWrites.l100] at H
              by_cases c109 : x17_100 < (t317.length : Int)
              · rw [if_pos c109] at H
                have c109b0 : decide (x17_100 < (t317.length : Int)) = true := decide_eq_true c109
                clear c109
                by_cases c110 : x17_100 < (t316.length : Int)
                · rw [if_pos c110] at H
                  have c110b0 : decide (x17_100 < (t316.length : Int)) = true := decide_eq_true c110
                  clear c110
                  by_cases c111 : 0 ≤ x17_100
                  · rw [if_pos c111] at H
                    have c111b0 : decide (0 ≤ x17_100) = true := decide_eq_true c111
                    clear c111
                    replace H := Option.bind_eq_some_iff.1 H
                    obtain ⟨y336, hy3360, H⟩ := H
                    try dsimp only at H
                    have hy336 := Option.some.inj hy3360
                    clear hy3360
                    have Ny336 := Aside0.mk hy336
                    clear hy336
                    by_cases c112 : x17_100 < (t318.length : Int)
                    · rw [if_pos c112] at H
                      have c112b0 : decide (x17_100 < (t318.length : Int)) = true := decide_eq_true c112
                      clear c112
                      replace H := Option.bind_eq_some_iff.1 H
                      obtain ⟨y338, hy3380, H⟩ := H
                      try dsimp only at H
                      have hy338 := Option.some.inj hy3380
                      clear hy3380
                      have Ny338 := Aside0.mk hy338
                      clear hy338
                      have H' := Aside0.mk H
                      clear H
                      have pq335 : 0 ≤ (x17_100 : Int) := of_decide_eq_true (by first | (with_reducible assumption) | assumption)
                      have qq335 : x17_100 < ((t317.length : Int) : Int) := of_decide_eq_true (by first | (with_reducible assumption) | assumption)
                      obtain ⟨adq335, eq335, hxq335_0⟩ := Kd.at_int (SL.row_c (SL.get5 HS.out)).2.2 x17_100 pq335 qq335
                      cases eq335
                      replace pq335 := eq_true pq335
                      replace qq335 := eq_true qq335
                      go_wp2_with (first | ((with_reducible refine gate_store (t := 5) (p := 96) (v := (.const (.int .u8 99))) rfl ?_); refine wpList_plain rfl (fun K_ hK_ => ?_); refine op_set (S := S) (enc := Value.int .u8) (h1 := fun _ => rfl) 5 (.tmp 96) (.const (.int .u8 99)) rfl adq335 (x17_100) 99 (SL.get5 HS.out) (by rfl) rfl (by kernel_rfl) (of_decide_eq_true (by first | (with_reducible assumption) | assumption)) (of_decide_eq_true (by first | (with_reducible assumption) | assumption)) y336 Ny336.out ?_; intro w113 hs_ hk_; refine hK_ _ _ ?_; clear hK_ K_; replace HS := Aside0.mk ((SL.back5 (show SL (row (Kd.int .u8) 5 (.slice (some adq335) t317.length cz3000007) y336 :: _) _ _ from hs_))); replace HK := Aside0.mk (HK.out.trans hk_); have pq337 : 0 ≤ (x17_100 : Int) := of_decide_eq_true (by first | (with_reducible assumption) | assumption); have qq337 : x17_100 < ((t318.length : Int) : Int) := of_decide_eq_true (by first | (with_reducible assumption) | assumption); obtain ⟨adq337, eq337, hxq337_0⟩ := Kd.at_int (SL.row_c (SL.get4 HS.out)).2.2 x17_100 pq337 qq337; cases eq337; replace pq337 := eq_true pq337; replace qq337 := eq_true qq337) | ((with_reducible refine gate_store (t := 5) (p := 99) (v := (.const (.int .u8 99))) rfl ?_); refine wpList_plain rfl (fun K_ hK_ => ?_); refine op_set (S := S) (enc := Value.int .u8) (h1 := fun _ => rfl) 5 (.tmp 99) (.const (.int .u8 99)) rfl adq337 (x17_100) 99 (SL.get4 HS.out) (by rfl) rfl (by kernel_rfl) (of_decide_eq_true (by first | (with_reducible assumption) | assumption)) (of_decide_eq_true (by first | (with_reducible assumption) | assumption)) y338 Ny338.out ?_; intro w114 hs_ hk_; refine hK_ _ _ ?_; clear hK_ K_; replace HS := Aside0.mk ((SL.back4 (show SL (row (Kd.int .u8) 5 (.slice (some adq337) t318.length cz3000008) y338 :: _) _ _ from hs_))); replace HK := Aside0.mk (HK.out.trans hk_)))
                      go_roundg k1
                      case measure => have := HQ1.out; omega
                      case rel => exact ⟨(y338), (y336), (wrap64 (x17_100 + 1)), (by first | rfl | (simp; done) | (simp [*]; done)), H', ⟨by have := HQ1.out; omega⟩, HS, HK⟩
                    · rw [if_neg c112] at H
                      exact absurd H (by simp)
                  · rw [if_neg c111] at H
                    exact absurd H (by simp)
                · rw [if_neg c110] at H
                  have c110b0 : decide (x17_100 < (t316.length : Int)) = false := decide_eq_false c110
                  clear c110
                  by_cases c115 : t315 = true
                  · subst c115
                    rw [if_pos rfl] at H
                    exact absurd H (by simp)
                  · replace c115 := Bool.eq_false_iff.mpr c115
                    subst c115
                    rw [if_neg (show ¬ (false = true) by decide)] at H
                    exact absurd H (by simp)
              · rw [if_neg c109] at H
                have c109b0 : decide (x17_100 < (t317.length : Int)) = false := decide_eq_false c109
                clear c109
                by_cases c116 : t315 = true
                · subst c116
                  rw [if_pos rfl] at H
                  exact absurd H (by simp)
                · replace c116 := Bool.eq_false_iff.mpr c116
                  subst c116
                  rw [if_neg (show ¬ (false = true) by decide)] at H
                  exact absurd H (by simp)
      · rw [if_neg c13] at H
        have c13b0 : ((strOfNums t317).toList == (strOfNums t323).toList) = false := beq_eq_false_iff_ne.mpr c13
        have c13b1 : ((strOfNums t317).toList != (strOfNums t323).toList) = true := bne_iff_ne.mpr c13
        have H' := Aside0.mk H
        clear H
        go_enter Try.func4, Try.ntmps4
        try go_wp2_with (first | ((with_reducible refine gate_dst (N := 18) rfl ?_); refine goesL_ (some 18) rfl rfl Try.func7 (by kernel_rfl) rfl #[] rfl (by (try simp only [List.map_toArray, List.map_cons, List.map_nil]); first | done | rfl | (simp; done)) ?_; (with_reducible refine (barrowlaw03_small.calls k _ _  Hc1.out).mono ?_); rintro e_ w117 ⟨rfl, hb_⟩; refine ⟨_, rfl, ?_⟩; replace HS := Aside0.mk (HS.out.below hb_); replace HK := Aside0.mk (HK.out.trans (Keep.below hb_))) | ((with_reducible refine gate_dst (N := 32) rfl ?_); refine goesL_ (some 32) rfl rfl Try.func9 (by kernel_rfl) rfl #[.slice A0 l0.length c0] rfl (by (try simp only [List.map_toArray, List.map_cons, List.map_nil]); first | done | rfl | (simp; done)) ?_; have hs0_ := HS.out; (with_reducible refine (barrowlaw03_Lent.slcalls _ _ _ _ _ _ _ (HF.out.keep HK.out) hs0_ (HR0.out.keep HK.out) HC0.out Hc6.out).mono ?_); rintro e_ w118 ⟨Az3000006, cz3000006, rfl, hsr_, hkr_⟩; refine ⟨_, rfl, ?_⟩; replace HS := Aside0.mk (hsr_); replace HK := Aside0.mk (HK.out.trans hkr_)) | ((with_reducible refine gate_dst (N := 35) rfl ?_); refine goesL_ (some 35) rfl rfl Try.func8 (by kernel_rfl) rfl #[.slice Az3000006 t316.length cz3000006, .int .i64 a1] rfl (by (try simp only [List.map_toArray, List.map_cons, List.map_nil]); first | done | rfl | (simp; done)) ?_; (with_reducible refine (pack_Uint.calls k _ _ _ _ _ _ (lent_c HS.out).2.2 (lent_c HS.out).2.1 Hc7.out).mono ?_); rintro e_ w119 ⟨v3000007_, rfl, ho3000007_, hb_⟩; refine ⟨_, rfl, ?_⟩; have hs_ := (SL.new (HF.out.keep HK.out) HS.out hb_ (row_of_R ho3000007_)).1; obtain ⟨Az3000007, cz3000007, e2_, _, _⟩ := SL.row_reads hs_; subst e2_; replace HS := Aside0.mk (hs_); replace HK := Aside0.mk (HK.out.trans (Keep.below hb_))) | ((with_reducible refine gate_dst (N := 38) rfl ?_); refine goesL_ (some 38) rfl rfl Try.func10 (by kernel_rfl) rfl #[.slice Az3000006 t316.length cz3000006, .int .i64 a1] rfl (by (try simp only [List.map_toArray, List.map_cons, List.map_nil]); first | done | rfl | (simp; done)) ?_; (with_reducible refine (pack_Int.calls k _ _ _ _ _ _ (lent_c (SL.get1 HS.out)).2.2 (lent_c (SL.get1 HS.out)).2.1 Hc8.out).mono ?_); rintro e_ w120 ⟨v3000008_, rfl, ho3000008_, hb_⟩; refine ⟨_, rfl, ?_⟩; have hs_ := (SL.new (HF.out.keep HK.out) HS.out hb_ (row_of_R ho3000008_)).1; obtain ⟨Az3000008, cz3000008, e2_, _, _⟩ := SL.row_reads hs_; subst e2_; replace HS := Aside0.mk (hs_); replace HK := Aside0.mk (HK.out.trans (Keep.below hb_))) | ((with_reducible refine gate_dst (N := 41) rfl ?_); refine goesL_ (some 41) rfl rfl Try.func11 (by kernel_rfl) rfl #[.slice Az3000006 t316.length cz3000006, .string a2] rfl (by (try simp only [List.map_toArray, List.map_cons, List.map_nil]); first | done | rfl | (simp; done)) ?_; (with_reducible refine (pack_Text.calls k _ _ _ _ _ _ (lent_c (SL.get2 HS.out)).2.2 (lent_c (SL.get2 HS.out)).2.1 Hc9.out).mono ?_); rintro e_ w121 ⟨v3000009_, rfl, ho3000009_, hb_⟩; refine ⟨_, rfl, ?_⟩; have hs_ := (SL.new (HF.out.keep HK.out) HS.out hb_ (row_of_R ho3000009_)).1; obtain ⟨Az3000009, cz3000009, e2_, _, _⟩ := SL.row_reads hs_; subst e2_; replace HS := Aside0.mk (hs_); replace HK := Aside0.mk (HK.out.trans (Keep.below hb_))) | ((with_reducible refine gate_dst (N := 44) rfl ?_); refine goesL_ (some 44) rfl rfl Try.func12 (by kernel_rfl) rfl #[.slice Az3000006 t316.length cz3000006, .slice A3 l3.length c3] rfl (by (try simp only [List.map_toArray, List.map_cons, List.map_nil]); first | done | rfl | (simp; done)) ?_; (with_reducible refine (pack_Ints.calls k _ _ _ _ _ _ _ _ (lent_c (SL.get3 HS.out)).2.2 (lent_c (SL.get3 HS.out)).2.1 (RO.at_ HR3.out HK.out) HC3.out Hc10.out).mono ?_); rintro e_ w122 ⟨v3000010_, rfl, ho3000010_, hb_⟩; refine ⟨_, rfl, ?_⟩; have hs_ := (SL.new (HF.out.keep HK.out) HS.out hb_ (row_of_R ho3000010_)).1; obtain ⟨Az3000010, cz3000010, e2_, _, _⟩ := SL.row_reads hs_; subst e2_; replace HS := Aside0.mk (hs_); replace HK := Aside0.mk (HK.out.trans (Keep.below hb_))) | ((with_reducible refine gate_dst (N := 47) rfl ?_); refine goesL_ (some 47) rfl rfl Try.func13 (by kernel_rfl) rfl #[.slice Az3000006 t316.length cz3000006, .slice A0 l0.length c0] rfl (by (try simp only [List.map_toArray, List.map_cons, List.map_nil]); first | done | rfl | (simp; done)) ?_; have hs0_ := (SL.get4 HS.out); (with_reducible refine (barrowlaw03_Kept.slcalls _ _ _ _ _ _ _ _ _ _ _ (HF.out.keep HK.out) hs0_ (HR0.out.keep HK.out) HC0.out Hc11.out).mono ?_); rintro e_ w123 ⟨rfl, hsr_, hkr_⟩; refine ⟨_, rfl, ?_⟩; replace HS := Aside0.mk (hsr_); replace HK := Aside0.mk (HK.out.trans hkr_)))
        refine start_ (n := 35) (S := fun w' => (Kd.int .u8).C w' Az3000007 t317.length t317) (ds := []) #[false, false, false, false, false, false, false, false, false, false, false, false, false, false, false, false, false, false, false, false, false, false, false, false, false, false, false, false, false, false, false, false, false, false, false] (by kernel_rfl) rfl rfl ((SL.row_c (SL.get4 HS.out)).2.2) (fun hHeld => ?_); refine with_tabW barrowlaw03_PackWrites.tab10 barrowlaw03_PackWrites.bits10 (fun HT_ HW_ => ?_)
        replace HK := Aside0.mk (Keep.drew HK.out)
        replace HS := Aside0.mk (SL.drew HS.out)
        refine pure_ (i := 0) (N := some 48) (v := ?_) (a' := ?_) #[true, false, false, false, false, false, false, false, false, false, false, false, false, false, false, false, false, false, false, false, false, false, false, false, false, false, false, false, false, false, false, false, false, false, false] rfl rfl (any_of HT_.out (by kernel_rfl)) (fun _ _ _ h => h) (Or.inl ⟨by rfl, ?_⟩) ?_ ?_; rotate_left; · (intro w'; go_simp; with_reducible rfl)
        rotate_left; · (simp only [Act.put, sT, sZ, sS, i64_w, i32_w]; rfl)
        refine pure_ (i := 2) (N := some 50) (v := ?_) (a' := ?_) #[true, false, true, false, false, false, false, false, false, false, false, false, false, false, false, false, false, false, false, false, false, false, false, false, false, false, false, false, false, false, false, false, false, false, false] rfl rfl (any_of HT_.out (by kernel_rfl)) (fun _ _ _ h => h) (Or.inl ⟨by rfl, ?_⟩) ?_ ?_; rotate_left; · (intro w'; go_simp; with_reducible rfl)
        rotate_left; · (simp only [Act.put, sT, sZ, sS, i64_w, i32_w]; rfl)
        refine pure_ (i := 3) (N := some 51) (v := ?_) (a' := ?_) #[true, false, true, true, false, false, false, false, false, false, false, false, false, false, false, false, false, false, false, false, false, false, false, false, false, false, false, false, false, false, false, false, false, false, false] rfl rfl (any_of HT_.out (by kernel_rfl)) (fun _ _ _ h => h) (Or.inl ⟨by rfl, ?_⟩) ?_ ?_; rotate_left; · (intro w'; go_simp; with_reducible rfl)
        rotate_left; · (simp only [Act.put, sT, sZ, sS, i64_w, i32_w]; rfl)
        refine take_ (i := 1) (N := some 49) (v := ?_) (a' := ?_) #[true, true, true, true, false, false, false, false, false, false, false, false, false, false, false, false, false, false, false, false, false, false, false, false, false, false, false, false, false, false, false, false, false, false, false] rfl rfl (take_ofW HT_.out HW_.out (by kernel_rfl)) (fun _ _ _ h => h) (Or.inl ⟨by rfl, ?_⟩) hHeld ?_ ?_; rotate_left
        · intro w' s0
          have hcv_ := Kd.C_string (P := Try.prog) (A := Az3000007) (c := cz3000007) Try.underlying23 Try.underlying5 Try.underlying9 s0
          go_simp
          with_reducible rfl
        rotate_left; · (simp only [Act.put, sT, sZ, sS, i64_w, i32_w]; rfl)
        refine one_ (i := 4) (N := some 52) #[true, true, true, true, true, false, false, false, false, false, false, false, false, false, false, false, false, false, false, false, false, false, false, false, false, false, false, false, false, false, false, false, false, false, false] rfl rfl (one_of HT_.out (by kernel_rfl)) (by decide) (fun K hK => ?_)
        refine goes_ Try.func14 (by kernel_rfl) rfl #[.slice A0 l0.length c0, .int .i64 a1] (by rfl) rfl rfl (by (try simp only [List.map_toArray, List.map_cons, List.map_nil]); first | done | rfl | (simp; done)) ?_
        (with_reducible refine (barrowref03_Uint.calls k _ _ _ _ _ _ (RO.at_ HR0.out HK.out) HC0.out Hc12.out).mono ?_)
        rintro e_ w126 ⟨v3000011_, rfl, ho3000011_, hb_⟩
        refine ⟨_, rfl, ?_⟩
        have hs_ := (SL.new (HF.out.keep HK.out) HS.out hb_ (row_of_R ho3000011_)).1
        obtain ⟨Az3000011, cz3000011, e2_, _, _⟩ := SL.row_reads hs_
        subst e2_
        replace HS := Aside0.mk (hs_)
        replace HK := Aside0.mk (HK.out.trans (Keep.below hb_))
        refine hK.out _ _ ((SL.row_c (SL.get5 HS.out)).2.2) (fun hHeld => ?_)
        clear hK K
        refine norm_ (a' := ?_) ?_ ?_; rotate_left
        · show Act.put _ (some 52) _ = _
          simp only [Act.put, sT, sZ, sS, i64_w, i32_w]
          rfl
        refine one_ (i := 5) (N := some 53) #[true, true, true, true, true, true, false, false, false, false, false, false, false, false, false, false, false, false, false, false, false, false, false, false, false, false, false, false, false, false, false, false, false, false, false] rfl rfl (one_of HT_.out (by kernel_rfl)) (by decide) (fun K hK => ?_)
        refine st_of (by rfl) ?_
        refine op_same (v := .string (strOfNums t323)) (by have hcv_ := Kd.C_string (P := Try.prog) (A := Az3000011) (c := cz3000011) Try.underlying23 Try.underlying5 Try.underlying9 (SL.row_c HS.out).2.2; go_simp) ?_
        refine hK.out _ _ ((SL.row_c (SL.get5 HS.out)).2.2) (fun hHeld => ?_)
        clear hK K
        refine norm_ (a' := ?_) ?_ ?_; rotate_left
        · show Act.put _ (some 53) _ = _
          simp only [Act.put, sT, sZ, sS, i64_w, i32_w]
          rfl
        refine pure_ (i := 6) (N := some 54) (v := ?_) (a' := ?_) #[true, true, true, true, true, true, true, false, false, false, false, false, false, false, false, false, false, false, false, false, false, false, false, false, false, false, false, false, false, false, false, false, false, false, false] rfl rfl (any_of HT_.out (by kernel_rfl)) (fun _ _ _ h => h) (Or.inl ⟨by rfl, ?_⟩) ?_ ?_; rotate_left; · (intro w'; go_simp; with_reducible rfl)
        rotate_left; · (simp only [Act.put, sT, sZ, sS, i64_w, i32_w]; rfl)
        refine pure_ (i := 7) (N := some 55) (v := ?_) (a' := ?_) #[true, true, true, true, true, true, true, true, false, false, false, false, false, false, false, false, false, false, false, false, false, false, false, false, false, false, false, false, false, false, false, false, false, false, false] rfl rfl (any_of HT_.out (by kernel_rfl)) (fun _ _ _ h => h) (Or.inl ⟨by rfl, ?_⟩) ?_ ?_; rotate_left; · (intro w'; go_simp; with_reducible rfl)
        rotate_left; · (simp only [Act.put, sT, sZ, sS, i64_w, i32_w]; rfl)
        refine pure_ (i := 8) (N := some 56) (v := undef) (a' := ?_) #[true, true, true, true, true, true, true, true, true, false, false, false, false, false, false, false, false, false, false, false, false, false, false, false, false, false, false, false, false, false, false, false, false, false, false] rfl rfl (any_of HT_.out (by kernel_rfl)) (fun _ _ _ h => h) (Or.inr ⟨by rfl, rfl⟩) ?_ ?_; rotate_left; · (simp only [Act.put, sT, sZ, sS, i64_w, i32_w]; rfl)
        refine pure_ (i := 9) (N := some 57) (v := undef) (a' := ?_) #[true, true, true, true, true, true, true, true, true, true, false, false, false, false, false, false, false, false, false, false, false, false, false, false, false, false, false, false, false, false, false, false, false, false, false] rfl rfl (any_of HT_.out (by kernel_rfl)) (fun _ _ _ h => h) (Or.inr ⟨by rfl, rfl⟩) ?_ ?_; rotate_left; · (simp only [Act.put, sT, sZ, sS, i64_w, i32_w]; rfl)
        refine pure_ (i := 10) (N := some 58) (v := undef) (a' := ?_) #[true, true, true, true, true, true, true, true, true, true, true, false, false, false, false, false, false, false, false, false, false, false, false, false, false, false, false, false, false, false, false, false, false, false, false] rfl rfl (any_of HT_.out (by kernel_rfl)) (fun _ _ _ h => h) (Or.inr ⟨by rfl, rfl⟩) ?_ ?_; rotate_left; · (simp only [Act.put, sT, sZ, sS, i64_w, i32_w]; rfl)
        refine pure_ (i := 11) (N := some 59) (v := undef) (a' := ?_) #[true, true, true, true, true, true, true, true, true, true, true, true, false, false, false, false, false, false, false, false, false, false, false, false, false, false, false, false, false, false, false, false, false, false, false] rfl rfl (any_of HT_.out (by kernel_rfl)) (fun _ _ _ h => h) (Or.inr ⟨by rfl, rfl⟩) ?_ ?_; rotate_left; · (simp only [Act.put, sT, sZ, sS, i64_w, i32_w]; rfl)
        refine pure_ (i := 12) (N := some 60) (v := undef) (a' := ?_) #[true, true, true, true, true, true, true, true, true, true, true, true, true, false, false, false, false, false, false, false, false, false, false, false, false, false, false, false, false, false, false, false, false, false, false] rfl rfl (any_of HT_.out (by kernel_rfl)) (fun _ _ _ h => h) (Or.inr ⟨by rfl, rfl⟩) ?_ ?_; rotate_left; · (simp only [Act.put, sT, sZ, sS, i64_w, i32_w]; rfl)
        refine pure_ (i := 13) (N := some 61) (v := undef) (a' := ?_) #[true, true, true, true, true, true, true, true, true, true, true, true, true, true, false, false, false, false, false, false, false, false, false, false, false, false, false, false, false, false, false, false, false, false, false] rfl rfl (any_of HT_.out (by kernel_rfl)) (fun _ _ _ h => h) (Or.inr ⟨by rfl, rfl⟩) ?_ ?_; rotate_left; · (simp only [Act.put, sT, sZ, sS, i64_w, i32_w]; rfl)
        refine pure_ (i := 14) (N := some 62) (v := undef) (a' := ?_) #[true, true, true, true, true, true, true, true, true, true, true, true, true, true, true, false, false, false, false, false, false, false, false, false, false, false, false, false, false, false, false, false, false, false, false] rfl rfl (any_of HT_.out (by kernel_rfl)) (fun _ _ _ h => h) (Or.inr ⟨by rfl, rfl⟩) ?_ ?_; rotate_left; · (simp only [Act.put, sT, sZ, sS, i64_w, i32_w]; rfl)
        refine pure_ (i := 15) (N := some 63) (v := ?_) (a' := ?_) #[true, true, true, true, true, true, true, true, true, true, true, true, true, true, true, true, false, false, false, false, false, false, false, false, false, false, false, false, false, false, false, false, false, false, false] rfl rfl (any_of HT_.out (by kernel_rfl)) (fun _ _ _ h => h) (Or.inl ⟨by rfl, ?_⟩) ?_ ?_; rotate_left; · (intro w'; go_simp; with_reducible rfl)
        rotate_left; · (simp only [Act.put, sT, sZ, sS, i64_w, i32_w]; rfl)
        refine pure_ (i := 16) (N := some 64) (v := ?_) (a' := ?_) #[true, true, true, true, true, true, true, true, true, true, true, true, true, true, true, true, true, false, false, false, false, false, false, false, false, false, false, false, false, false, false, false, false, false, false] rfl rfl (any_of HT_.out (by kernel_rfl)) (fun _ _ _ h => h) (Or.inl ⟨by rfl, ?_⟩) ?_ ?_; rotate_left; · (intro w'; go_simp; with_reducible rfl)
        rotate_left; · (simp only [Act.put, sT, sZ, sS, i64_w, i32_w]; rfl)
        refine pure_ (i := 17) (N := some 65) (v := undef) (a' := ?_) #[true, true, true, true, true, true, true, true, true, true, true, true, true, true, true, true, true, true, false, false, false, false, false, false, false, false, false, false, false, false, false, false, false, false, false] rfl rfl (any_of HT_.out (by kernel_rfl)) (fun _ _ _ h => h) (Or.inr ⟨by rfl, rfl⟩) ?_ ?_; rotate_left; · (simp only [Act.put, sT, sZ, sS, i64_w, i32_w]; rfl)
        refine pure_ (i := 18) (N := some 66) (v := undef) (a' := ?_) #[true, true, true, true, true, true, true, true, true, true, true, true, true, true, true, true, true, true, true, false, false, false, false, false, false, false, false, false, false, false, false, false, false, false, false] rfl rfl (any_of HT_.out (by kernel_rfl)) (fun _ _ _ h => h) (Or.inr ⟨by rfl, rfl⟩) ?_ ?_; rotate_left; · (simp only [Act.put, sT, sZ, sS, i64_w, i32_w]; rfl)
        refine pure_ (i := 19) (N := some 67) (v := undef) (a' := ?_) #[true, true, true, true, true, true, true, true, true, true, true, true, true, true, true, true, true, true, true, true, false, false, false, false, false, false, false, false, false, false, false, false, false, false, false] rfl rfl (any_of HT_.out (by kernel_rfl)) (fun _ _ _ h => h) (Or.inr ⟨by rfl, rfl⟩) ?_ ?_; rotate_left; · (simp only [Act.put, sT, sZ, sS, i64_w, i32_w]; rfl)
        refine pure_ (i := 20) (N := some 68) (v := undef) (a' := ?_) #[true, true, true, true, true, true, true, true, true, true, true, true, true, true, true, true, true, true, true, true, true, false, false, false, false, false, false, false, false, false, false, false, false, false, false] rfl rfl (any_of HT_.out (by kernel_rfl)) (fun _ _ _ h => h) (Or.inr ⟨by rfl, rfl⟩) ?_ ?_; rotate_left; · (simp only [Act.put, sT, sZ, sS, i64_w, i32_w]; rfl)
        refine pure_ (i := 21) (N := some 69) (v := undef) (a' := ?_) #[true, true, true, true, true, true, true, true, true, true, true, true, true, true, true, true, true, true, true, true, true, true, false, false, false, false, false, false, false, false, false, false, false, false, false] rfl rfl (any_of HT_.out (by kernel_rfl)) (fun _ _ _ h => h) (Or.inr ⟨by rfl, rfl⟩) ?_ ?_; rotate_left; · (simp only [Act.put, sT, sZ, sS, i64_w, i32_w]; rfl)
        refine pure_ (i := 22) (N := some 70) (v := undef) (a' := ?_) #[true, true, true, true, true, true, true, true, true, true, true, true, true, true, true, true, true, true, true, true, true, true, true, false, false, false, false, false, false, false, false, false, false, false, false] rfl rfl (any_of HT_.out (by kernel_rfl)) (fun _ _ _ h => h) (Or.inr ⟨by rfl, rfl⟩) ?_ ?_; rotate_left; · (simp only [Act.put, sT, sZ, sS, i64_w, i32_w]; rfl)
        refine pure_ (i := 23) (N := some 71) (v := undef) (a' := ?_) #[true, true, true, true, true, true, true, true, true, true, true, true, true, true, true, true, true, true, true, true, true, true, true, true, false, false, false, false, false, false, false, false, false, false, false] rfl rfl (any_of HT_.out (by kernel_rfl)) (fun _ _ _ h => h) (Or.inr ⟨by rfl, rfl⟩) ?_ ?_; rotate_left; · (simp only [Act.put, sT, sZ, sS, i64_w, i32_w]; rfl)
        refine pure_ (i := 24) (N := some 72) (v := ?_) (a' := ?_) #[true, true, true, true, true, true, true, true, true, true, true, true, true, true, true, true, true, true, true, true, true, true, true, true, true, false, false, false, false, false, false, false, false, false, false] rfl rfl (any_of HT_.out (by kernel_rfl)) (fun _ _ _ h => h) (Or.inl ⟨by rfl, ?_⟩) ?_ ?_; rotate_left; · (intro w'; go_simp; with_reducible rfl)
        rotate_left; · (simp only [Act.put, sT, sZ, sS, i64_w, i32_w]; rfl)
        refine pure_ (i := 25) (N := some 73) (v := ?_) (a' := ?_) #[true, true, true, true, true, true, true, true, true, true, true, true, true, true, true, true, true, true, true, true, true, true, true, true, true, true, false, false, false, false, false, false, false, false, false] rfl rfl (any_of HT_.out (by kernel_rfl)) (fun _ _ _ h => h) (Or.inl ⟨by rfl, ?_⟩) ?_ ?_; rotate_left; · (intro w'; go_simp; with_reducible rfl)
        rotate_left; · (simp only [Act.put, sT, sZ, sS, i64_w, i32_w]; rfl)
        refine pure_ (i := 26) (N := some 74) (v := undef) (a' := ?_) #[true, true, true, true, true, true, true, true, true, true, true, true, true, true, true, true, true, true, true, true, true, true, true, true, true, true, true, false, false, false, false, false, false, false, false] rfl rfl (any_of HT_.out (by kernel_rfl)) (fun _ _ _ h => h) (Or.inr ⟨by rfl, rfl⟩) ?_ ?_; rotate_left; · (simp only [Act.put, sT, sZ, sS, i64_w, i32_w]; rfl)
        refine pure_ (i := 27) (N := some 75) (v := undef) (a' := ?_) #[true, true, true, true, true, true, true, true, true, true, true, true, true, true, true, true, true, true, true, true, true, true, true, true, true, true, true, true, false, false, false, false, false, false, false] rfl rfl (any_of HT_.out (by kernel_rfl)) (fun _ _ _ h => h) (Or.inr ⟨by rfl, rfl⟩) ?_ ?_; rotate_left; · (simp only [Act.put, sT, sZ, sS, i64_w, i32_w]; rfl)
        refine pure_ (i := 28) (N := some 76) (v := undef) (a' := ?_) #[true, true, true, true, true, true, true, true, true, true, true, true, true, true, true, true, true, true, true, true, true, true, true, true, true, true, true, true, true, false, false, false, false, false, false] rfl rfl (any_of HT_.out (by kernel_rfl)) (fun _ _ _ h => h) (Or.inr ⟨by rfl, rfl⟩) ?_ ?_; rotate_left; · (simp only [Act.put, sT, sZ, sS, i64_w, i32_w]; rfl)
        refine pure_ (i := 29) (N := some 77) (v := undef) (a' := ?_) #[true, true, true, true, true, true, true, true, true, true, true, true, true, true, true, true, true, true, true, true, true, true, true, true, true, true, true, true, true, true, false, false, false, false, false] rfl rfl (any_of HT_.out (by kernel_rfl)) (fun _ _ _ h => h) (Or.inr ⟨by rfl, rfl⟩) ?_ ?_; rotate_left; · (simp only [Act.put, sT, sZ, sS, i64_w, i32_w]; rfl)
        refine pure_ (i := 30) (N := some 78) (v := undef) (a' := ?_) #[true, true, true, true, true, true, true, true, true, true, true, true, true, true, true, true, true, true, true, true, true, true, true, true, true, true, true, true, true, true, true, false, false, false, false] rfl rfl (any_of HT_.out (by kernel_rfl)) (fun _ _ _ h => h) (Or.inr ⟨by rfl, rfl⟩) ?_ ?_; rotate_left; · (simp only [Act.put, sT, sZ, sS, i64_w, i32_w]; rfl)
        refine pure_ (i := 31) (N := some 79) (v := undef) (a' := ?_) #[true, true, true, true, true, true, true, true, true, true, true, true, true, true, true, true, true, true, true, true, true, true, true, true, true, true, true, true, true, true, true, true, false, false, false] rfl rfl (any_of HT_.out (by kernel_rfl)) (fun _ _ _ h => h) (Or.inr ⟨by rfl, rfl⟩) ?_ ?_; rotate_left; · (simp only [Act.put, sT, sZ, sS, i64_w, i32_w]; rfl)
        refine pure_ (i := 32) (N := some 80) (v := undef) (a' := ?_) #[true, true, true, true, true, true, true, true, true, true, true, true, true, true, true, true, true, true, true, true, true, true, true, true, true, true, true, true, true, true, true, true, true, false, false] rfl rfl (any_of HT_.out (by kernel_rfl)) (fun _ _ _ h => h) (Or.inr ⟨by rfl, rfl⟩) ?_ ?_; rotate_left; · (simp only [Act.put, sT, sZ, sS, i64_w, i32_w]; rfl)
        refine pure_ (i := 33) (N := some 81) (v := ?_) (a' := ?_) #[true, true, true, true, true, true, true, true, true, true, true, true, true, true, true, true, true, true, true, true, true, true, true, true, true, true, true, true, true, true, true, true, true, true, false] rfl rfl (any_of HT_.out (by kernel_rfl)) (fun _ _ _ h => h) (Or.inl ⟨by rfl, ?_⟩) ?_ ?_; rotate_left; · (intro w'; go_simp; with_reducible rfl)
        rotate_left; · (simp only [Act.put, sT, sZ, sS, i64_w, i32_w]; rfl)
        refine pure_ (i := 34) (N := some 16) (v := ?_) (a' := ?_) #[true, true, true, true, true, true, true, true, true, true, true, true, true, true, true, true, true, true, true, true, true, true, true, true, true, true, true, true, true, true, true, true, true, true, true] rfl rfl (any_of HT_.out (by kernel_rfl)) (fun _ _ _ h => h) (Or.inl ⟨by rfl, ?_⟩) ?_ ?_; rotate_left; · (intro w'; go_simp; with_reducible rfl)
        rotate_left; · (simp only [Act.put, sT, sZ, sS, i64_w, i32_w]; rfl)
        refine done_ (done_of HT_.out (by kernel_rfl)) ?_
        try go_wp2
        go_loopg [17] k (fun kq v17 w' => ∃ (y3000008_100 : List Int) (y3000007_100 : List Int) (x17_100 : Int), v17 = .int .i64 x17_100 ∧ Aside0 (barrowlaw03_PackWrites.l100 kq y3000008_100 y3000007_100 x17_100 t315 t316 t317 t318 = some r) ∧ Aside0 (kq ≤ k) ∧ Aside0 (SL (row (Kd.int .u8) 5 (.slice Az3000011 t323.length cz3000011) t323 :: lentR 5 (.slice Az3000006 t316.length cz3000006) t322 :: row (Kd.int .u8) 5 (.slice Az3000010 t320.length cz3000010) t320 :: row (Kd.int .u8) 5 (.slice Az3000009 t319.length cz3000009) t319 :: row (Kd.int .u8) 5 (.slice Az3000008 t318.length cz3000008) y3000008_100 :: row (Kd.int .u8) 5 (.slice Az3000007 t317.length cz3000007) y3000007_100 :: L) w' S) ∧ Aside0 (Keep S w w'))
        case atStart => exact ⟨(t318), (t317), (0), (by first | rfl | (simp; done) | (simp [*]; done)), H', ⟨Nat.le_refl _⟩, HS, HK⟩
        case round =>
          clear H' HS HK
          obtain ⟨y3000008_100, y3000007_100, x17_100, rfl, HA, HQ1, HS, HK⟩ := hrel
          cases gk with
          | zero => exact absurd HA.out (by simp [barrowlaw03_PackWrites.l100])
          | succ k1 =>
            have H := HA.out
            clear HA
            simp only [barrowlaw03_PackWrites.l100] at H
            by_cases c129 : x17_100 < (t317.length : Int)
            · rw [if_pos c129] at H
              have c129b0 : decide (x17_100 < (t317.length : Int)) = true := decide_eq_true c129
              clear c129
              by_cases c130 : x17_100 < (t316.length : Int)
              · rw [if_pos c130] at H
                have c130b0 : decide (x17_100 < (t316.length : Int)) = true := decide_eq_true c130
                clear c130
                by_cases c131 : 0 ≤ x17_100
                · rw [if_pos c131] at H
                  have c131b0 : decide (0 ≤ x17_100) = true := decide_eq_true c131
                  clear c131
                  replace H := Option.bind_eq_some_iff.1 H
                  obtain ⟨y336, hy3360, H⟩ := H
                  try dsimp only at H
                  have hy336 := Option.some.inj hy3360
                  clear hy3360
                  have Ny336 := Aside0.mk hy336
                  clear hy336
                  by_cases c132 : x17_100 < (t318.length : Int)
                  · rw [if_pos c132] at H
                    have c132b0 : decide (x17_100 < (t318.length : Int)) = true := decide_eq_true c132
                    clear c132
                    replace H := Option.bind_eq_some_iff.1 H
                    obtain ⟨y338, hy3380, H⟩ := H
                    try dsimp only at H
                    have hy338 := Option.some.inj hy3380
                    clear hy3380
                    have Ny338 := Aside0.mk hy338
                    clear hy338
                    have H' := Aside0.mk H
                    clear H
                    have pq335 : 0 ≤ (x17_100 : Int) := of_decide_eq_true (by first | (with_reducible assumption) | assumption)
                    have qq335 : x17_100 < ((t317.length : Int) : Int) := of_decide_eq_true (by first | (with_reducible assumption) | assumption)
                    obtain ⟨adq335, eq335, hxq335_0⟩ := Kd.at_int (SL.row_c (SL.get5 HS.out)).2.2 x17_100 pq335 qq335
                    cases eq335
                    replace pq335 := eq_true pq335
                    replace qq335 := eq_true qq335
                    go_wp2_with (first | ((with_reducible refine gate_store (t := 5) (p := 96) (v := (.const (.int .u8 99))) rfl ?_); refine wpList_plain rfl (fun K_ hK_ => ?_); refine op_set (S := S) (enc := Value.int .u8) (h1 := fun _ => rfl) 5 (.tmp 96) (.const (.int .u8 99)) rfl adq335 (x17_100) 99 (SL.get5 HS.out) (by rfl) rfl (by kernel_rfl) (of_decide_eq_true (by first | (with_reducible assumption) | assumption)) (of_decide_eq_true (by first | (with_reducible assumption) | assumption)) y336 Ny336.out ?_; intro w133 hs_ hk_; refine hK_ _ _ ?_; clear hK_ K_; replace HS := Aside0.mk ((SL.back5 (show SL (row (Kd.int .u8) 5 (.slice (some adq335) t317.length cz3000007) y336 :: _) _ _ from hs_))); replace HK := Aside0.mk (HK.out.trans hk_); have pq337 : 0 ≤ (x17_100 : Int) := of_decide_eq_true (by first | (with_reducible assumption) | assumption); have qq337 : x17_100 < ((t318.length : Int) : Int) := of_decide_eq_true (by first | (with_reducible assumption) | assumption); obtain ⟨adq337, eq337, hxq337_0⟩ := Kd.at_int (SL.row_c (SL.get4 HS.out)).2.2 x17_100 pq337 qq337; cases eq337; replace pq337 := eq_true pq337; replace qq337 := eq_true qq337) | ((with_reducible refine gate_store (t := 5) (p := 99) (v := (.const (.int .u8 99))) rfl ?_); refine wpList_plain rfl (fun K_ hK_ => ?_); refine op_set (S := S) (enc := Value.int .u8) (h1 := fun _ => rfl) 5 (.tmp 99) (.const (.int .u8 99)) rfl adq337 (x17_100) 99 (SL.get4 HS.out) (by rfl) rfl (by kernel_rfl) (of_decide_eq_true (by first | (with_reducible assumption) | assumption)) (of_decide_eq_true (by first | (with_reducible assumption) | assumption)) y338 Ny338.out ?_; intro w134 hs_ hk_; refine hK_ _ _ ?_; clear hK_ K_; replace HS := Aside0.mk ((SL.back4 (show SL (row (Kd.int .u8) 5 (.slice (some adq337) t318.length cz3000008) y338 :: _) _ _ from hs_))); replace HK := Aside0.mk (HK.out.trans hk_)))
                    go_roundg k1
                    case measure => have := HQ1.out; omega
                    case rel => exact ⟨(y338), (y336), (wrap64 (x17_100 + 1)), (by first | rfl | (simp; done) | (simp [*]; done)), H', ⟨by have := HQ1.out; omega⟩, HS, HK⟩
                  · rw [if_neg c132] at H
                    exact absurd H (by simp)
                · rw [if_neg c131] at H
                  exact absurd H (by simp)
              · rw [if_neg c130] at H
                have c130b0 : decide (x17_100 < (t316.length : Int)) = false := decide_eq_false c130
                clear c130
                by_cases c135 : t315 = true
                · subst c135
                  rw [if_pos rfl] at H
                  exact absurd H (by simp)
                · replace c135 := Bool.eq_false_iff.mpr c135
                  subst c135
                  rw [if_neg (show ¬ (false = true) by decide)] at H
                  exact absurd H (by simp)
            · rw [if_neg c129] at H
              have c129b0 : decide (x17_100 < (t317.length : Int)) = false := decide_eq_false c129
              clear c129
              by_cases c136 : t315 = true
              · subst c136
                rw [if_pos rfl] at H
                exact absurd H (by simp)
              · replace c136 := Bool.eq_false_iff.mpr c136
                subst c136
                rw [if_neg (show ¬ (false = true) by decide)] at H
                exact absurd H (by simp)
theorem barrowlaw03_PackWrites.calls (k : Nat) (A0 : Option Addr) (c0 : Nat) (l0 : List Int) (a1 : Int) (a2 : ByteArray) (A3 : Option Addr) (c3 : Nat) (l3 : List Int) (r : Bool) (w : World) (hr0 : Kd.C (Kd.int .u8) w A0 l0.length l0) (hc0 : l0.length ≤ c0) (hr3 : Kd.C (Kd.int .i64) w A3 l3.length l3) (hc3 : l3.length ≤ c3) (h : barrowlaw03_PackWrites.f k l0 a1 a2 l3 = some r) :
    Calls Try.prog 4 #[.slice A0 l0.length c0, .int .i64 a1, .string a2, .slice A3 l3.length c3] w fun e w' => e = .returned (.bool r) ∧ Below w.heap.size w w' :=
  (barrowlaw03_PackWrites.slcalls k A0 c0 l0 a1 a2 A3 c3 l3 r (news w) [] w (fresh_news w) trivial (RO.top hr0) hc0 (RO.top hr3) hc3 h).mono fun _ _ h => ⟨h.1, h.2.2.to_below⟩

/-- THE ONE PURE STATEMENT of barrowlaw03_PackWrites. -/
def barrowlaw03_PackWrites.Pure : Prop := ∀ (l0 : List Int) (a1 : Int) (a2 : ByteArray) (l3 : List Int), (l0.length ≤ maxLen ∧ l0.length * 1 ≤ 140737488351232 ∧ ∀ x339_ ∈ l0, (Lit.int .u8 x339_).wf = true) → ((Lit.int .i64 a1).wf = true) → (a2.size ≤ 140737488351232) → (l3.length ≤ maxLen ∧ l3.length * 8 ≤ 140737488351232 ∧ ∀ x340_ ∈ l3, (Lit.int .i64 x340_).wf = true) → ∃ k, barrowlaw03_PackWrites.f k l0 a1 a2 l3 = some true

end Go.Proofs.Ytkidppjaclgkkaa.XPW
