-- Written by xprint.py (a program of this session) for this claim
import Derived.Test.YtdpeflbdoaccbaaSL5
import Derived.Test.YtdpeflbdoaccbaaXCXx0
import Derived.Test.YtdpeflbdoaccbaaXCXx6
import Derived.Test.YtdpeflbdoaccbaaXCXx8
import Derived.Test.YtdpeflbdoaccbaaXCXx9
namespace Go.Proofs.Ytdpeflbdoaccbaa.XCX
open Go.Proofs.YtdpeflbdoaccbaaV Go.Proofs.YtdpeflbdoaccbaaS
open Go.RowKit Go.Proofs.YtdpeflbdoaccbaaW.PrintWords Go.Proofs.YtdpeflbdoaccbaaW.PrintLast Go.Proofs.YtdpeflbdoaccbaaW.PrintMore
attribute [local go_sem] max2_int min2_int max_two min_two max_three min_three max_four min_four   -- for this text's walks alone
set_option linter.unusedVariables false
set_option linter.unusedSimpArgs false

/-! ### barrowlaw38_ChatCuts: function 6 -/
mutual
noncomputable def barrowlaw38_ChatCuts.l0 : Nat → ByteArray → Int → (List (S44)) → Int → Int → Bool → (List ByteArray) → ByteArray → Int → Option (Bool)
  | 0, _, _, _, _, _, _, _, _, _ => none
  | k + 1, a0, a1, l2, a3, a4, t294, t295, x13_0, x14_0 => if x14_0 < (t295.length : Int) then (if 0 ≤ x14_0 then (if ((rdOf ByteArray.empty t295 x14_0).size : Int) < 1 then (none) else (if ((rdOf ByteArray.empty t295 x14_0).size : Int) > a1 then (none) else (if x13_0.size + (rdOf ByteArray.empty t295 x14_0).size ≤ 9223372036854775807 then (barrowlaw38_ChatCuts.l0 k a0 a1 l2 a3 a4 t294 t295 (x13_0 ++ (rdOf ByteArray.empty t295 x14_0)) (wrap64 (x14_0 + 1))) else (none)))) else (none)) else (if a1 ≥ 1 then (if x13_0.toList = a0.toList then (if a1 < 1 then (barrowlaw38_ChatCuts.l199 k l2 a3 a4 t294 (decide ((t295.length : Int) > 0))) else (barrowlaw38_ChatCuts.l199 k l2 a3 a4 t294 false)) else (none)) else (if a1 < 1 then (barrowlaw38_ChatCuts.l199 k l2 a3 a4 t294 (decide ((t295.length : Int) > 0))) else (barrowlaw38_ChatCuts.l199 k l2 a3 a4 t294 false)))
noncomputable def barrowlaw38_ChatCuts.l199 : Nat → (List (S44)) → Int → Int → Bool → Bool → Option (Bool)
  | 0, _, _, _, _, _ => none
  | k + 1, l2, a3, a4, t294, x73_199 => if x73_199 = true then (none) else ((chat_Hear.f k l2 ([] : List (S71)) ([] : List (S46)) a3 a4 0 3).bind fun t301 => (if (t301.length : Int) = 0 then (barrowlaw38_ChatCuts.l1 k a4 t294 t301 true 0) else (barrowlaw38_ChatCuts.l1 k a4 t294 t301 false 0)))
noncomputable def barrowlaw38_ChatCuts.l1 : Nat → Int → Bool → (List Int) → Bool → Int → Option (Bool)
  | 0, _, _, _, _, _ => none
  | k + 1, a4, t294, t301, x16_1, x17_1 => if x17_1 < (t301.length : Int) then (if x16_1 = true then (barrowlaw38_ChatCuts.l299 k a4 t294 t301 x17_1 true) else (if 0 ≤ x17_1 then (if (rd t301 x17_1) = a4 then (barrowlaw38_ChatCuts.l299 k a4 t294 t301 x17_1 true) else (barrowlaw38_ChatCuts.l299 k a4 t294 t301 x17_1 false)) else (none))) else (if t294 = true then (some x16_1) else (none))
noncomputable def barrowlaw38_ChatCuts.l299 : Nat → Int → Bool → (List Int) → Int → Bool → Option (Bool)
  | 0, _, _, _, _, _ => none
  | k + 1, a4, t294, t301, x17_1, x16_299 => if x17_1 > 0 then (if 0 ≤ x17_1 then ((some (wrap64 (x17_1 - 1) : Int)).bind fun j304 => (if 0 ≤ j304 then (if j304 < (t301.length : Int) then (barrowlaw38_ChatCuts.l399 k a4 t294 t301 x17_1 x16_299 (decide ((rd t301 x17_1) ≤ (rd t301 j304)))) else (none)) else (none))) else (none)) else (barrowlaw38_ChatCuts.l399 k a4 t294 t301 x17_1 x16_299 false)
noncomputable def barrowlaw38_ChatCuts.l399 : Nat → Int → Bool → (List Int) → Int → Bool → Bool → Option (Bool)
  | 0, _, _, _, _, _, _ => none
  | k + 1, a4, t294, t301, x17_1, x16_299, x109_399 => if x109_399 = true then (none) else (barrowlaw38_ChatCuts.l1 k a4 t294 t301 x16_299 (wrap64 (x17_1 + 1)))
end
noncomputable def barrowlaw38_ChatCuts.f (k : Nat) (a0 : ByteArray) (a1 : Int) (l2 : List (S44)) (a3 : Int) (a4 : Int) : Option (Bool) := (barrowlaw38_small.f k).bind fun t294 => (if (a0.size : Int) > 1024 then (some t294) else (if (l2.length : Int) > 60 then (some t294) else ((chat_Cut.f k a0 a1).bind fun t295 => (barrowlaw38_ChatCuts.l0 k a0 a1 l2 a3 a4 t294 t295 (⟨#[]⟩ : ByteArray) 0))))
theorem barrowlaw38_ChatCuts.mono_l : ∀ k, (∀ y0 y1 y2 y3 y4 y5 y6 y7 y8, LeO (barrowlaw38_ChatCuts.l0 k y0 y1 y2 y3 y4 y5 y6 y7 y8) (barrowlaw38_ChatCuts.l0 (k + 1) y0 y1 y2 y3 y4 y5 y6 y7 y8)) ∧ (∀ y0 y1 y2 y3 y4, LeO (barrowlaw38_ChatCuts.l199 k y0 y1 y2 y3 y4) (barrowlaw38_ChatCuts.l199 (k + 1) y0 y1 y2 y3 y4)) ∧ (∀ y0 y1 y2 y3 y4, LeO (barrowlaw38_ChatCuts.l1 k y0 y1 y2 y3 y4) (barrowlaw38_ChatCuts.l1 (k + 1) y0 y1 y2 y3 y4)) ∧ (∀ y0 y1 y2 y3 y4, LeO (barrowlaw38_ChatCuts.l299 k y0 y1 y2 y3 y4) (barrowlaw38_ChatCuts.l299 (k + 1) y0 y1 y2 y3 y4)) ∧ (∀ y0 y1 y2 y3 y4 y5, LeO (barrowlaw38_ChatCuts.l399 k y0 y1 y2 y3 y4 y5) (barrowlaw38_ChatCuts.l399 (k + 1) y0 y1 y2 y3 y4 y5))
  | 0 => ⟨fun _ _ _ _ _ _ _ _ _ r h => by simp [barrowlaw38_ChatCuts.l0] at h, fun _ _ _ _ _ r h => by simp [barrowlaw38_ChatCuts.l199] at h, fun _ _ _ _ _ r h => by simp [barrowlaw38_ChatCuts.l1] at h, fun _ _ _ _ _ r h => by simp [barrowlaw38_ChatCuts.l299] at h, fun _ _ _ _ _ _ r h => by simp [barrowlaw38_ChatCuts.l399] at h⟩
  | k + 1 => by
    obtain ⟨ih0, ih1, ih2, ih3, ih4⟩ := barrowlaw38_ChatCuts.mono_l k
    refine ⟨?_, ?_, ?_, ?_, ?_⟩
    · intro y0 y1 y2 y3 y4 y5 y6 y7 y8
      unfold barrowlaw38_ChatCuts.l0
      repeat' first
      | (with_reducible exact ih0 _ _ _ _ _ _ _ _ _)
      | (with_reducible exact ih1 _ _ _ _ _)
      | (with_reducible exact ih2 _ _ _ _ _)
      | (with_reducible exact ih3 _ _ _ _ _)
      | (with_reducible exact ih4 _ _ _ _ _ _)
      | (with_reducible exact barrowlaw38_small.mono _)
      | (with_reducible exact chat_Cut.mono _ _ _)
      | (with_reducible exact chat_Hear.mono _ _ _ _ _ _ _ _)
      | (with_reducible exact LeO.refl _)
      | (with_reducible exact LeO.none _)
      | (with_reducible refine LeO.ite ?_ ?_)
      | (with_reducible refine everyOf_le (fun _ => ?_))
      | (with_reducible refine LeO.bind ?_ (fun _ => ?_))
      | exact ih0 _ _ _ _ _ _ _ _ _
      | exact ih1 _ _ _ _ _
      | exact ih2 _ _ _ _ _
      | exact ih3 _ _ _ _ _
      | exact ih4 _ _ _ _ _ _
      | exact barrowlaw38_small.mono _
      | exact chat_Cut.mono _ _ _
      | exact chat_Hear.mono _ _ _ _ _ _ _ _
      | exact LeO.none _
      | refine LeO.ite ?_ ?_
      | refine LeO.bind ?_ (fun _ => ?_)
    · intro y0 y1 y2 y3 y4
      unfold barrowlaw38_ChatCuts.l199
      repeat' first
      | (with_reducible exact ih0 _ _ _ _ _ _ _ _ _)
      | (with_reducible exact ih1 _ _ _ _ _)
      | (with_reducible exact ih2 _ _ _ _ _)
      | (with_reducible exact ih3 _ _ _ _ _)
      | (with_reducible exact ih4 _ _ _ _ _ _)
      | (with_reducible exact barrowlaw38_small.mono _)
      | (with_reducible exact chat_Cut.mono _ _ _)
      | (with_reducible exact chat_Hear.mono _ _ _ _ _ _ _ _)
      | (with_reducible exact LeO.refl _)
      | (with_reducible exact LeO.none _)
      | (with_reducible refine LeO.ite ?_ ?_)
      | (with_reducible refine everyOf_le (fun _ => ?_))
      | (with_reducible refine LeO.bind ?_ (fun _ => ?_))
      | exact ih0 _ _ _ _ _ _ _ _ _
      | exact ih1 _ _ _ _ _
      | exact ih2 _ _ _ _ _
      | exact ih3 _ _ _ _ _
      | exact ih4 _ _ _ _ _ _
      | exact barrowlaw38_small.mono _
      | exact chat_Cut.mono _ _ _
      | exact chat_Hear.mono _ _ _ _ _ _ _ _
      | exact LeO.none _
      | refine LeO.ite ?_ ?_
      | refine LeO.bind ?_ (fun _ => ?_)
    · intro y0 y1 y2 y3 y4
      unfold barrowlaw38_ChatCuts.l1
      repeat' first
      | (with_reducible exact ih0 _ _ _ _ _ _ _ _ _)
      | (with_reducible exact ih1 _ _ _ _ _)
      | (with_reducible exact ih2 _ _ _ _ _)
      | (with_reducible exact ih3 _ _ _ _ _)
      | (with_reducible exact ih4 _ _ _ _ _ _)
      | (with_reducible exact barrowlaw38_small.mono _)
      | (with_reducible exact chat_Cut.mono _ _ _)
      | (with_reducible exact chat_Hear.mono _ _ _ _ _ _ _ _)
      | (with_reducible exact LeO.refl _)
      | (with_reducible exact LeO.none _)
      | (with_reducible refine LeO.ite ?_ ?_)
      | (with_reducible refine everyOf_le (fun _ => ?_))
      | (with_reducible refine LeO.bind ?_ (fun _ => ?_))
      | exact ih0 _ _ _ _ _ _ _ _ _
      | exact ih1 _ _ _ _ _
      | exact ih2 _ _ _ _ _
      | exact ih3 _ _ _ _ _
      | exact ih4 _ _ _ _ _ _
      | exact barrowlaw38_small.mono _
      | exact chat_Cut.mono _ _ _
      | exact chat_Hear.mono _ _ _ _ _ _ _ _
      | exact LeO.none _
      | refine LeO.ite ?_ ?_
      | refine LeO.bind ?_ (fun _ => ?_)
    · intro y0 y1 y2 y3 y4
      unfold barrowlaw38_ChatCuts.l299
      repeat' first
      | (with_reducible exact ih0 _ _ _ _ _ _ _ _ _)
      | (with_reducible exact ih1 _ _ _ _ _)
      | (with_reducible exact ih2 _ _ _ _ _)
      | (with_reducible exact ih3 _ _ _ _ _)
      | (with_reducible exact ih4 _ _ _ _ _ _)
      | (with_reducible exact barrowlaw38_small.mono _)
      | (with_reducible exact chat_Cut.mono _ _ _)
      | (with_reducible exact chat_Hear.mono _ _ _ _ _ _ _ _)
      | (with_reducible exact LeO.refl _)
      | (with_reducible exact LeO.none _)
      | (with_reducible refine LeO.ite ?_ ?_)
      | (with_reducible refine everyOf_le (fun _ => ?_))
      | (with_reducible refine LeO.bind ?_ (fun _ => ?_))
      | exact ih0 _ _ _ _ _ _ _ _ _
      | exact ih1 _ _ _ _ _
      | exact ih2 _ _ _ _ _
      | exact ih3 _ _ _ _ _
      | exact ih4 _ _ _ _ _ _
      | exact barrowlaw38_small.mono _
      | exact chat_Cut.mono _ _ _
      | exact chat_Hear.mono _ _ _ _ _ _ _ _
      | exact LeO.none _
      | refine LeO.ite ?_ ?_
      | refine LeO.bind ?_ (fun _ => ?_)
    · intro y0 y1 y2 y3 y4 y5
      unfold barrowlaw38_ChatCuts.l399
      repeat' first
      | (with_reducible exact ih0 _ _ _ _ _ _ _ _ _)
      | (with_reducible exact ih1 _ _ _ _ _)
      | (with_reducible exact ih2 _ _ _ _ _)
      | (with_reducible exact ih3 _ _ _ _ _)
      | (with_reducible exact ih4 _ _ _ _ _ _)
      | (with_reducible exact barrowlaw38_small.mono _)
      | (with_reducible exact chat_Cut.mono _ _ _)
      | (with_reducible exact chat_Hear.mono _ _ _ _ _ _ _ _)
      | (with_reducible exact LeO.refl _)
      | (with_reducible exact LeO.none _)
      | (with_reducible refine LeO.ite ?_ ?_)
      | (with_reducible refine everyOf_le (fun _ => ?_))
      | (with_reducible refine LeO.bind ?_ (fun _ => ?_))
      | exact ih0 _ _ _ _ _ _ _ _ _
      | exact ih1 _ _ _ _ _
      | exact ih2 _ _ _ _ _
      | exact ih3 _ _ _ _ _
      | exact ih4 _ _ _ _ _ _
      | exact barrowlaw38_small.mono _
      | exact chat_Cut.mono _ _ _
      | exact chat_Hear.mono _ _ _ _ _ _ _ _
      | exact LeO.none _
      | refine LeO.ite ?_ ?_
      | refine LeO.bind ?_ (fun _ => ?_)
theorem barrowlaw38_ChatCuts.mono : ∀ a0 a1 a2 a3 a4 k, LeO (barrowlaw38_ChatCuts.f k a0 a1 a2 a3 a4) (barrowlaw38_ChatCuts.f (k + 1) a0 a1 a2 a3 a4) := by
  intro a0 a1 a2 a3 a4 k
  obtain ⟨ih0, ih1, ih2, ih3, ih4⟩ := barrowlaw38_ChatCuts.mono_l k
  unfold barrowlaw38_ChatCuts.f
  repeat' first
      | (with_reducible exact ih0 _ _ _ _ _ _ _ _ _)
      | (with_reducible exact ih1 _ _ _ _ _)
      | (with_reducible exact ih2 _ _ _ _ _)
      | (with_reducible exact ih3 _ _ _ _ _)
      | (with_reducible exact ih4 _ _ _ _ _ _)
      | (with_reducible exact barrowlaw38_small.mono _)
      | (with_reducible exact chat_Cut.mono _ _ _)
      | (with_reducible exact chat_Hear.mono _ _ _ _ _ _ _ _)
      | (with_reducible exact LeO.refl _)
      | (with_reducible exact LeO.none _)
      | (with_reducible refine LeO.ite ?_ ?_)
      | (with_reducible refine everyOf_le (fun _ => ?_))
      | (with_reducible refine LeO.bind ?_ (fun _ => ?_))
      | exact ih0 _ _ _ _ _ _ _ _ _
      | exact ih1 _ _ _ _ _
      | exact ih2 _ _ _ _ _
      | exact ih3 _ _ _ _ _
      | exact ih4 _ _ _ _ _ _
      | exact barrowlaw38_small.mono _
      | exact chat_Cut.mono _ _ _
      | exact chat_Hear.mono _ _ _ _ _ _ _ _
      | exact LeO.none _
      | refine LeO.ite ?_ ?_
      | refine LeO.bind ?_ (fun _ => ?_)
def barrowlaw38_ChatCuts.T20 : Bool × List (List Nat × List Nat) := (true, [([], []), ([0], [0]), ([1], [1]), ([2], [2]), ([2], [2]), ([3, 4, 2], [2, 3, 4]), ([5, 2], [2, 5]), ([2], [2]), ([2], [2]), ([8, 2], [2, 8]), ([7, 9, 2], [2, 7, 9]), ([10, 2], [2, 10]), ([6, 11, 2], [2, 6, 11]), ([2, 12], [2, 12])])
def barrowlaw38_ChatCuts.B20 : List Nat := [0, 1, 3, 7, 7, 31, 63, 7, 7, 263, 903, 1927, 4095, 8191]
theorem barrowlaw38_ChatCuts.tab20 : rtab .any (opsOf Try.f6 20) = barrowlaw38_ChatCuts.T20 := by kernel_rfl
theorem barrowlaw38_ChatCuts.bits20 : waitsOk barrowlaw38_ChatCuts.T20.2 barrowlaw38_ChatCuts.B20 = true := by kernel_rfl
def barrowlaw38_ChatCuts.Post (r : Bool) (S : Nat → Prop) (L : List Asr) (w : World) (e : Ending) (w' : World) : Prop := e = .returned (.bool r) ∧ SL (L) w' S ∧ Keep S w w'
set_option maxHeartbeats 8000000 in
set_option maxRecDepth 100000 in
theorem barrowlaw38_ChatCuts.slcalls (k : Nat) (a0 : ByteArray) (a1 : Int) (A2 : Option Addr) (c2 : Nat) (l2 : List (S44)) (a3 : Int) (a4 : Int) (r : Bool) (S : Nat → Prop) (L : List Asr) (w : World) (hf : Fresh S w) (hs : SL (L) w S) (hr2 : RO S w (fun w_ => Kd.C k44 w_ A2 l2.length l2)) (hc2 : l2.length ≤ c2) (h : barrowlaw38_ChatCuts.f k a0 a1 l2 a3 a4 = some r) :
    Calls Try.prog 6 #[.string a0, .int .i64 a1, .slice A2 l2.length c2, .int .i64 a3, .int .i64 a4] w (barrowlaw38_ChatCuts.Post r S L w) := by
  have HR2 := Aside0.mk hr2
  have HC2 := Aside0.mk hc2
  clear hr2 hc2
  have HF := Aside0.mk hf
  have HS := Aside0.mk hs
  have HK := Aside0.mk (Keep.refl S w)
  clear hf hs
  have H : ((barrowlaw38_small.f k).bind fun t294 => (if (a0.size : Int) > 1024 then (some t294) else (if (l2.length : Int) > 60 then (some t294) else ((chat_Cut.f k a0 a1).bind fun t295 => (barrowlaw38_ChatCuts.l0 k a0 a1 l2 a3 a4 t294 t295 (⟨#[]⟩ : ByteArray) 0))))) = some r := h
  clear h
  replace H := Option.bind_eq_some_iff.1 H
  obtain ⟨t294, Hc10, H⟩ := H
  try dsimp only at H
  have Hc1 := Aside0.mk Hc10
  clear Hc10
  by_cases c2 : (a0.size : Int) > 1024
  · rw [if_pos c2] at H
    have c2b0 : decide (1024 < (a0.size : Int)) = true := decide_eq_true c2
    have c2b1 : decide (1024 < a0.size) = true := decide_eq_true (by omega)
    clear c2
    obtain rfl := Option.some.inj H
    go_enter Try.func6, Try.ntmps6
    go_wp2_with (first | ((with_reducible refine gate_dst (N := 18) rfl ?_); refine goesL_ (some 18) rfl rfl Try.func7 (by kernel_rfl) rfl #[] rfl (by (try simp only [List.map_toArray, List.map_cons, List.map_nil]); first | done | rfl | (simp; done)) ?_; (with_reducible refine (barrowlaw38_small.calls k _ _  Hc1.out).mono ?_); rintro e_ w3 ⟨rfl, hb_⟩; refine ⟨_, rfl, ?_⟩; replace HS := Aside0.mk (HS.out.below hb_); replace HK := Aside0.mk (HK.out.trans (Keep.below hb_))))
    go_ret
    unfold barrowlaw38_ChatCuts.Post
    exact ⟨by first | rfl | (simp; done) | (simp [*]; done) | (simp at c2b0 ⊢; first | exact c2b0 | (simp [c2b0]; done)), HS.out, HK.out⟩
  · rw [if_neg c2] at H
    have c2b0 : decide (1024 < (a0.size : Int)) = false := decide_eq_false c2
    have c2b1 : decide (1024 < a0.size) = false := decide_eq_false (by omega)
    clear c2
    by_cases c4 : (l2.length : Int) > 60
    · rw [if_pos c4] at H
      have c4b0 : decide (60 < (l2.length : Int)) = true := decide_eq_true c4
      have c4b1 : decide (60 < l2.length) = true := decide_eq_true (by omega)
      clear c4
      obtain rfl := Option.some.inj H
      go_enter Try.func6, Try.ntmps6
      go_wp2_with (first | ((with_reducible refine gate_dst (N := 18) rfl ?_); refine goesL_ (some 18) rfl rfl Try.func7 (by kernel_rfl) rfl #[] rfl (by (try simp only [List.map_toArray, List.map_cons, List.map_nil]); first | done | rfl | (simp; done)) ?_; (with_reducible refine (barrowlaw38_small.calls k _ _  Hc1.out).mono ?_); rintro e_ w5 ⟨rfl, hb_⟩; refine ⟨_, rfl, ?_⟩; replace HS := Aside0.mk (HS.out.below hb_); replace HK := Aside0.mk (HK.out.trans (Keep.below hb_))))
      go_ret
      unfold barrowlaw38_ChatCuts.Post
      exact ⟨by first | rfl | (simp; done) | (simp [*]; done) | (simp at c4b0 ⊢; first | exact c4b0 | (simp [c4b0]; done)), HS.out, HK.out⟩
    · rw [if_neg c4] at H
      have c4b0 : decide (60 < (l2.length : Int)) = false := decide_eq_false c4
      have c4b1 : decide (60 < l2.length) = false := decide_eq_false (by omega)
      clear c4
      replace H := Option.bind_eq_some_iff.1 H
      obtain ⟨t295, Hc60, H⟩ := H
      try dsimp only at H
      have Hc6 := Aside0.mk Hc60
      clear Hc60
      have H' := Aside0.mk H
      clear H
      go_enter Try.func6, Try.ntmps6
      go_wp2_with (first | ((with_reducible refine gate_dst (N := 18) rfl ?_); refine goesL_ (some 18) rfl rfl Try.func7 (by kernel_rfl) rfl #[] rfl (by (try simp only [List.map_toArray, List.map_cons, List.map_nil]); first | done | rfl | (simp; done)) ?_; (with_reducible refine (barrowlaw38_small.calls k _ _  Hc1.out).mono ?_); rintro e_ w7 ⟨rfl, hb_⟩; refine ⟨_, rfl, ?_⟩; replace HS := Aside0.mk (HS.out.below hb_); replace HK := Aside0.mk (HK.out.trans (Keep.below hb_))) | ((with_reducible refine gate_dst (N := 30) rfl ?_); refine goesL_ (some 30) rfl rfl Try.func21 (by kernel_rfl) rfl #[.string a0, .int .i64 a1] rfl (by (try simp only [List.map_toArray, List.map_cons, List.map_nil]); first | done | rfl | (simp; done)) ?_; (with_reducible refine (chat_Cut.calls k _ _ _ _  Hc6.out).mono ?_); rintro e_ w8 ⟨v3000039_, rfl, ho3000039_, hb_⟩; refine ⟨_, rfl, ?_⟩; have hs_ := (SL.new (HF.out.keep HK.out) HS.out hb_ (row_of_R ho3000039_)).1; obtain ⟨Az3000039, cz3000039, e2_, _, _⟩ := SL.row_reads hs_; subst e2_; replace HS := Aside0.mk (hs_); replace HK := Aside0.mk (HK.out.trans (Keep.below hb_))))
      try go_simp
      go_loopg [13, 14] k (fun kq v13 v14 w' => ∃ (x13_0 : ByteArray) (x14_0 : Int), v13 = .string x13_0 ∧ v14 = .int .i64 x14_0 ∧ Aside0 (barrowlaw38_ChatCuts.l0 kq a0 a1 l2 a3 a4 t294 t295 x13_0 x14_0 = some r) ∧ Aside0 (kq ≤ k) ∧ Aside0 (SL (row Kd.string 9 (.slice Az3000039 t295.length cz3000039) t295 :: L) w' S) ∧ Aside0 (Keep S w w'))
      case atStart => exact ⟨((⟨#[]⟩ : ByteArray)), (0), (by first | rfl | (simp; done) | (simp [*]; done)), (by first | rfl | (simp; done) | (simp [*]; done)), H', ⟨Nat.le_refl _⟩, HS, HK⟩
      case round =>
        clear H' HS HK
        obtain ⟨x13_0, x14_0, rfl, rfl, HA, HQ1, HS, HK⟩ := hrel
        cases gk with
        | zero => exact absurd HA.out (by simp [barrowlaw38_ChatCuts.l0])
        | succ k1 =>
          have H := HA.out
          clear HA
          simp only [barrowlaw38_ChatCuts.l0] at H
          by_cases c9 : x14_0 < (t295.length : Int)
          · rw [if_pos c9] at H
            have c9b0 : decide (x14_0 < (t295.length : Int)) = true := decide_eq_true c9
            clear c9
            by_cases c10 : 0 ≤ x14_0
            · rw [if_pos c10] at H
              have c10b0 : decide (0 ≤ x14_0) = true := decide_eq_true c10
              clear c10
              by_cases c11 : ((rdOf ByteArray.empty t295 x14_0).size : Int) < 1
              · rw [if_pos c11] at H
                exact absurd H (by simp)
              · rw [if_neg c11] at H
                have c11b0 : decide (((rdOf ByteArray.empty t295 x14_0).size : Int) < 1) = false := decide_eq_false c11
                have c11b1 : decide ((rdOf ByteArray.empty t295 x14_0).size < 1) = false := decide_eq_false (by omega)
                clear c11
                by_cases c12 : ((rdOf ByteArray.empty t295 x14_0).size : Int) > a1
                · rw [if_pos c12] at H
                  exact absurd H (by simp)
                · rw [if_neg c12] at H
                  have c12b0 : decide (a1 < ((rdOf ByteArray.empty t295 x14_0).size : Int)) = false := decide_eq_false c12
                  clear c12
                  by_cases c13 : x13_0.size + (rdOf ByteArray.empty t295 x14_0).size ≤ 9223372036854775807
                  · rw [if_pos c13] at H
                    have c13b0 := eq_true c13
                    have c13b1 : decide (x13_0.size + (rdOf ByteArray.empty t295 x14_0).size ≤ 9223372036854775807) = true := decide_eq_true c13
                    have c13b2 : (9223372036854775807 < x13_0.size + (rdOf ByteArray.empty t295 x14_0).size) = False := eq_false (Nat.not_lt.2 c13)
                    clear c13
                    have H' := Aside0.mk H
                    clear H
                    have pq298 : 0 ≤ (x14_0 : Int) := of_decide_eq_true (by first | (with_reducible assumption) | assumption)
                    have qq298 : x14_0 < ((t295.length : Int) : Int) := of_decide_eq_true (by first | (with_reducible assumption) | assumption)
                    obtain ⟨adq298, eq298, hxq298_0⟩ := Kd.at_string (SL.row_c HS.out).2.2 x14_0 pq298 qq298
                    cases eq298
                    replace pq298 := eq_true pq298
                    replace qq298 := eq_true qq298
                    go_wp2
                    go_roundg k1
                    case measure => have := HQ1.out; omega
                    case rel => exact ⟨(x13_0 ++ (rdOf ByteArray.empty t295 x14_0)), (wrap64 (x14_0 + 1)), (by first | rfl | (simp; done) | (simp [*]; done)), (by first | rfl | (simp; done) | (simp [*]; done)), H', ⟨by have := HQ1.out; omega⟩, HS, HK⟩
                  · rw [if_neg c13] at H
                    exact absurd H (by simp)
            · rw [if_neg c10] at H
              exact absurd H (by simp)
          · rw [if_neg c9] at H
            have c9b0 : decide (x14_0 < (t295.length : Int)) = false := decide_eq_false c9
            clear c9
            have H' := Aside0.mk H
            clear H
            try go_upto_region 12 with (fail)
            go_cut [73] (fun v73 wc => ∃ (kq : Nat) (x73_199 : Bool), v73 = .bool x73_199 ∧ Aside0 (barrowlaw38_ChatCuts.l199 kq l2 a3 a4 t294 x73_199 = some r) ∧ Aside0 (kq ≤ k1) ∧ Aside0 (SL (row Kd.string 9 (.slice Az3000039 t295.length cz3000039) t295 :: L) wc S) ∧ Aside0 (Keep S w wc))
            case first =>
              have H := H'.out
              clear H'
              by_cases c14 : a1 ≥ 1
              · rw [if_pos c14] at H
                have c14b0 : decide (1 ≤ a1) = true := decide_eq_true c14
                clear c14
                by_cases c15 : x13_0.toList = a0.toList
                · rw [if_pos c15] at H
                  have c15b0 : (x13_0.toList == a0.toList) = true := beq_iff_eq.mpr c15
                  have c15b1 : (x13_0.toList != a0.toList) = false := bne_eq_false_iff_eq.mpr c15
                  clear c15
                  by_cases c16 : a1 < 1
                  · rw [if_pos c16] at H
                    have c16b0 : decide (a1 < 1) = true := decide_eq_true c16
                    clear c16
                    have H' := Aside0.mk H
                    clear H
                    go_wp2
                    go_meet
                    case rel => exact ⟨k1, (decide ((t295.length : Int) > 0)), (by first | rfl | (simp; done) | (simp [*]; done)), H', ⟨by have := HQ1.out; omega⟩, HS, HK⟩
                  · rw [if_neg c16] at H
                    have c16b0 : decide (a1 < 1) = false := decide_eq_false c16
                    clear c16
                    have H' := Aside0.mk H
                    clear H
                    go_wp2
                    go_meet
                    case rel => exact ⟨k1, (false), (by first | rfl | (simp; done) | (simp [*]; done)), H', ⟨by have := HQ1.out; omega⟩, HS, HK⟩
                · rw [if_neg c15] at H
                  exact absurd H (by simp)
              · rw [if_neg c14] at H
                have c14b0 : decide (1 ≤ a1) = false := decide_eq_false c14
                clear c14
                by_cases c17 : a1 < 1
                · rw [if_pos c17] at H
                  have c17b0 : decide (a1 < 1) = true := decide_eq_true c17
                  clear c17
                  have H' := Aside0.mk H
                  clear H
                  go_wp2
                  go_meet
                  case rel => exact ⟨k1, (decide ((t295.length : Int) > 0)), (by first | rfl | (simp; done) | (simp [*]; done)), H', ⟨by have := HQ1.out; omega⟩, HS, HK⟩
                · rw [if_neg c17] at H
                  have c17b0 : decide (a1 < 1) = false := decide_eq_false c17
                  clear c17
                  have H' := Aside0.mk H
                  clear H
                  go_wp2
                  go_meet
                  case rel => exact ⟨k1, (false), (by first | rfl | (simp; done) | (simp [*]; done)), H', ⟨by have := HQ1.out; omega⟩, HS, HK⟩
            case rest =>
              clear H' HS HK
              obtain ⟨kq, x73_199, rfl, HA, HQ2, HS, HK⟩ := hcut
              cases kq with
              | zero => exact absurd HA.out (by simp [barrowlaw38_ChatCuts.l199])
              | succ k2 =>
                have H := HA.out
                clear HA
                simp only [barrowlaw38_ChatCuts.l199] at H
                by_cases c18 : x73_199 = true
                · subst c18
                  rw [if_pos rfl] at H
                  exact absurd H (by simp)
                · replace c18 := Bool.eq_false_iff.mpr c18
                  subst c18
                  rw [if_neg (show ¬ (false = true) by decide)] at H
                  replace H := Option.bind_eq_some_iff.1 H
                  obtain ⟨t301, Hc190, H⟩ := H
                  try dsimp only at H
                  have Hc19 := Aside0.mk Hc190
                  clear Hc190
                  by_cases c20 : (t301.length : Int) = 0
                  · rw [if_pos c20] at H
                    have c20b0 : ((t301.length : Int) == 0) = true := beq_iff_eq.mpr c20
                    have c20b1 : ((t301.length : Int) != 0) = false := bne_eq_false_iff_eq.mpr c20
                    clear c20
                    have H' := Aside0.mk H
                    clear H
                    go_wp2_with (first | ((with_reducible refine gate_dst (N := 77) rfl ?_); refine goesL_ (some 77) rfl rfl Try.func8 (by kernel_rfl) rfl #[.slice A2 l2.length c2, .slice none 0 0, .slice none 0 0, .int .i64 a3, .int .i64 a4, .int .i64 0, .int .i64 3] rfl (by (try simp only [List.map_toArray, List.map_cons, List.map_nil]); first | done | rfl | (simp; done)) ?_; have hs0_ := HS.out; (refine (chat_Hear.slcalls k2 _ _ _ _ _ _ _ _ _ _ _ _ _ _ _ _ _ (HF.out.keep HK.out) hs0_ (HR2.out.keep HK.out) HC2.out (fun w_ _ => Kd.C_nil _ _) (Nat.le_refl _) (fun w_ _ => Kd.C_nil _ _) (Nat.le_refl _) Hc19.out).mono ?_); rintro e_ w21 ⟨Az3000040, cz3000040, rfl, hsr_, hkr_⟩; refine ⟨_, rfl, ?_⟩; replace HS := Aside0.mk (hsr_); replace HK := Aside0.mk (HK.out.trans hkr_)))
                    try go_simp
                    go_loopg [16, 17] k2 (fun kq v16 v17 w' => ∃ (x16_1 : Bool) (x17_1 : Int), v16 = .bool x16_1 ∧ v17 = .int .i64 x17_1 ∧ Aside0 (barrowlaw38_ChatCuts.l1 kq a4 t294 t301 x16_1 x17_1 = some r) ∧ Aside0 (kq ≤ k2) ∧ Aside0 (SL (row (Kd.int .i64) 3 (.slice Az3000040 t301.length cz3000040) t301 :: row Kd.string 9 (.slice Az3000039 t295.length cz3000039) t295 :: L) w' S) ∧ Aside0 (Keep S w w'))
                    case atStart => exact ⟨(true), (0), (by first | rfl | (simp; done) | (simp [*]; done)), (by first | rfl | (simp; done) | (simp [*]; done)), H', ⟨Nat.le_refl _⟩, HS, HK⟩
                    case round =>
                      clear H' HS HK
                      obtain ⟨x16_1, x17_1, rfl, rfl, HA, HQ3, HS, HK⟩ := hrel
                      cases gk with
                      | zero => exact absurd HA.out (by simp [barrowlaw38_ChatCuts.l1])
                      | succ k3 =>
                        have H := HA.out
                        clear HA
                        simp only [barrowlaw38_ChatCuts.l1] at H
                        by_cases c22 : x17_1 < (t301.length : Int)
                        · rw [if_pos c22] at H
                          have c22b0 : decide (x17_1 < (t301.length : Int)) = true := decide_eq_true c22
                          clear c22
                          have H' := Aside0.mk H
                          clear H
                          try go_upto_region 19 with (fail)
                          go_cut [16] (fun v16 wc => ∃ (kq : Nat) (x16_299 : Bool), v16 = .bool x16_299 ∧ Aside0 (barrowlaw38_ChatCuts.l299 kq a4 t294 t301 x17_1 x16_299 = some r) ∧ Aside0 (kq ≤ k3) ∧ Aside0 (SL (row (Kd.int .i64) 3 (.slice Az3000040 t301.length cz3000040) t301 :: row Kd.string 9 (.slice Az3000039 t295.length cz3000039) t295 :: L) wc S) ∧ Aside0 (Keep S w wc))
                          case first =>
                            have H := H'.out
                            clear H'
                            by_cases c23 : x16_1 = true
                            · subst c23
                              rw [if_pos rfl] at H
                              have H' := Aside0.mk H
                              clear H
                              go_wp2
                              go_meet
                              case rel => exact ⟨k3, (true), (by first | rfl | (simp; done) | (simp [*]; done)), H', ⟨by have := HQ1.out; have := HQ2.out; have := HQ3.out; omega⟩, HS, HK⟩
                            · replace c23 := Bool.eq_false_iff.mpr c23
                              subst c23
                              rw [if_neg (show ¬ (false = true) by decide)] at H
                              by_cases c24 : 0 ≤ x17_1
                              · rw [if_pos c24] at H
                                have c24b0 : decide (0 ≤ x17_1) = true := decide_eq_true c24
                                clear c24
                                by_cases c25 : (rd t301 x17_1) = a4
                                · rw [if_pos c25] at H
                                  have c25b0 : ((rd t301 x17_1) == a4) = true := beq_iff_eq.mpr c25
                                  have c25b1 : ((rd t301 x17_1) != a4) = false := bne_eq_false_iff_eq.mpr c25
                                  clear c25
                                  have H' := Aside0.mk H
                                  clear H
                                  have pq302 : 0 ≤ (x17_1 : Int) := of_decide_eq_true (by first | (with_reducible assumption) | assumption)
                                  have qq302 : x17_1 < ((t301.length : Int) : Int) := of_decide_eq_true (by first | (with_reducible assumption) | assumption)
                                  obtain ⟨adq302, eq302, hxq302_0⟩ := Kd.at_int (SL.row_c HS.out).2.2 x17_1 pq302 qq302
                                  cases eq302
                                  replace pq302 := eq_true pq302
                                  replace qq302 := eq_true qq302
                                  go_wp2
                                  go_meet
                                  case rel => exact ⟨k3, (true), (by first | rfl | (simp; done) | (simp [*]; done)), H', ⟨by have := HQ1.out; have := HQ2.out; have := HQ3.out; omega⟩, HS, HK⟩
                                · rw [if_neg c25] at H
                                  have c25b0 : ((rd t301 x17_1) == a4) = false := beq_eq_false_iff_ne.mpr c25
                                  have c25b1 : ((rd t301 x17_1) != a4) = true := bne_iff_ne.mpr c25
                                  have H' := Aside0.mk H
                                  clear H
                                  have pq302 : 0 ≤ (x17_1 : Int) := of_decide_eq_true (by first | (with_reducible assumption) | assumption)
                                  have qq302 : x17_1 < ((t301.length : Int) : Int) := of_decide_eq_true (by first | (with_reducible assumption) | assumption)
                                  obtain ⟨adq302, eq302, hxq302_0⟩ := Kd.at_int (SL.row_c HS.out).2.2 x17_1 pq302 qq302
                                  cases eq302
                                  replace pq302 := eq_true pq302
                                  replace qq302 := eq_true qq302
                                  go_wp2
                                  go_meet
                                  case rel => exact ⟨k3, (false), (by first | rfl | (simp; done) | (simp [*]; done)), H', ⟨by have := HQ1.out; have := HQ2.out; have := HQ3.out; omega⟩, HS, HK⟩
                              · rw [if_neg c24] at H
                                exact absurd H (by simp)
                          case rest =>
                            clear H' HS HK
                            obtain ⟨kq, x16_299, rfl, HA, HQ4, HS, HK⟩ := hcut
                            cases kq with
                            | zero => exact absurd HA.out (by simp [barrowlaw38_ChatCuts.l299])
                            | succ k4 =>
                              have H := HA.out
                              clear HA
                              simp only [barrowlaw38_ChatCuts.l299] at H
                              have H' := Aside0.mk H
                              clear H
                              try go_upto_region 20 with (fail)
                              go_cut [109] (fun v109 wc => ∃ (kq : Nat) (x109_399 : Bool), v109 = .bool x109_399 ∧ Aside0 (barrowlaw38_ChatCuts.l399 kq a4 t294 t301 x17_1 x16_299 x109_399 = some r) ∧ Aside0 (kq ≤ k4) ∧ Aside0 (SL (row (Kd.int .i64) 3 (.slice Az3000040 t301.length cz3000040) t301 :: row Kd.string 9 (.slice Az3000039 t295.length cz3000039) t295 :: L) wc S) ∧ Aside0 (Keep S w wc))
                              case first =>
                                have H := H'.out
                                clear H'
                                by_cases c26 : x17_1 > 0
                                · rw [if_pos c26] at H
                                  have c26b0 : decide (0 < x17_1) = true := decide_eq_true c26
                                  clear c26
                                  by_cases c27 : 0 ≤ x17_1
                                  · rw [if_pos c27] at H
                                    have c27b0 : decide (0 ≤ x17_1) = true := decide_eq_true c27
                                    clear c27
                                    replace H := Option.bind_eq_some_iff.1 H
                                    obtain ⟨j304, hj3040, H⟩ := H
                                    try dsimp only at H
                                    have hj304 := Option.some.inj hj3040
                                    clear hj3040
                                    have hj304w : (IntKind.i64.wrap (x17_1 - 1)) = j304 := (i64_w _).trans hj304
                                    by_cases c28 : 0 ≤ j304
                                    · rw [if_pos c28] at H
                                      have c28b0 : decide (0 ≤ j304) = true := decide_eq_true c28
                                      clear c28
                                      by_cases c29 : j304 < (t301.length : Int)
                                      · rw [if_pos c29] at H
                                        have c29b0 : decide (j304 < (t301.length : Int)) = true := decide_eq_true c29
                                        clear c29
                                        have H' := Aside0.mk H
                                        clear H
                                        try go_wp2
                                        have pq303 : 0 ≤ (x17_1 : Int) := of_decide_eq_true (by first | (with_reducible assumption) | assumption)
                                        have qq303 : x17_1 < ((t301.length : Int) : Int) := of_decide_eq_true (by first | (with_reducible assumption) | assumption)
                                        obtain ⟨adq303, eq303, hxq303_0⟩ := Kd.at_int (SL.row_c HS.out).2.2 x17_1 pq303 qq303
                                        cases eq303
                                        replace pq303 := eq_true pq303
                                        replace qq303 := eq_true qq303
                                        have pq305 : 0 ≤ (j304 : Int) := of_decide_eq_true (by first | (with_reducible assumption) | assumption)
                                        have qq305 : j304 < ((t301.length : Int) : Int) := of_decide_eq_true (by first | (with_reducible assumption) | assumption)
                                        obtain ⟨adq305, eq305, hxq305_0⟩ := Kd.at_int (SL.row_c HS.out).2.2 j304 pq305 qq305
                                        obtain rfl : adq303 = adq305 := (by injection eq305)
                                        replace pq305 := eq_true pq305
                                        replace qq305 := eq_true qq305
                                        refine start_ (n := 14) (S := fun w' => w'.cell? (adq303.add x17_1.toNat) = some (.int .i64 (rd t301 x17_1)) ∧ w'.cell? (adq303.add j304.toNat) = some (.int .i64 (rd t301 j304))) (ds := []) #[false, false, false, false, false, false, false, false, false, false, false, false, false, false] (by kernel_rfl) rfl rfl ⟨(SL.cell_int HS.out x17_1 (of_eq_true pq303) (of_eq_true qq303)), (SL.cell_int HS.out j304 (of_eq_true pq305) (of_eq_true qq305))⟩ (fun hHeld => ?_); refine with_tabW barrowlaw38_ChatCuts.tab20 barrowlaw38_ChatCuts.bits20 (fun HT_ HW_ => ?_)
                                        replace HK := Aside0.mk (Keep.drew HK.out)
                                        replace HS := Aside0.mk (SL.drew HS.out)
                                        refine pure_ (i := 0) (N := some 96) (v := ?_) (a' := ?_) #[true, false, false, false, false, false, false, false, false, false, false, false, false, false] rfl rfl (any_of HT_.out (by kernel_rfl)) (fun _ _ _ h => h) (Or.inl ⟨by rfl, ?_⟩) ?_ ?_; rotate_left; · (intro w'; go_simp; with_reducible rfl)
                                        rotate_left; · (simp only [Act.put, sT, sZ, sS, i64_w, i32_w]; rfl)
                                        refine pure_ (i := 1) (N := some 97) (v := ?_) (a' := ?_) #[true, true, false, false, false, false, false, false, false, false, false, false, false, false] rfl rfl (any_of HT_.out (by kernel_rfl)) (fun _ _ _ h => h) (Or.inl ⟨by rfl, ?_⟩) ?_ ?_; rotate_left; · (intro w'; go_simp; with_reducible rfl)
                                        rotate_left; · (simp only [Act.put, sT, sZ, sS, i64_w, i32_w]; rfl)
                                        refine pure_ (i := 2) (N := some 98) (v := ?_) (a' := ?_) #[true, true, true, false, false, false, false, false, false, false, false, false, false, false] rfl rfl (any_of HT_.out (by kernel_rfl)) (fun _ _ _ h => h) (Or.inl ⟨by rfl, ?_⟩) ?_ ?_; rotate_left; · (intro w'; go_simp; with_reducible rfl)
                                        rotate_left; · (simp only [Act.put, sT, sZ, sS, i64_w, i32_w]; rfl)
                                        refine pure_ (i := 3) (N := some 99) (v := ?_) (a' := ?_) #[true, true, true, true, false, false, false, false, false, false, false, false, false, false] rfl rfl (any_of HT_.out (by kernel_rfl)) (fun _ _ _ h => h) (Or.inl ⟨by rfl, ?_⟩) ?_ ?_; rotate_left; · (intro w'; go_simp; with_reducible rfl)
                                        rotate_left; · (simp only [Act.put, sT, sZ, sS, i64_w, i32_w]; rfl)
                                        refine pure_ (i := 4) (N := some 100) (v := ?_) (a' := ?_) #[true, true, true, true, true, false, false, false, false, false, false, false, false, false] rfl rfl (any_of HT_.out (by kernel_rfl)) (fun _ _ _ h => h) (Or.inl ⟨by rfl, ?_⟩) ?_ ?_; rotate_left; · (intro w'; go_simp; with_reducible rfl)
                                        rotate_left; · (simp only [Act.put, sT, sZ, sS, i64_w, i32_w]; rfl)
                                        refine pure_ (i := 5) (N := some 101) (v := ?_) (a' := ?_) #[true, true, true, true, true, true, false, false, false, false, false, false, false, false] rfl rfl (any_of HT_.out (by kernel_rfl)) (fun _ _ _ h => h) (Or.inl ⟨by rfl, ?_⟩) ?_ ?_; rotate_left; · (intro w'; go_simp; with_reducible rfl)
                                        rotate_left; · (simp only [Act.put, sT, sZ, sS, i64_w, i32_w]; rfl)
                                        refine pure_ (i := 7) (N := some 103) (v := ?_) (a' := ?_) #[true, true, true, true, true, true, false, true, false, false, false, false, false, false] rfl rfl (any_of HT_.out (by kernel_rfl)) (fun _ _ _ h => h) (Or.inl ⟨by rfl, ?_⟩) ?_ ?_; rotate_left; · (intro w'; go_simp; with_reducible rfl)
                                        rotate_left; · (simp only [Act.put, sT, sZ, sS, i64_w, i32_w]; rfl)
                                        refine pure_ (i := 8) (N := some 104) (v := ?_) (a' := ?_) #[true, true, true, true, true, true, false, true, true, false, false, false, false, false] rfl rfl (any_of HT_.out (by kernel_rfl)) (fun _ _ _ h => h) (Or.inl ⟨by rfl, ?_⟩) ?_ ?_; rotate_left; · (intro w'; go_simp; with_reducible rfl)
                                        rotate_left; · (simp only [Act.put, sT, sZ, sS, i64_w, i32_w]; rfl)
                                        refine pure_ (i := 9) (N := some 105) (v := ?_) (a' := ?_) #[true, true, true, true, true, true, false, true, true, true, false, false, false, false] rfl rfl (any_of HT_.out (by kernel_rfl)) (fun _ _ _ h => h) (Or.inl ⟨by rfl, ?_⟩) ?_ ?_; rotate_left; · (intro w'; go_simp; with_reducible rfl)
                                        rotate_left; · (simp only [Act.put, sT, sZ, sS, i64_w, i32_w]; rfl)
                                        refine pure_ (i := 10) (N := some 106) (v := ?_) (a' := ?_) #[true, true, true, true, true, true, false, true, true, true, true, false, false, false] rfl rfl (any_of HT_.out (by kernel_rfl)) (fun _ _ _ h => h) (Or.inl ⟨by rfl, ?_⟩) ?_ ?_; rotate_left; · (intro w'; go_simp; with_reducible rfl)
                                        rotate_left; · (simp only [Act.put, sT, sZ, sS, i64_w, i32_w]; rfl)
                                        refine take_ (i := 6) (N := some 102) (v := ?_) (a' := ?_) #[true, true, true, true, true, true, true, true, true, true, true, false, false, false] rfl rfl (take_ofW HT_.out HW_.out (by kernel_rfl)) (fun _ _ _ h => h) (Or.inl ⟨by rfl, ?_⟩) hHeld ?_ ?_; rotate_left
                                        · rintro w' ⟨s0, s1⟩
                                          go_simp
                                          with_reducible rfl
                                        rotate_left; · (simp only [Act.put, sT, sZ, sS, i64_w, i32_w]; rfl)
                                        refine take_ (i := 11) (N := some 107) (v := ?_) (a' := ?_) #[true, true, true, true, true, true, true, true, true, true, true, true, false, false] rfl rfl (take_ofW HT_.out HW_.out (by kernel_rfl)) (fun _ _ _ h => h) (Or.inl ⟨by rfl, ?_⟩) hHeld ?_ ?_; rotate_left
                                        · rintro w' ⟨s0, s1⟩
                                          go_simp
                                          with_reducible rfl
                                        rotate_left; · (simp only [Act.put, sT, sZ, sS, i64_w, i32_w]; rfl)
                                        refine pure_ (i := 12) (N := some 108) (v := ?_) (a' := ?_) #[true, true, true, true, true, true, true, true, true, true, true, true, true, false] rfl rfl (any_of HT_.out (by kernel_rfl)) (fun _ _ _ h => h) (Or.inl ⟨by rfl, ?_⟩) ?_ ?_; rotate_left; · (intro w'; go_simp; with_reducible rfl)
                                        rotate_left; · (simp only [Act.put, sT, sZ, sS, i64_w, i32_w]; rfl)
                                        refine pure_ (i := 13) (N := some 109) (v := ?_) (a' := ?_) #[true, true, true, true, true, true, true, true, true, true, true, true, true, true] rfl rfl (any_of HT_.out (by kernel_rfl)) (fun _ _ _ h => h) (Or.inl ⟨by rfl, ?_⟩) ?_ ?_; rotate_left; · (intro w'; go_simp; with_reducible rfl)
                                        rotate_left; · (simp only [Act.put, sT, sZ, sS, i64_w, i32_w]; rfl)
                                        refine done_ (done_of HT_.out (by kernel_rfl)) ?_
                                        try go_wp2
                                        go_meet
                                        case rel => exact ⟨k4, (decide ((rd t301 x17_1) ≤ (rd t301 j304))), (by first | rfl | (simp; done) | (simp [*]; done)), H', ⟨by have := HQ1.out; have := HQ2.out; have := HQ3.out; have := HQ4.out; omega⟩, HS, HK⟩
                                      · rw [if_neg c29] at H
                                        exact absurd H (by simp)
                                    · rw [if_neg c28] at H
                                      exact absurd H (by simp)
                                  · rw [if_neg c27] at H
                                    exact absurd H (by simp)
                                · rw [if_neg c26] at H
                                  have c26b0 : decide (0 < x17_1) = false := decide_eq_false c26
                                  clear c26
                                  have H' := Aside0.mk H
                                  clear H
                                  try go_wp2
                                  refine start_ (n := 14) (S := fun w' => True) (ds := []) #[false, false, false, false, false, false, false, false, false, false, false, false, false, false] (by kernel_rfl) rfl rfl trivial (fun hHeld => ?_); refine with_tabW barrowlaw38_ChatCuts.tab20 barrowlaw38_ChatCuts.bits20 (fun HT_ HW_ => ?_)
                                  replace HK := Aside0.mk (Keep.drew HK.out)
                                  replace HS := Aside0.mk (SL.drew HS.out)
                                  refine pure_ (i := 0) (N := some 96) (v := ?_) (a' := ?_) #[true, false, false, false, false, false, false, false, false, false, false, false, false, false] rfl rfl (any_of HT_.out (by kernel_rfl)) (fun _ _ _ h => h) (Or.inl ⟨by rfl, ?_⟩) ?_ ?_; rotate_left; · (intro w'; go_simp; with_reducible rfl)
                                  rotate_left; · (simp only [Act.put, sT, sZ, sS, i64_w, i32_w]; rfl)
                                  refine pure_ (i := 1) (N := some 97) (v := ?_) (a' := ?_) #[true, true, false, false, false, false, false, false, false, false, false, false, false, false] rfl rfl (any_of HT_.out (by kernel_rfl)) (fun _ _ _ h => h) (Or.inl ⟨by rfl, ?_⟩) ?_ ?_; rotate_left; · (intro w'; go_simp; with_reducible rfl)
                                  rotate_left; · (simp only [Act.put, sT, sZ, sS, i64_w, i32_w]; rfl)
                                  refine pure_ (i := 2) (N := some 98) (v := ?_) (a' := ?_) #[true, true, true, false, false, false, false, false, false, false, false, false, false, false] rfl rfl (any_of HT_.out (by kernel_rfl)) (fun _ _ _ h => h) (Or.inl ⟨by rfl, ?_⟩) ?_ ?_; rotate_left; · (intro w'; go_simp; with_reducible rfl)
                                  rotate_left; · (simp only [Act.put, sT, sZ, sS, i64_w, i32_w]; rfl)
                                  refine pure_ (i := 3) (N := some 99) (v := undef) (a' := ?_) #[true, true, true, true, false, false, false, false, false, false, false, false, false, false] rfl rfl (any_of HT_.out (by kernel_rfl)) (fun _ _ _ h => h) (Or.inr ⟨by rfl, rfl⟩) ?_ ?_; rotate_left; · (simp only [Act.put, sT, sZ, sS, i64_w, i32_w]; rfl)
                                  refine pure_ (i := 4) (N := some 100) (v := undef) (a' := ?_) #[true, true, true, true, true, false, false, false, false, false, false, false, false, false] rfl rfl (any_of HT_.out (by kernel_rfl)) (fun _ _ _ h => h) (Or.inr ⟨by rfl, rfl⟩) ?_ ?_; rotate_left; · (simp only [Act.put, sT, sZ, sS, i64_w, i32_w]; rfl)
                                  refine pure_ (i := 5) (N := some 101) (v := undef) (a' := ?_) #[true, true, true, true, true, true, false, false, false, false, false, false, false, false] rfl rfl (any_of HT_.out (by kernel_rfl)) (fun _ _ _ h => h) (Or.inr ⟨by rfl, rfl⟩) ?_ ?_; rotate_left; · (simp only [Act.put, sT, sZ, sS, i64_w, i32_w]; rfl)
                                  refine pure_ (i := 6) (N := some 102) (v := undef) (a' := ?_) #[true, true, true, true, true, true, true, false, false, false, false, false, false, false] rfl rfl (any_of HT_.out (by kernel_rfl)) (fun _ _ _ h => h) (Or.inr ⟨by rfl, rfl⟩) ?_ ?_; rotate_left; · (simp only [Act.put, sT, sZ, sS, i64_w, i32_w]; rfl)
                                  refine pure_ (i := 7) (N := some 103) (v := undef) (a' := ?_) #[true, true, true, true, true, true, true, true, false, false, false, false, false, false] rfl rfl (any_of HT_.out (by kernel_rfl)) (fun _ _ _ h => h) (Or.inr ⟨by rfl, rfl⟩) ?_ ?_; rotate_left; · (simp only [Act.put, sT, sZ, sS, i64_w, i32_w]; rfl)
                                  refine pure_ (i := 8) (N := some 104) (v := undef) (a' := ?_) #[true, true, true, true, true, true, true, true, true, false, false, false, false, false] rfl rfl (any_of HT_.out (by kernel_rfl)) (fun _ _ _ h => h) (Or.inr ⟨by rfl, rfl⟩) ?_ ?_; rotate_left; · (simp only [Act.put, sT, sZ, sS, i64_w, i32_w]; rfl)
                                  refine pure_ (i := 9) (N := some 105) (v := undef) (a' := ?_) #[true, true, true, true, true, true, true, true, true, true, false, false, false, false] rfl rfl (any_of HT_.out (by kernel_rfl)) (fun _ _ _ h => h) (Or.inr ⟨by rfl, rfl⟩) ?_ ?_; rotate_left; · (simp only [Act.put, sT, sZ, sS, i64_w, i32_w]; rfl)
                                  refine pure_ (i := 10) (N := some 106) (v := undef) (a' := ?_) #[true, true, true, true, true, true, true, true, true, true, true, false, false, false] rfl rfl (any_of HT_.out (by kernel_rfl)) (fun _ _ _ h => h) (Or.inr ⟨by rfl, rfl⟩) ?_ ?_; rotate_left; · (simp only [Act.put, sT, sZ, sS, i64_w, i32_w]; rfl)
                                  refine pure_ (i := 11) (N := some 107) (v := undef) (a' := ?_) #[true, true, true, true, true, true, true, true, true, true, true, true, false, false] rfl rfl (any_of HT_.out (by kernel_rfl)) (fun _ _ _ h => h) (Or.inr ⟨by rfl, rfl⟩) ?_ ?_; rotate_left; · (simp only [Act.put, sT, sZ, sS, i64_w, i32_w]; rfl)
                                  refine pure_ (i := 12) (N := some 108) (v := undef) (a' := ?_) #[true, true, true, true, true, true, true, true, true, true, true, true, true, false] rfl rfl (any_of HT_.out (by kernel_rfl)) (fun _ _ _ h => h) (Or.inr ⟨by rfl, rfl⟩) ?_ ?_; rotate_left; · (simp only [Act.put, sT, sZ, sS, i64_w, i32_w]; rfl)
                                  refine pure_ (i := 13) (N := some 109) (v := ?_) (a' := ?_) #[true, true, true, true, true, true, true, true, true, true, true, true, true, true] rfl rfl (any_of HT_.out (by kernel_rfl)) (fun _ _ _ h => h) (Or.inl ⟨by rfl, ?_⟩) ?_ ?_; rotate_left; · (intro w'; go_simp; with_reducible rfl)
                                  rotate_left; · (simp only [Act.put, sT, sZ, sS, i64_w, i32_w]; rfl)
                                  refine done_ (done_of HT_.out (by kernel_rfl)) ?_
                                  try go_wp2
                                  go_meet
                                  case rel => exact ⟨k4, (false), (by first | rfl | (simp; done) | (simp [*]; done)), H', ⟨by have := HQ1.out; have := HQ2.out; have := HQ3.out; have := HQ4.out; omega⟩, HS, HK⟩
                              case rest =>
                                clear H' HS HK
                                obtain ⟨kq, x109_399, rfl, HA, HQ5, HS, HK⟩ := hcut
                                cases kq with
                                | zero => exact absurd HA.out (by simp [barrowlaw38_ChatCuts.l399])
                                | succ k5 =>
                                  have H := HA.out
                                  clear HA
                                  simp only [barrowlaw38_ChatCuts.l399] at H
                                  by_cases c30 : x109_399 = true
                                  · subst c30
                                    rw [if_pos rfl] at H
                                    exact absurd H (by simp)
                                  · replace c30 := Bool.eq_false_iff.mpr c30
                                    subst c30
                                    rw [if_neg (show ¬ (false = true) by decide)] at H
                                    have H' := Aside0.mk H
                                    clear H
                                    go_wp2
                                    go_roundg k5
                                    case measure => have := HQ1.out; have := HQ2.out; have := HQ3.out; have := HQ4.out; have := HQ5.out; omega
                                    case rel => exact ⟨(x16_299), (wrap64 (x17_1 + 1)), (by first | rfl | (simp; done) | (simp [*]; done)), (by first | rfl | (simp; done) | (simp [*]; done)), H', ⟨by have := HQ1.out; have := HQ2.out; have := HQ3.out; have := HQ4.out; have := HQ5.out; omega⟩, HS, HK⟩
                        · rw [if_neg c22] at H
                          have c22b0 : decide (x17_1 < (t301.length : Int)) = false := decide_eq_false c22
                          clear c22
                          by_cases c31 : t294 = true
                          · subst c31
                            rw [if_pos rfl] at H
                            obtain rfl := Option.some.inj H
                            go_wp2
                            go_ret
                            replace HS := Aside0.mk (SL.tail (SL.tail HS.out))
                            unfold barrowlaw38_ChatCuts.Post
                            exact ⟨by first | rfl | (simp; done) | (simp [*]; done) | (simp at c22b0 ⊢; first | exact c22b0 | (simp [c22b0]; done)), HS.out, HK.out⟩
                          · replace c31 := Bool.eq_false_iff.mpr c31
                            subst c31
                            rw [if_neg (show ¬ (false = true) by decide)] at H
                            exact absurd H (by simp)
                  · rw [if_neg c20] at H
                    have c20b0 : ((t301.length : Int) == 0) = false := beq_eq_false_iff_ne.mpr c20
                    have c20b1 : ((t301.length : Int) != 0) = true := bne_iff_ne.mpr c20
                    have c20b2 : ¬ (t301 = []) := fun h_ => c20 (by rw [h_]; rfl)
                    have H' := Aside0.mk H
                    clear H
                    go_wp2_with (first | ((with_reducible refine gate_dst (N := 77) rfl ?_); refine goesL_ (some 77) rfl rfl Try.func8 (by kernel_rfl) rfl #[.slice A2 l2.length c2, .slice none 0 0, .slice none 0 0, .int .i64 a3, .int .i64 a4, .int .i64 0, .int .i64 3] rfl (by (try simp only [List.map_toArray, List.map_cons, List.map_nil]); first | done | rfl | (simp; done)) ?_; have hs0_ := HS.out; (refine (chat_Hear.slcalls k2 _ _ _ _ _ _ _ _ _ _ _ _ _ _ _ _ _ (HF.out.keep HK.out) hs0_ (HR2.out.keep HK.out) HC2.out (fun w_ _ => Kd.C_nil _ _) (Nat.le_refl _) (fun w_ _ => Kd.C_nil _ _) (Nat.le_refl _) Hc19.out).mono ?_); rintro e_ w32 ⟨Az3000040, cz3000040, rfl, hsr_, hkr_⟩; refine ⟨_, rfl, ?_⟩; replace HS := Aside0.mk (hsr_); replace HK := Aside0.mk (HK.out.trans hkr_)))
                    try go_simp
                    go_loopg [16, 17] k2 (fun kq v16 v17 w' => ∃ (x16_1 : Bool) (x17_1 : Int), v16 = .bool x16_1 ∧ v17 = .int .i64 x17_1 ∧ Aside0 (barrowlaw38_ChatCuts.l1 kq a4 t294 t301 x16_1 x17_1 = some r) ∧ Aside0 (kq ≤ k2) ∧ Aside0 (SL (row (Kd.int .i64) 3 (.slice Az3000040 t301.length cz3000040) t301 :: row Kd.string 9 (.slice Az3000039 t295.length cz3000039) t295 :: L) w' S) ∧ Aside0 (Keep S w w'))
                    case atStart => exact ⟨(false), (0), (by first | rfl | (simp; done) | (simp [*]; done)), (by first | rfl | (simp; done) | (simp [*]; done)), H', ⟨Nat.le_refl _⟩, HS, HK⟩
                    case round =>
                      clear H' HS HK
                      obtain ⟨x16_1, x17_1, rfl, rfl, HA, HQ3, HS, HK⟩ := hrel
                      cases gk with
                      | zero => exact absurd HA.out (by simp [barrowlaw38_ChatCuts.l1])
                      | succ k3 =>
                        have H := HA.out
                        clear HA
                        simp only [barrowlaw38_ChatCuts.l1] at H
                        by_cases c33 : x17_1 < (t301.length : Int)
                        · rw [if_pos c33] at H
                          have c33b0 : decide (x17_1 < (t301.length : Int)) = true := decide_eq_true c33
                          clear c33
                          have H' := Aside0.mk H
                          clear H
                          try go_upto_region 19 with (fail)
                          go_cut [16] (fun v16 wc => ∃ (kq : Nat) (x16_299 : Bool), v16 = .bool x16_299 ∧ Aside0 (barrowlaw38_ChatCuts.l299 kq a4 t294 t301 x17_1 x16_299 = some r) ∧ Aside0 (kq ≤ k3) ∧ Aside0 (SL (row (Kd.int .i64) 3 (.slice Az3000040 t301.length cz3000040) t301 :: row Kd.string 9 (.slice Az3000039 t295.length cz3000039) t295 :: L) wc S) ∧ Aside0 (Keep S w wc))
                          case first =>
                            have H := H'.out
                            clear H'
                            by_cases c34 : x16_1 = true
                            · subst c34
                              rw [if_pos rfl] at H
                              have H' := Aside0.mk H
                              clear H
                              go_wp2
                              go_meet
                              case rel => exact ⟨k3, (true), (by first | rfl | (simp; done) | (simp [*]; done)), H', ⟨by have := HQ1.out; have := HQ2.out; have := HQ3.out; omega⟩, HS, HK⟩
                            · replace c34 := Bool.eq_false_iff.mpr c34
                              subst c34
                              rw [if_neg (show ¬ (false = true) by decide)] at H
                              by_cases c35 : 0 ≤ x17_1
                              · rw [if_pos c35] at H
                                have c35b0 : decide (0 ≤ x17_1) = true := decide_eq_true c35
                                clear c35
                                by_cases c36 : (rd t301 x17_1) = a4
                                · rw [if_pos c36] at H
                                  have c36b0 : ((rd t301 x17_1) == a4) = true := beq_iff_eq.mpr c36
                                  have c36b1 : ((rd t301 x17_1) != a4) = false := bne_eq_false_iff_eq.mpr c36
                                  clear c36
                                  have H' := Aside0.mk H
                                  clear H
                                  have pq302 : 0 ≤ (x17_1 : Int) := of_decide_eq_true (by first | (with_reducible assumption) | assumption)
                                  have qq302 : x17_1 < ((t301.length : Int) : Int) := of_decide_eq_true (by first | (with_reducible assumption) | assumption)
                                  obtain ⟨adq302, eq302, hxq302_0⟩ := Kd.at_int (SL.row_c HS.out).2.2 x17_1 pq302 qq302
                                  cases eq302
                                  replace pq302 := eq_true pq302
                                  replace qq302 := eq_true qq302
                                  go_wp2
                                  go_meet
                                  case rel => exact ⟨k3, (true), (by first | rfl | (simp; done) | (simp [*]; done)), H', ⟨by have := HQ1.out; have := HQ2.out; have := HQ3.out; omega⟩, HS, HK⟩
                                · rw [if_neg c36] at H
                                  have c36b0 : ((rd t301 x17_1) == a4) = false := beq_eq_false_iff_ne.mpr c36
                                  have c36b1 : ((rd t301 x17_1) != a4) = true := bne_iff_ne.mpr c36
                                  have H' := Aside0.mk H
                                  clear H
                                  have pq302 : 0 ≤ (x17_1 : Int) := of_decide_eq_true (by first | (with_reducible assumption) | assumption)
                                  have qq302 : x17_1 < ((t301.length : Int) : Int) := of_decide_eq_true (by first | (with_reducible assumption) | assumption)
                                  obtain ⟨adq302, eq302, hxq302_0⟩ := Kd.at_int (SL.row_c HS.out).2.2 x17_1 pq302 qq302
                                  cases eq302
                                  replace pq302 := eq_true pq302
                                  replace qq302 := eq_true qq302
                                  go_wp2
                                  go_meet
                                  case rel => exact ⟨k3, (false), (by first | rfl | (simp; done) | (simp [*]; done)), H', ⟨by have := HQ1.out; have := HQ2.out; have := HQ3.out; omega⟩, HS, HK⟩
                              · rw [if_neg c35] at H
                                exact absurd H (by simp)
                          case rest =>
                            clear H' HS HK
                            obtain ⟨kq, x16_299, rfl, HA, HQ4, HS, HK⟩ := hcut
                            cases kq with
                            | zero => exact absurd HA.out (by simp [barrowlaw38_ChatCuts.l299])
                            | succ k4 =>
                              have H := HA.out
                              clear HA
                              simp only [barrowlaw38_ChatCuts.l299] at H
                              have H' := Aside0.mk H
                              clear H
                              try go_upto_region 20 with (fail)
                              go_cut [109] (fun v109 wc => ∃ (kq : Nat) (x109_399 : Bool), v109 = .bool x109_399 ∧ Aside0 (barrowlaw38_ChatCuts.l399 kq a4 t294 t301 x17_1 x16_299 x109_399 = some r) ∧ Aside0 (kq ≤ k4) ∧ Aside0 (SL (row (Kd.int .i64) 3 (.slice Az3000040 t301.length cz3000040) t301 :: row Kd.string 9 (.slice Az3000039 t295.length cz3000039) t295 :: L) wc S) ∧ Aside0 (Keep S w wc))
                              case first =>
                                have H := H'.out
                                clear H'
                                by_cases c37 : x17_1 > 0
                                · rw [if_pos c37] at H
                                  have c37b0 : decide (0 < x17_1) = true := decide_eq_true c37
                                  clear c37
                                  by_cases c38 : 0 ≤ x17_1
                                  · rw [if_pos c38] at H
                                    have c38b0 : decide (0 ≤ x17_1) = true := decide_eq_true c38
                                    clear c38
                                    replace H := Option.bind_eq_some_iff.1 H
                                    obtain ⟨j304, hj3040, H⟩ := H
                                    try dsimp only at H
                                    have hj304 := Option.some.inj hj3040
                                    clear hj3040
                                    have hj304w : (IntKind.i64.wrap (x17_1 - 1)) = j304 := (i64_w _).trans hj304
                                    by_cases c39 : 0 ≤ j304
                                    · rw [if_pos c39] at H
                                      have c39b0 : decide (0 ≤ j304) = true := decide_eq_true c39
                                      clear c39
                                      by_cases c40 : j304 < (t301.length : Int)
                                      · rw [if_pos c40] at H
                                        have c40b0 : decide (j304 < (t301.length : Int)) = true := decide_eq_true c40
                                        clear c40
                                        have H' := Aside0.mk H
                                        clear H
                                        try go_wp2
                                        have pq303 : 0 ≤ (x17_1 : Int) := of_decide_eq_true (by first | (with_reducible assumption) | assumption)
                                        have qq303 : x17_1 < ((t301.length : Int) : Int) := of_decide_eq_true (by first | (with_reducible assumption) | assumption)
                                        obtain ⟨adq303, eq303, hxq303_0⟩ := Kd.at_int (SL.row_c HS.out).2.2 x17_1 pq303 qq303
                                        cases eq303
                                        replace pq303 := eq_true pq303
                                        replace qq303 := eq_true qq303
                                        have pq305 : 0 ≤ (j304 : Int) := of_decide_eq_true (by first | (with_reducible assumption) | assumption)
                                        have qq305 : j304 < ((t301.length : Int) : Int) := of_decide_eq_true (by first | (with_reducible assumption) | assumption)
                                        obtain ⟨adq305, eq305, hxq305_0⟩ := Kd.at_int (SL.row_c HS.out).2.2 j304 pq305 qq305
                                        obtain rfl : adq303 = adq305 := (by injection eq305)
                                        replace pq305 := eq_true pq305
                                        replace qq305 := eq_true qq305
                                        refine start_ (n := 14) (S := fun w' => w'.cell? (adq303.add x17_1.toNat) = some (.int .i64 (rd t301 x17_1)) ∧ w'.cell? (adq303.add j304.toNat) = some (.int .i64 (rd t301 j304))) (ds := []) #[false, false, false, false, false, false, false, false, false, false, false, false, false, false] (by kernel_rfl) rfl rfl ⟨(SL.cell_int HS.out x17_1 (of_eq_true pq303) (of_eq_true qq303)), (SL.cell_int HS.out j304 (of_eq_true pq305) (of_eq_true qq305))⟩ (fun hHeld => ?_); refine with_tabW barrowlaw38_ChatCuts.tab20 barrowlaw38_ChatCuts.bits20 (fun HT_ HW_ => ?_)
                                        replace HK := Aside0.mk (Keep.drew HK.out)
                                        replace HS := Aside0.mk (SL.drew HS.out)
                                        refine pure_ (i := 0) (N := some 96) (v := ?_) (a' := ?_) #[true, false, false, false, false, false, false, false, false, false, false, false, false, false] rfl rfl (any_of HT_.out (by kernel_rfl)) (fun _ _ _ h => h) (Or.inl ⟨by rfl, ?_⟩) ?_ ?_; rotate_left; · (intro w'; go_simp; with_reducible rfl)
                                        rotate_left; · (simp only [Act.put, sT, sZ, sS, i64_w, i32_w]; rfl)
                                        refine pure_ (i := 1) (N := some 97) (v := ?_) (a' := ?_) #[true, true, false, false, false, false, false, false, false, false, false, false, false, false] rfl rfl (any_of HT_.out (by kernel_rfl)) (fun _ _ _ h => h) (Or.inl ⟨by rfl, ?_⟩) ?_ ?_; rotate_left; · (intro w'; go_simp; with_reducible rfl)
                                        rotate_left; · (simp only [Act.put, sT, sZ, sS, i64_w, i32_w]; rfl)
                                        refine pure_ (i := 2) (N := some 98) (v := ?_) (a' := ?_) #[true, true, true, false, false, false, false, false, false, false, false, false, false, false] rfl rfl (any_of HT_.out (by kernel_rfl)) (fun _ _ _ h => h) (Or.inl ⟨by rfl, ?_⟩) ?_ ?_; rotate_left; · (intro w'; go_simp; with_reducible rfl)
                                        rotate_left; · (simp only [Act.put, sT, sZ, sS, i64_w, i32_w]; rfl)
                                        refine pure_ (i := 3) (N := some 99) (v := ?_) (a' := ?_) #[true, true, true, true, false, false, false, false, false, false, false, false, false, false] rfl rfl (any_of HT_.out (by kernel_rfl)) (fun _ _ _ h => h) (Or.inl ⟨by rfl, ?_⟩) ?_ ?_; rotate_left; · (intro w'; go_simp; with_reducible rfl)
                                        rotate_left; · (simp only [Act.put, sT, sZ, sS, i64_w, i32_w]; rfl)
                                        refine pure_ (i := 4) (N := some 100) (v := ?_) (a' := ?_) #[true, true, true, true, true, false, false, false, false, false, false, false, false, false] rfl rfl (any_of HT_.out (by kernel_rfl)) (fun _ _ _ h => h) (Or.inl ⟨by rfl, ?_⟩) ?_ ?_; rotate_left; · (intro w'; go_simp; with_reducible rfl)
                                        rotate_left; · (simp only [Act.put, sT, sZ, sS, i64_w, i32_w]; rfl)
                                        refine pure_ (i := 5) (N := some 101) (v := ?_) (a' := ?_) #[true, true, true, true, true, true, false, false, false, false, false, false, false, false] rfl rfl (any_of HT_.out (by kernel_rfl)) (fun _ _ _ h => h) (Or.inl ⟨by rfl, ?_⟩) ?_ ?_; rotate_left; · (intro w'; go_simp; with_reducible rfl)
                                        rotate_left; · (simp only [Act.put, sT, sZ, sS, i64_w, i32_w]; rfl)
                                        refine pure_ (i := 7) (N := some 103) (v := ?_) (a' := ?_) #[true, true, true, true, true, true, false, true, false, false, false, false, false, false] rfl rfl (any_of HT_.out (by kernel_rfl)) (fun _ _ _ h => h) (Or.inl ⟨by rfl, ?_⟩) ?_ ?_; rotate_left; · (intro w'; go_simp; with_reducible rfl)
                                        rotate_left; · (simp only [Act.put, sT, sZ, sS, i64_w, i32_w]; rfl)
                                        refine pure_ (i := 8) (N := some 104) (v := ?_) (a' := ?_) #[true, true, true, true, true, true, false, true, true, false, false, false, false, false] rfl rfl (any_of HT_.out (by kernel_rfl)) (fun _ _ _ h => h) (Or.inl ⟨by rfl, ?_⟩) ?_ ?_; rotate_left; · (intro w'; go_simp; with_reducible rfl)
                                        rotate_left; · (simp only [Act.put, sT, sZ, sS, i64_w, i32_w]; rfl)
                                        refine pure_ (i := 9) (N := some 105) (v := ?_) (a' := ?_) #[true, true, true, true, true, true, false, true, true, true, false, false, false, false] rfl rfl (any_of HT_.out (by kernel_rfl)) (fun _ _ _ h => h) (Or.inl ⟨by rfl, ?_⟩) ?_ ?_; rotate_left; · (intro w'; go_simp; with_reducible rfl)
                                        rotate_left; · (simp only [Act.put, sT, sZ, sS, i64_w, i32_w]; rfl)
                                        refine pure_ (i := 10) (N := some 106) (v := ?_) (a' := ?_) #[true, true, true, true, true, true, false, true, true, true, true, false, false, false] rfl rfl (any_of HT_.out (by kernel_rfl)) (fun _ _ _ h => h) (Or.inl ⟨by rfl, ?_⟩) ?_ ?_; rotate_left; · (intro w'; go_simp; with_reducible rfl)
                                        rotate_left; · (simp only [Act.put, sT, sZ, sS, i64_w, i32_w]; rfl)
                                        refine take_ (i := 6) (N := some 102) (v := ?_) (a' := ?_) #[true, true, true, true, true, true, true, true, true, true, true, false, false, false] rfl rfl (take_ofW HT_.out HW_.out (by kernel_rfl)) (fun _ _ _ h => h) (Or.inl ⟨by rfl, ?_⟩) hHeld ?_ ?_; rotate_left
                                        · rintro w' ⟨s0, s1⟩
                                          go_simp
                                          with_reducible rfl
                                        rotate_left; · (simp only [Act.put, sT, sZ, sS, i64_w, i32_w]; rfl)
                                        refine take_ (i := 11) (N := some 107) (v := ?_) (a' := ?_) #[true, true, true, true, true, true, true, true, true, true, true, true, false, false] rfl rfl (take_ofW HT_.out HW_.out (by kernel_rfl)) (fun _ _ _ h => h) (Or.inl ⟨by rfl, ?_⟩) hHeld ?_ ?_; rotate_left
                                        · rintro w' ⟨s0, s1⟩
                                          go_simp
                                          with_reducible rfl
                                        rotate_left; · (simp only [Act.put, sT, sZ, sS, i64_w, i32_w]; rfl)
                                        refine pure_ (i := 12) (N := some 108) (v := ?_) (a' := ?_) #[true, true, true, true, true, true, true, true, true, true, true, true, true, false] rfl rfl (any_of HT_.out (by kernel_rfl)) (fun _ _ _ h => h) (Or.inl ⟨by rfl, ?_⟩) ?_ ?_; rotate_left; · (intro w'; go_simp; with_reducible rfl)
                                        rotate_left; · (simp only [Act.put, sT, sZ, sS, i64_w, i32_w]; rfl)
                                        refine pure_ (i := 13) (N := some 109) (v := ?_) (a' := ?_) #[true, true, true, true, true, true, true, true, true, true, true, true, true, true] rfl rfl (any_of HT_.out (by kernel_rfl)) (fun _ _ _ h => h) (Or.inl ⟨by rfl, ?_⟩) ?_ ?_; rotate_left; · (intro w'; go_simp; with_reducible rfl)
                                        rotate_left; · (simp only [Act.put, sT, sZ, sS, i64_w, i32_w]; rfl)
                                        refine done_ (done_of HT_.out (by kernel_rfl)) ?_
                                        try go_wp2
                                        go_meet
                                        case rel => exact ⟨k4, (decide ((rd t301 x17_1) ≤ (rd t301 j304))), (by first | rfl | (simp; done) | (simp [*]; done)), H', ⟨by have := HQ1.out; have := HQ2.out; have := HQ3.out; have := HQ4.out; omega⟩, HS, HK⟩
                                      · rw [if_neg c40] at H
                                        exact absurd H (by simp)
                                    · rw [if_neg c39] at H
                                      exact absurd H (by simp)
                                  · rw [if_neg c38] at H
                                    exact absurd H (by simp)
                                · rw [if_neg c37] at H
                                  have c37b0 : decide (0 < x17_1) = false := decide_eq_false c37
                                  clear c37
                                  have H' := Aside0.mk H
                                  clear H
                                  try go_wp2
                                  refine start_ (n := 14) (S := fun w' => True) (ds := []) #[false, false, false, false, false, false, false, false, false, false, false, false, false, false] (by kernel_rfl) rfl rfl trivial (fun hHeld => ?_); refine with_tabW barrowlaw38_ChatCuts.tab20 barrowlaw38_ChatCuts.bits20 (fun HT_ HW_ => ?_)
                                  replace HK := Aside0.mk (Keep.drew HK.out)
                                  replace HS := Aside0.mk (SL.drew HS.out)
                                  refine pure_ (i := 0) (N := some 96) (v := ?_) (a' := ?_) #[true, false, false, false, false, false, false, false, false, false, false, false, false, false] rfl rfl (any_of HT_.out (by kernel_rfl)) (fun _ _ _ h => h) (Or.inl ⟨by rfl, ?_⟩) ?_ ?_; rotate_left; · (intro w'; go_simp; with_reducible rfl)
                                  rotate_left; · (simp only [Act.put, sT, sZ, sS, i64_w, i32_w]; rfl)
                                  refine pure_ (i := 1) (N := some 97) (v := ?_) (a' := ?_) #[true, true, false, false, false, false, false, false, false, false, false, false, false, false] rfl rfl (any_of HT_.out (by kernel_rfl)) (fun _ _ _ h => h) (Or.inl ⟨by rfl, ?_⟩) ?_ ?_; rotate_left; · (intro w'; go_simp; with_reducible rfl)
                                  rotate_left; · (simp only [Act.put, sT, sZ, sS, i64_w, i32_w]; rfl)
                                  refine pure_ (i := 2) (N := some 98) (v := ?_) (a' := ?_) #[true, true, true, false, false, false, false, false, false, false, false, false, false, false] rfl rfl (any_of HT_.out (by kernel_rfl)) (fun _ _ _ h => h) (Or.inl ⟨by rfl, ?_⟩) ?_ ?_; rotate_left; · (intro w'; go_simp; with_reducible rfl)
                                  rotate_left; · (simp only [Act.put, sT, sZ, sS, i64_w, i32_w]; rfl)
                                  refine pure_ (i := 3) (N := some 99) (v := undef) (a' := ?_) #[true, true, true, true, false, false, false, false, false, false, false, false, false, false] rfl rfl (any_of HT_.out (by kernel_rfl)) (fun _ _ _ h => h) (Or.inr ⟨by rfl, rfl⟩) ?_ ?_; rotate_left; · (simp only [Act.put, sT, sZ, sS, i64_w, i32_w]; rfl)
                                  refine pure_ (i := 4) (N := some 100) (v := undef) (a' := ?_) #[true, true, true, true, true, false, false, false, false, false, false, false, false, false] rfl rfl (any_of HT_.out (by kernel_rfl)) (fun _ _ _ h => h) (Or.inr ⟨by rfl, rfl⟩) ?_ ?_; rotate_left; · (simp only [Act.put, sT, sZ, sS, i64_w, i32_w]; rfl)
                                  refine pure_ (i := 5) (N := some 101) (v := undef) (a' := ?_) #[true, true, true, true, true, true, false, false, false, false, false, false, false, false] rfl rfl (any_of HT_.out (by kernel_rfl)) (fun _ _ _ h => h) (Or.inr ⟨by rfl, rfl⟩) ?_ ?_; rotate_left; · (simp only [Act.put, sT, sZ, sS, i64_w, i32_w]; rfl)
                                  refine pure_ (i := 6) (N := some 102) (v := undef) (a' := ?_) #[true, true, true, true, true, true, true, false, false, false, false, false, false, false] rfl rfl (any_of HT_.out (by kernel_rfl)) (fun _ _ _ h => h) (Or.inr ⟨by rfl, rfl⟩) ?_ ?_; rotate_left; · (simp only [Act.put, sT, sZ, sS, i64_w, i32_w]; rfl)
                                  refine pure_ (i := 7) (N := some 103) (v := undef) (a' := ?_) #[true, true, true, true, true, true, true, true, false, false, false, false, false, false] rfl rfl (any_of HT_.out (by kernel_rfl)) (fun _ _ _ h => h) (Or.inr ⟨by rfl, rfl⟩) ?_ ?_; rotate_left; · (simp only [Act.put, sT, sZ, sS, i64_w, i32_w]; rfl)
                                  refine pure_ (i := 8) (N := some 104) (v := undef) (a' := ?_) #[true, true, true, true, true, true, true, true, true, false, false, false, false, false] rfl rfl (any_of HT_.out (by kernel_rfl)) (fun _ _ _ h => h) (Or.inr ⟨by rfl, rfl⟩) ?_ ?_; rotate_left; · (simp only [Act.put, sT, sZ, sS, i64_w, i32_w]; rfl)
                                  refine pure_ (i := 9) (N := some 105) (v := undef) (a' := ?_) #[true, true, true, true, true, true, true, true, true, true, false, false, false, false] rfl rfl (any_of HT_.out (by kernel_rfl)) (fun _ _ _ h => h) (Or.inr ⟨by rfl, rfl⟩) ?_ ?_; rotate_left; · (simp only [Act.put, sT, sZ, sS, i64_w, i32_w]; rfl)
                                  refine pure_ (i := 10) (N := some 106) (v := undef) (a' := ?_) #[true, true, true, true, true, true, true, true, true, true, true, false, false, false] rfl rfl (any_of HT_.out (by kernel_rfl)) (fun _ _ _ h => h) (Or.inr ⟨by rfl, rfl⟩) ?_ ?_; rotate_left; · (simp only [Act.put, sT, sZ, sS, i64_w, i32_w]; rfl)
                                  refine pure_ (i := 11) (N := some 107) (v := undef) (a' := ?_) #[true, true, true, true, true, true, true, true, true, true, true, true, false, false] rfl rfl (any_of HT_.out (by kernel_rfl)) (fun _ _ _ h => h) (Or.inr ⟨by rfl, rfl⟩) ?_ ?_; rotate_left; · (simp only [Act.put, sT, sZ, sS, i64_w, i32_w]; rfl)
                                  refine pure_ (i := 12) (N := some 108) (v := undef) (a' := ?_) #[true, true, true, true, true, true, true, true, true, true, true, true, true, false] rfl rfl (any_of HT_.out (by kernel_rfl)) (fun _ _ _ h => h) (Or.inr ⟨by rfl, rfl⟩) ?_ ?_; rotate_left; · (simp only [Act.put, sT, sZ, sS, i64_w, i32_w]; rfl)
                                  refine pure_ (i := 13) (N := some 109) (v := ?_) (a' := ?_) #[true, true, true, true, true, true, true, true, true, true, true, true, true, true] rfl rfl (any_of HT_.out (by kernel_rfl)) (fun _ _ _ h => h) (Or.inl ⟨by rfl, ?_⟩) ?_ ?_; rotate_left; · (intro w'; go_simp; with_reducible rfl)
                                  rotate_left; · (simp only [Act.put, sT, sZ, sS, i64_w, i32_w]; rfl)
                                  refine done_ (done_of HT_.out (by kernel_rfl)) ?_
                                  try go_wp2
                                  go_meet
                                  case rel => exact ⟨k4, (false), (by first | rfl | (simp; done) | (simp [*]; done)), H', ⟨by have := HQ1.out; have := HQ2.out; have := HQ3.out; have := HQ4.out; omega⟩, HS, HK⟩
                              case rest =>
                                clear H' HS HK
                                obtain ⟨kq, x109_399, rfl, HA, HQ5, HS, HK⟩ := hcut
                                cases kq with
                                | zero => exact absurd HA.out (by simp [barrowlaw38_ChatCuts.l399])
                                | succ k5 =>
                                  have H := HA.out
                                  clear HA
                                  simp only [barrowlaw38_ChatCuts.l399] at H
                                  by_cases c41 : x109_399 = true
                                  · subst c41
                                    rw [if_pos rfl] at H
                                    exact absurd H (by simp)
                                  · replace c41 := Bool.eq_false_iff.mpr c41
                                    subst c41
                                    rw [if_neg (show ¬ (false = true) by decide)] at H
                                    have H' := Aside0.mk H
                                    clear H
                                    go_wp2
                                    go_roundg k5
                                    case measure => have := HQ1.out; have := HQ2.out; have := HQ3.out; have := HQ4.out; have := HQ5.out; omega
                                    case rel => exact ⟨(x16_299), (wrap64 (x17_1 + 1)), (by first | rfl | (simp; done) | (simp [*]; done)), (by first | rfl | (simp; done) | (simp [*]; done)), H', ⟨by have := HQ1.out; have := HQ2.out; have := HQ3.out; have := HQ4.out; have := HQ5.out; omega⟩, HS, HK⟩
                        · rw [if_neg c33] at H
                          have c33b0 : decide (x17_1 < (t301.length : Int)) = false := decide_eq_false c33
                          clear c33
                          by_cases c42 : t294 = true
                          · subst c42
                            rw [if_pos rfl] at H
                            obtain rfl := Option.some.inj H
                            go_wp2
                            go_ret
                            replace HS := Aside0.mk (SL.tail (SL.tail HS.out))
                            unfold barrowlaw38_ChatCuts.Post
                            exact ⟨by first | rfl | (simp; done) | (simp [*]; done) | (simp at c33b0 ⊢; first | exact c33b0 | (simp [c33b0]; done)), HS.out, HK.out⟩
                          · replace c42 := Bool.eq_false_iff.mpr c42
                            subst c42
                            rw [if_neg (show ¬ (false = true) by decide)] at H
                            exact absurd H (by simp)
theorem barrowlaw38_ChatCuts.calls (k : Nat) (a0 : ByteArray) (a1 : Int) (A2 : Option Addr) (c2 : Nat) (l2 : List (S44)) (a3 : Int) (a4 : Int) (r : Bool) (w : World) (hr2 : Kd.C k44 w A2 l2.length l2) (hc2 : l2.length ≤ c2) (h : barrowlaw38_ChatCuts.f k a0 a1 l2 a3 a4 = some r) :
    Calls Try.prog 6 #[.string a0, .int .i64 a1, .slice A2 l2.length c2, .int .i64 a3, .int .i64 a4] w fun e w' => e = .returned (.bool r) ∧ Below w.heap.size w w' :=
  (barrowlaw38_ChatCuts.slcalls k a0 a1 A2 c2 l2 a3 a4 r (news w) [] w (fresh_news w) trivial (RO.top hr2) hc2 h).mono fun _ _ h => ⟨h.1, h.2.2.to_below⟩

/-- THE ONE PURE STATEMENT of barrowlaw38_ChatCuts. -/
noncomputable def barrowlaw38_ChatCuts.Pure : Prop := ∀ (a0 : ByteArray) (a1 : Int) (l2 : List (S44)) (a3 : Int) (a4 : Int), (a0.size ≤ 140737488351232) → ((Lit.int .i64 a1).wf = true) → (l2.length ≤ maxLen ∧ l2.length * 24 ≤ 140737488351232 ∧ ∀ x306_ ∈ l2, ((Lit.int .i64 x306_.f0).wf = true) ∧ (((Lit.int .i64 x306_.f1.f0).wf = true) ∧ ((Lit.int .i64 x306_.f1.f1).wf = true))) → ((Lit.int .i64 a3).wf = true) → ((Lit.int .i64 a4).wf = true) → ∃ k, barrowlaw38_ChatCuts.f k a0 a1 l2 a3 a4 = some true

end Go.Proofs.Ytdpeflbdoaccbaa.XCX
