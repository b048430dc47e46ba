-- Written by xprint.py (a program of this session) for this claim
import Derived.Test.YtljmecjciifceaaXSGx0
import Derived.Test.YtljmecjciifceaaXSGx2
import Derived.Test.YtljmecjciifceaaXSGx3
import Derived.Test.YtljmecjciifceaaXSGx4
import Derived.Test.YtljmecjciifceaaXSGx10
import Derived.Test.YtljmecjciifceaaXSGx12
namespace Go.Proofs.Ytljmecjciifceaa.XSG
open Go.Proofs.YtljmecjciifceaaV Go.Proofs.YtljmecjciifceaaS
open Go.RowKit Go.Proofs.YtljmecjciifceaaW.PrintWords Go.Proofs.YtljmecjciifceaaW.PrintLast Go.Proofs.YtljmecjciifceaaW.PrintMore
attribute [local go_sem] max2_int min2_int max_two min_two max_three min_three max_four min_four   -- for this text's walks alone
set_option linter.unusedVariables false
set_option linter.unusedSimpArgs false

/-! ### barrowref07_Sees: function 15 -/
def barrowref07_Sees.f (k : Nat) (a0_0 : Int) (a0_1 : Int) (l0_2 : List Bool) (a1_0 : Int) (a1_1 : Int) (a2_0 : Int) (a2_1 : Int) : Option (Bool) := (barrowref07_Line.f k a0_0 a0_1 l0_2 a1_0 a1_1 a2_0 a2_1).bind fun t526 => ((barrowref07_First.f k a0_0 a0_1 l0_2 a1_0 a1_1 a2_0 a2_1).bind fun bt527 => (if (t526.length : Int) > 0 then (if bt527.2.2 = true then (some false) else (some true)) else (some false)))
theorem barrowref07_Sees.mono : ∀ a0 a1 a2 a3 a4 a5 a6 k, LeO (barrowref07_Sees.f k a0 a1 a2 a3 a4 a5 a6) (barrowref07_Sees.f (k + 1) a0 a1 a2 a3 a4 a5 a6) := by
  intro a0 a1 a2 a3 a4 a5 a6 k
  unfold barrowref07_Sees.f
  repeat' first
      | (with_reducible exact barrowref07_First.mono _ _ _ _ _ _ _ _)
      | (with_reducible exact barrowref07_Line.mono _ _ _ _ _ _ _ _)
      | (with_reducible exact LeO.refl _)
      | (with_reducible exact LeO.none _)
      | (with_reducible refine LeO.ite ?_ ?_)
      | (with_reducible refine LeO.bind ?_ (fun _ => ?_))
      | exact barrowref07_First.mono _ _ _ _ _ _ _ _
      | exact barrowref07_Line.mono _ _ _ _ _ _ _ _
      | exact LeO.none _
      | refine LeO.ite ?_ ?_
      | refine LeO.bind ?_ (fun _ => ?_)
def barrowref07_Sees.Post (r : Bool) (S : Nat → Prop) (L : List Asr) (w : World) (e : Ending) (w' : World) : Prop := e = .returned (.bool r) ∧ SL (L) w' S ∧ Keep S w w'
set_option maxHeartbeats 8000000 in
set_option maxRecDepth 100000 in
theorem barrowref07_Sees.slcalls (k : Nat) (a0_0 : Int) (a0_1 : Int) (A0_2 : Option Addr) (c0_2 : Nat) (l0_2 : List Bool) (a1_0 : Int) (a1_1 : Int) (a2_0 : Int) (a2_1 : Int) (r : Bool) (S : Nat → Prop) (L : List Asr) (w : World) (hf : Fresh S w) (hs : SL (L) w S) (hr0_2 : RO S w (fun w_ => Kd.C Kd.bool w_ A0_2 l0_2.length l0_2)) (hc0_2 : l0_2.length ≤ c0_2) (h : barrowref07_Sees.f k a0_0 a0_1 l0_2 a1_0 a1_1 a2_0 a2_1 = some r) :
    Calls Try.prog 15 #[.agg #[.int .i64 a0_0, .int .i64 a0_1, .slice A0_2 l0_2.length c0_2], .agg #[.int .i64 a1_0, .int .i64 a1_1], .agg #[.int .i64 a2_0, .int .i64 a2_1]] w (barrowref07_Sees.Post r S L w) := by
  have HR0_2 := Aside0.mk hr0_2
  have HC0_2 := Aside0.mk hc0_2
  clear hr0_2 hc0_2
  have HF := Aside0.mk hf
  have HS := Aside0.mk hs
  have HK := Aside0.mk (Keep.refl S w)
  clear hf hs
  have hu24 := Try.underlying24
  have hu26 := Try.underlying26
  have H : ((barrowref07_Line.f k a0_0 a0_1 l0_2 a1_0 a1_1 a2_0 a2_1).bind fun t526 => ((barrowref07_First.f k a0_0 a0_1 l0_2 a1_0 a1_1 a2_0 a2_1).bind fun bt527 => (if (t526.length : Int) > 0 then (if bt527.2.2 = true then (some false) else (some true)) else (some false)))) = some r := h
  clear h
  replace H := Option.bind_eq_some_iff.1 H
  obtain ⟨t526, Hc10, H⟩ := H
  try dsimp only at H
  have Hc1 := Aside0.mk Hc10
  clear Hc10
  replace H := Option.bind_eq_some_iff.1 H
  obtain ⟨⟨t527, t528, t529⟩, Hc20, H⟩ := H
  try dsimp only at H
  have Hc2 := Aside0.mk Hc20
  clear Hc20
  have H' := Aside0.mk H
  clear H
  go_enter Try.func15, Try.ntmps15
  go_wp2_with (first | ((with_reducible refine gate_dst (N := 3) rfl ?_); refine wpList_plain rfl (fun K_ hK_ => ?_); refine op_box (S := S) (cs := #[.int .i64 a0_0, .int .i64 a0_1, .slice A0_2 l0_2.length c0_2]) (t := 24) (HF.out.keep HK.out) HS.out (by first | (go_simp; done) | (go_simp; rfl)) ?_; intro g3000072 w3 hs_ hk_; refine hK_ _ _ ?_; clear hK_ K_; replace HS := Aside0.mk (hs_); replace HK := Aside0.mk (HK.out.trans hk_)) | ((with_reducible refine gate_dst (N := 4) rfl ?_); refine wpList_plain rfl (fun K_ hK_ => ?_); refine op_box (S := S) (cs := #[.int .i64 a1_0, .int .i64 a1_1]) (t := 26) (HF.out.keep HK.out) HS.out (by first | (go_simp; done) | (go_simp; rfl)) ?_; intro g3000073 w4 hs_ hk_; refine hK_ _ _ ?_; clear hK_ K_; replace HS := Aside0.mk (hs_); replace HK := Aside0.mk (HK.out.trans hk_)) | ((with_reducible refine gate_dst (N := 5) rfl ?_); refine wpList_plain rfl (fun K_ hK_ => ?_); refine op_box (S := S) (cs := #[.int .i64 a2_0, .int .i64 a2_1]) (t := 26) (HF.out.keep HK.out) HS.out (by first | (go_simp; done) | (go_simp; rfl)) ?_; intro g3000074 w5 hs_ hk_; refine hK_ _ _ ?_; clear hK_ K_; replace HS := Aside0.mk (hs_); replace HK := Aside0.mk (HK.out.trans hk_); have hb_ := SL.at_ HS.out; have hz3000074_0_3 := ((blk_cell hb_ 0).trans rfl : _ = some (.int .i64 a2_0)); have hz3000074_1_3 := ((blk_cell hb_ 1).trans rfl : _ = some (.int .i64 a2_1)); clear hb_; have hb_ := SL.at_ (SL.get1 HS.out); have hz3000073_0_3 := ((blk_cell hb_ 0).trans rfl : _ = some (.int .i64 a1_0)); have hz3000073_1_3 := ((blk_cell hb_ 1).trans rfl : _ = some (.int .i64 a1_1)); clear hb_; have hb_ := SL.at_ (SL.get2 HS.out); have hz3000072_0_3 := ((blk_cell hb_ 0).trans rfl : _ = some (.int .i64 a0_0)); have hz3000072_1_3 := ((blk_cell hb_ 1).trans rfl : _ = some (.int .i64 a0_1)); have hz3000072_2_3 := ((blk_cell hb_ 2).trans rfl : _ = some (.slice A0_2 l0_2.length c0_2)); clear hb_) | ((with_reducible refine gate_dst (N := 13) rfl ?_); refine goesL_ (some 13) rfl rfl Try.func13 (by kernel_rfl) rfl #[.agg #[.int .i64 a0_0, .int .i64 a0_1, .slice A0_2 l0_2.length c0_2], .agg #[.int .i64 a1_0, .int .i64 a1_1], .agg #[.int .i64 a2_0, .int .i64 a2_1]] rfl (by (try simp only [List.map_toArray, List.map_cons, List.map_nil]); first | done | rfl | (simp; done)) ?_; (with_reducible refine (barrowref07_Line.calls k _ _ _ _ _ _ _ _ _ _ _ (RO.at_ HR0_2.out HK.out) HC0_2.out Hc1.out).mono ?_); rintro e_ w6 ⟨v3000075_, rfl, ho3000075_, hb_⟩; refine ⟨_, rfl, ?_⟩; have hs_ := (SL.new (HF.out.keep HK.out) HS.out hb_ (row_of_R ho3000075_)).1; obtain ⟨Az3000075, cz3000075, e2_, _, _⟩ := SL.row_reads hs_; subst e2_; replace HS := Aside0.mk (hs_); replace HK := Aside0.mk (HK.out.trans (Keep.below hb_)); (try clear hz3000072_0_3 hz3000072_1_3 hz3000072_2_3); (try clear hz3000073_0_3 hz3000073_1_3); (try clear hz3000074_0_3 hz3000074_1_3); have hb_ := SL.at_ (SL.get1 HS.out); have hz3000074_0_4 := ((blk_cell hb_ 0).trans rfl : _ = some (.int .i64 a2_0)); have hz3000074_1_4 := ((blk_cell hb_ 1).trans rfl : _ = some (.int .i64 a2_1)); clear hb_; have hb_ := SL.at_ (SL.get2 HS.out); have hz3000073_0_4 := ((blk_cell hb_ 0).trans rfl : _ = some (.int .i64 a1_0)); have hz3000073_1_4 := ((blk_cell hb_ 1).trans rfl : _ = some (.int .i64 a1_1)); clear hb_; have hb_ := SL.at_ (SL.get3 HS.out); have hz3000072_0_4 := ((blk_cell hb_ 0).trans rfl : _ = some (.int .i64 a0_0)); have hz3000072_1_4 := ((blk_cell hb_ 1).trans rfl : _ = some (.int .i64 a0_1)); have hz3000072_2_4 := ((blk_cell hb_ 2).trans rfl : _ = some (.slice A0_2 l0_2.length c0_2)); clear hb_) | ((with_reducible refine gate_dst (N := 18) rfl ?_); refine goesL_ (some 18) rfl rfl Try.func10 (by kernel_rfl) rfl #[.agg #[.int .i64 a0_0, .int .i64 a0_1, .slice A0_2 l0_2.length c0_2], .agg #[.int .i64 a1_0, .int .i64 a1_1], .agg #[.int .i64 a2_0, .int .i64 a2_1]] rfl (by (try simp only [List.map_toArray, List.map_cons, List.map_nil]); first | done | rfl | (simp; done)) ?_; (with_reducible refine (barrowref07_First.calls k _ _ _ _ _ _ _ _ _ _ _ _ _ (RO.at_ HR0_2.out HK.out) HC0_2.out Hc2.out).mono ?_); rintro e_ w7 ⟨rfl, hb_⟩; refine ⟨_, rfl, ?_⟩; replace HS := Aside0.mk (HS.out.below hb_); replace HK := Aside0.mk (HK.out.trans (Keep.below hb_)); (try clear hz3000072_0_4 hz3000072_1_4 hz3000072_2_4); (try clear hz3000073_0_4 hz3000073_1_4); (try clear hz3000074_0_4 hz3000074_1_4)) | ((with_reducible refine gate_dst (N := 8) rfl ?_); refine wpList_plain rfl (fun K_ hK_ => ?_); refine op_box (S := S) (cs := #[.int .i64 0, .int .i64 0]) (t := 26) (HF.out.keep HK.out) HS.out (by first | (go_simp; done) | (go_simp; rfl)) ?_; intro g3000076 w8 hs_ hk_; refine hK_ _ _ ?_; clear hK_ K_; replace HS := Aside0.mk (hs_); replace HK := Aside0.mk (HK.out.trans hk_)) | ((with_reducible refine gate_store (t := 26) (p := 8) (v := (.tmp 19)) rfl ?_); refine wpList_plain rfl (fun K_ hK_ => ?_); refine op_store (S := S) 26 (.tmp 8) (.tmp 19) rfl g3000076 0 (.agg #[.int .i64 t527, .int .i64 t528]) [.int .i64 t527, .int .i64 t528] rfl rfl rfl (by kernel_rfl) (by simp [Value.oneCell']) HS.out (by simp) ?_; intro w9 hs_ hk_; refine hK_ _ _ ?_; clear hK_ K_; replace HS := Aside0.mk ((show SL (cells g3000076 26 [.int .i64 t527, .int .i64 t528].toArray :: _) _ _ from hs_)); replace HK := Aside0.mk (HK.out.trans hk_); refine stop_ ?_; intro G_ hG_))
  have H := H'.out
  clear H'
  by_cases c10 : (t526.length : Int) > 0
  · rw [if_pos c10] at H
    have c10b0 : decide (0 < (t526.length : Int)) = true := decide_eq_true c10
    have c10b1 : decide (0 < t526.length) = true := decide_eq_true (by omega)
    clear c10
    by_cases c11 : t529 = true
    · subst c11
      rw [if_pos rfl] at H
      obtain rfl := Option.some.inj H
      refine hG_.out ?_
      try simp only [c10b0, c10b1]
      go_wp2
      go_ret
      replace HS := Aside0.mk (SL.tail (SL.tail (SL.tail (SL.tail (SL.tail HS.out)))))
      unfold barrowref07_Sees.Post
      exact ⟨by first | rfl | (simp; done) | (simp [*]; done), HS.out, HK.out⟩
    · replace c11 := Bool.eq_false_iff.mpr c11
      subst c11
      rw [if_neg (show ¬ (false = true) by decide)] at H
      obtain rfl := Option.some.inj H
      refine hG_.out ?_
      try simp only [c10b0, c10b1]
      go_wp2
      go_ret
      replace HS := Aside0.mk (SL.tail (SL.tail (SL.tail (SL.tail (SL.tail HS.out)))))
      unfold barrowref07_Sees.Post
      exact ⟨by first | rfl | (simp; done) | (simp [*]; done), HS.out, HK.out⟩
  · rw [if_neg c10] at H
    have c10b0 : decide (0 < (t526.length : Int)) = false := decide_eq_false c10
    have c10b1 : decide (0 < t526.length) = false := decide_eq_false (by omega)
    clear c10
    obtain rfl := Option.some.inj H
    refine hG_.out ?_
    try simp only [c10b0, c10b1]
    go_wp2
    go_ret
    replace HS := Aside0.mk (SL.tail (SL.tail (SL.tail (SL.tail (SL.tail HS.out)))))
    unfold barrowref07_Sees.Post
    exact ⟨by first | rfl | (simp; done) | (simp [*]; done), HS.out, HK.out⟩
theorem barrowref07_Sees.calls (k : Nat) (a0_0 : Int) (a0_1 : Int) (A0_2 : Option Addr) (c0_2 : Nat) (l0_2 : List Bool) (a1_0 : Int) (a1_1 : Int) (a2_0 : Int) (a2_1 : Int) (r : Bool) (w : World) (hr0_2 : Kd.C Kd.bool w A0_2 l0_2.length l0_2) (hc0_2 : l0_2.length ≤ c0_2) (h : barrowref07_Sees.f k a0_0 a0_1 l0_2 a1_0 a1_1 a2_0 a2_1 = some r) :
    Calls Try.prog 15 #[.agg #[.int .i64 a0_0, .int .i64 a0_1, .slice A0_2 l0_2.length c0_2], .agg #[.int .i64 a1_0, .int .i64 a1_1], .agg #[.int .i64 a2_0, .int .i64 a2_1]] w fun e w' => e = .returned (.bool r) ∧ Below w.heap.size w w' :=
  (barrowref07_Sees.slcalls k a0_0 a0_1 A0_2 c0_2 l0_2 a1_0 a1_1 a2_0 a2_1 r (news w) [] w (fresh_news w) trivial (RO.top hr0_2) hc0_2 h).mono fun _ _ h => ⟨h.1, h.2.2.to_below⟩

/-! ### grid_Steps: function 18 -/
def grid_Steps.f (k : Nat) (a0_0 : Int) (a0_1 : Int) (a1_0 : Int) (a1_1 : Int) : Option (Int) := (grid_far.f k a0_0 a1_0).bind fun t563 => ((grid_far.f k a0_1 a1_1).bind fun t564 => ((some (mx t563 t564 : Int)).bind fun j565 => (some j565)))
theorem grid_Steps.mono : ∀ a0 a1 a2 a3 k, LeO (grid_Steps.f k a0 a1 a2 a3) (grid_Steps.f (k + 1) a0 a1 a2 a3) := by
  intro a0 a1 a2 a3 k
  unfold grid_Steps.f
  repeat' first
      | (with_reducible exact grid_far.mono _ _ _)
      | (with_reducible exact LeO.refl _)
      | (with_reducible exact LeO.none _)
      | (with_reducible refine LeO.ite ?_ ?_)
      | (with_reducible refine LeO.bind ?_ (fun _ => ?_))
      | exact grid_far.mono _ _ _
      | exact LeO.none _
      | refine LeO.ite ?_ ?_
      | refine LeO.bind ?_ (fun _ => ?_)
def grid_Steps.T1 : Bool × List (List Nat × List Nat) := (true, [([], []), ([0], [0]), ([], []), ([2], [2]), ([1, 3], [1, 3]), ([], []), ([5], [5]), ([], []), ([7], [7]), ([6, 8, 4], [6, 8]), ([4, 9], [4, 9]), ([10, 9, 0, 1, 2, 3, 4, 5, 6, 7, 8, 9, 10], [10])])
def grid_Steps.B1 : List Nat := [0, 1, 0, 4, 15, 0, 32, 0, 128, 511, 1023, 2047]
theorem grid_Steps.tab1 : rtab .any (opsOf Try.f18 1) = grid_Steps.T1 := by kernel_rfl
theorem grid_Steps.bits1 : waitsOk grid_Steps.T1.2 grid_Steps.B1 = true := by kernel_rfl
def grid_Steps.Post (r : Int) (S : Nat → Prop) (L : List Asr) (w : World) (e : Ending) (w' : World) : Prop := e = .returned (.int .i64 r) ∧ SL (L) w' S ∧ Keep S w w'
set_option maxHeartbeats 8000000 in
set_option maxRecDepth 100000 in
theorem grid_Steps.slcalls (k : Nat) (a0_0 : Int) (a0_1 : Int) (a1_0 : Int) (a1_1 : Int) (r : Int) (S : Nat → Prop) (L : List Asr) (w : World) (hf : Fresh S w) (hs : SL (L) w S) (h : grid_Steps.f k a0_0 a0_1 a1_0 a1_1 = some r) :
    Calls Try.prog 18 #[.agg #[.int .i64 a0_0, .int .i64 a0_1], .agg #[.int .i64 a1_0, .int .i64 a1_1]] w (grid_Steps.Post r S L w) := by
  have HF := Aside0.mk hf
  have HS := Aside0.mk hs
  have HK := Aside0.mk (Keep.refl S w)
  clear hf hs
  have hu26 := Try.underlying26
  have H : ((grid_far.f k a0_0 a1_0).bind fun t563 => ((grid_far.f k a0_1 a1_1).bind fun t564 => ((some (mx t563 t564 : Int)).bind fun j565 => (some j565)))) = some r := h
  clear h
  replace H := Option.bind_eq_some_iff.1 H
  obtain ⟨t563, Hc10, H⟩ := H
  try dsimp only at H
  have Hc1 := Aside0.mk Hc10
  clear Hc10
  replace H := Option.bind_eq_some_iff.1 H
  obtain ⟨t564, Hc20, H⟩ := H
  try dsimp only at H
  have Hc2 := Aside0.mk Hc20
  clear Hc20
  replace H := Option.bind_eq_some_iff.1 H
  obtain ⟨j565, hj5650, H⟩ := H
  try dsimp only at H
  have hj565 := Option.some.inj hj5650
  clear hj5650
  have hj565_ : (if t563 < t564 then t564 else t563) = j565 := hj565
  obtain rfl := Option.some.inj H
  go_enter Try.func18, Try.ntmps18
  try go_wp2_with (first | ((with_reducible refine gate_dst (N := 2) rfl ?_); refine wpList_plain rfl (fun K_ hK_ => ?_); refine op_box (S := S) (cs := #[.int .i64 a0_0, .int .i64 a0_1]) (t := 26) (HF.out.keep HK.out) HS.out (by first | (go_simp; done) | (go_simp; rfl)) ?_; intro g3000084 w3 hs_ hk_; refine hK_ _ _ ?_; clear hK_ K_; replace HS := Aside0.mk (hs_); replace HK := Aside0.mk (HK.out.trans hk_)) | ((with_reducible refine gate_dst (N := 3) rfl ?_); refine wpList_plain rfl (fun K_ hK_ => ?_); refine op_box (S := S) (cs := #[.int .i64 a1_0, .int .i64 a1_1]) (t := 26) (HF.out.keep HK.out) HS.out (by first | (go_simp; done) | (go_simp; rfl)) ?_; intro g3000085 w4 hs_ hk_; refine hK_ _ _ ?_; clear hK_ K_; replace HS := Aside0.mk (hs_); replace HK := Aside0.mk (HK.out.trans hk_)))
  refine start_ (n := 12) (S := fun w' => w'.cell? ⟨g3000084, 0, none⟩ = some (.int .i64 a0_0) ∧ w'.cell? ⟨g3000085, 0, none⟩ = some (.int .i64 a1_0) ∧ w'.cell? ⟨g3000084, 1, none⟩ = some (.int .i64 a0_1) ∧ w'.cell? ⟨g3000085, 1, none⟩ = some (.int .i64 a1_1)) (ds := []) #[false, false, false, false, false, false, false, false, false, false, false, false] (by kernel_rfl) rfl rfl ⟨(((blk_cell (SL.at_ (SL.get1 HS.out)) 0).trans rfl)), (((blk_cell (SL.at_ HS.out) 0).trans rfl)), (((blk_cell (SL.at_ (SL.get1 HS.out)) 1).trans rfl)), (((blk_cell (SL.at_ HS.out) 1).trans rfl))⟩ (fun hHeld => ?_); refine with_tabW grid_Steps.tab1 grid_Steps.bits1 (fun HT_ HW_ => ?_)
  replace HK := Aside0.mk (Keep.drew HK.out)
  replace HS := Aside0.mk (SL.drew HS.out)
  refine pure_ (i := 0) (N := some 5) (v := ?_) (a' := ?_) #[true, false, false, false, false, false, false, false, false, false, false, false] rfl rfl (any_of HT_.out (by kernel_rfl)) (fun _ _ _ h => h) (Or.inl ⟨by rfl, ?_⟩) ?_ ?_; rotate_left; · (intro w'; go_simp; with_reducible rfl)
  rotate_left; · (simp only [Act.put, sT, sZ, sS, i64_w, i32_w]; rfl)
  refine pure_ (i := 2) (N := some 7) (v := ?_) (a' := ?_) #[true, false, true, false, false, false, false, false, false, false, false, false] rfl rfl (any_of HT_.out (by kernel_rfl)) (fun _ _ _ h => h) (Or.inl ⟨by rfl, ?_⟩) ?_ ?_; rotate_left; · (intro w'; go_simp; with_reducible rfl)
  rotate_left; · (simp only [Act.put, sT, sZ, sS, i64_w, i32_w]; rfl)
  refine pure_ (i := 5) (N := some 10) (v := ?_) (a' := ?_) #[true, false, true, false, false, true, false, false, false, false, false, false] rfl rfl (any_of HT_.out (by kernel_rfl)) (fun _ _ _ h => h) (Or.inl ⟨by rfl, ?_⟩) ?_ ?_; rotate_left; · (intro w'; go_simp; with_reducible rfl)
  rotate_left; · (simp only [Act.put, sT, sZ, sS, i64_w, i32_w]; rfl)
  refine pure_ (i := 7) (N := some 12) (v := ?_) (a' := ?_) #[true, false, true, false, false, true, false, true, false, false, false, false] rfl rfl (any_of HT_.out (by kernel_rfl)) (fun _ _ _ h => h) (Or.inl ⟨by rfl, ?_⟩) ?_ ?_; rotate_left; · (intro w'; go_simp; with_reducible rfl)
  rotate_left; · (simp only [Act.put, sT, sZ, sS, i64_w, i32_w]; rfl)
  refine take_ (i := 1) (N := some 6) (v := ?_) (a' := ?_) #[true, true, true, false, false, true, false, true, false, false, false, false] rfl rfl (take_ofW HT_.out HW_.out (by kernel_rfl)) (fun _ _ _ h => h) (Or.inl ⟨by rfl, ?_⟩) hHeld ?_ ?_; rotate_left
  · rintro w' ⟨s0, s1, s2, s3⟩
    go_simp
    with_reducible rfl
  rotate_left; · (simp only [Act.put, sT, sZ, sS, i64_w, i32_w]; rfl)
  refine take_ (i := 3) (N := some 8) (v := ?_) (a' := ?_) #[true, true, true, true, false, true, false, true, false, false, false, false] rfl rfl (take_ofW HT_.out HW_.out (by kernel_rfl)) (fun _ _ _ h => h) (Or.inl ⟨by rfl, ?_⟩) hHeld ?_ ?_; rotate_left
  · rintro w' ⟨s0, s1, s2, s3⟩
    go_simp
    with_reducible rfl
  rotate_left; · (simp only [Act.put, sT, sZ, sS, i64_w, i32_w]; rfl)
  refine take_ (i := 6) (N := some 11) (v := ?_) (a' := ?_) #[true, true, true, true, false, true, true, true, false, false, false, false] rfl rfl (take_ofW HT_.out HW_.out (by kernel_rfl)) (fun _ _ _ h => h) (Or.inl ⟨by rfl, ?_⟩) hHeld ?_ ?_; rotate_left
  · rintro w' ⟨s0, s1, s2, s3⟩
    go_simp
    with_reducible rfl
  rotate_left; · (simp only [Act.put, sT, sZ, sS, i64_w, i32_w]; rfl)
  refine take_ (i := 8) (N := some 13) (v := ?_) (a' := ?_) #[true, true, true, true, false, true, true, true, true, false, false, false] rfl rfl (take_ofW HT_.out HW_.out (by kernel_rfl)) (fun _ _ _ h => h) (Or.inl ⟨by rfl, ?_⟩) hHeld ?_ ?_; rotate_left
  · rintro w' ⟨s0, s1, s2, s3⟩
    go_simp
    with_reducible rfl
  rotate_left; · (simp only [Act.put, sT, sZ, sS, i64_w, i32_w]; rfl)
  refine one_ (i := 4) (N := some 9) #[true, true, true, true, true, true, true, true, true, false, false, false] rfl rfl (one_of HT_.out (by kernel_rfl)) (by decide) (fun K hK => ?_)
  refine goes_ Try.func36 (by kernel_rfl) rfl #[.int .i64 a0_0, .int .i64 a1_0] (by rfl) rfl rfl (by (try simp only [List.map_toArray, List.map_cons, List.map_nil]); first | done | rfl | (simp; done)) ?_
  (with_reducible refine (grid_far.calls k _ _ _ _  Hc1.out).mono ?_)
  rintro e_ w5 ⟨rfl, hb_⟩
  refine ⟨_, rfl, ?_⟩
  replace HS := Aside0.mk (HS.out.below hb_)
  replace HK := Aside0.mk (HK.out.trans (Keep.below hb_))
  refine hK.out _ _ ⟨(((blk_cell (SL.at_ (SL.get1 HS.out)) 0).trans rfl)), (((blk_cell (SL.at_ HS.out) 0).trans rfl)), (((blk_cell (SL.at_ (SL.get1 HS.out)) 1).trans rfl)), (((blk_cell (SL.at_ HS.out) 1).trans rfl))⟩ (fun hHeld => ?_)
  clear hK K
  refine norm_ (a' := ?_) ?_ ?_; rotate_left
  · show Act.put _ (some 9) _ = _
    simp only [Act.put, sT, sZ, sS, i64_w, i32_w]
    rfl
  refine one_ (i := 9) (N := some 14) #[true, true, true, true, true, true, true, true, true, true, false, false] rfl rfl (one_of HT_.out (by kernel_rfl)) (by decide) (fun K hK => ?_)
  refine goes_ Try.func36 (by kernel_rfl) rfl #[.int .i64 a0_1, .int .i64 a1_1] (by rfl) rfl rfl (by (try simp only [List.map_toArray, List.map_cons, List.map_nil]); first | done | rfl | (simp; done)) ?_
  (with_reducible refine (grid_far.calls k _ _ _ _  Hc2.out).mono ?_)
  rintro e_ w6 ⟨rfl, hb_⟩
  refine ⟨_, rfl, ?_⟩
  replace HS := Aside0.mk (HS.out.below hb_)
  replace HK := Aside0.mk (HK.out.trans (Keep.below hb_))
  refine hK.out _ _ ⟨(((blk_cell (SL.at_ (SL.get1 HS.out)) 0).trans rfl)), (((blk_cell (SL.at_ HS.out) 0).trans rfl)), (((blk_cell (SL.at_ (SL.get1 HS.out)) 1).trans rfl)), (((blk_cell (SL.at_ HS.out) 1).trans rfl))⟩ (fun hHeld => ?_)
  clear hK K
  refine norm_ (a' := ?_) ?_ ?_; rotate_left
  · show Act.put _ (some 14) _ = _
    simp only [Act.put, sT, sZ, sS, i64_w, i32_w]
    rfl
  refine pure_ (i := 10) (N := some 15) (v := ?_) (a' := ?_) #[true, true, true, true, true, true, true, true, true, true, true, false] rfl rfl (any_of HT_.out (by kernel_rfl)) (fun _ _ _ h => h) (Or.inl ⟨by rfl, ?_⟩) ?_ ?_; rotate_left; · (intro w'; go_simp; with_reducible rfl)
  rotate_left; · (simp only [Act.put, sT, sZ, sS, i64_w, i32_w]; rfl)
  refine pure_ (i := 11) (N := some 4) (v := ?_) (a' := ?_) #[true, true, true, true, true, true, true, true, true, true, true, true] rfl rfl (any_of HT_.out (by kernel_rfl)) (fun _ _ _ h => h) (Or.inl ⟨by rfl, ?_⟩) ?_ ?_; rotate_left; · (intro w'; go_simp; with_reducible rfl)
  rotate_left; · (simp only [Act.put, sT, sZ, sS, i64_w, i32_w]; rfl)
  refine done_ (done_of HT_.out (by kernel_rfl)) ?_
  try go_wp2
  go_ret
  replace HS := Aside0.mk (SL.tail (SL.tail HS.out))
  unfold grid_Steps.Post
  exact ⟨by first | rfl | (simp; done) | (simp [*]; done), HS.out, HK.out⟩
theorem grid_Steps.calls (k : Nat) (a0_0 : Int) (a0_1 : Int) (a1_0 : Int) (a1_1 : Int) (r : Int) (w : World) (h : grid_Steps.f k a0_0 a0_1 a1_0 a1_1 = some r) :
    Calls Try.prog 18 #[.agg #[.int .i64 a0_0, .int .i64 a0_1], .agg #[.int .i64 a1_0, .int .i64 a1_1]] w fun e w' => e = .returned (.int .i64 r) ∧ Below w.heap.size w w' :=
  (grid_Steps.slcalls k a0_0 a0_1 a1_0 a1_1 r (news w) [] w (fresh_news w) trivial h).mono fun _ _ h => ⟨h.1, h.2.2.to_below⟩

/-! ### grid_wall: function 37 -/
def grid_wall.f (a0_0 : Int) (a0_1 : Int) (l0_2 : List Bool) (a1_0 : Int) (a1_1 : Int) : Option (Bool) := if 0 ≤ (wrap64 ((wrap64 (a1_1 * a0_0)) + a1_0)) then (if (wrap64 ((wrap64 (a1_1 * a0_0)) + a1_0)) < (l0_2.length : Int) then (some (rdOf false l0_2 (wrap64 ((wrap64 (a1_1 * a0_0)) + a1_0)))) else (none)) else (none)
set_option maxHeartbeats 8000000 in
set_option maxRecDepth 100000 in
theorem grid_wall.calls (a0_0 : Int) (a0_1 : Int) (A0_2 : Option Addr) (c0_2 : Nat) (l0_2 : List Bool) (a1_0 : Int) (a1_1 : Int) (r : Bool) (w : World) (hr0_2 : Kd.C Kd.bool w A0_2 l0_2.length l0_2) (hc0_2 : l0_2.length ≤ c0_2) (h : grid_wall.f a0_0 a0_1 l0_2 a1_0 a1_1 = some r) :
    Calls Try.prog 37 #[.agg #[.int .i64 a0_0, .int .i64 a0_1, .slice A0_2 l0_2.length c0_2], .agg #[.int .i64 a1_0, .int .i64 a1_1]] w fun e w' => e = .returned (.bool r) ∧ Below w.heap.size w w' := by
  have hu24 := Try.underlying24
  have hu26 := Try.underlying26
  have HR0_2 := Aside0.mk hr0_2
  have HC0_2 := Aside0.mk hc0_2
  clear hr0_2 hc0_2
  have HB := Aside0.mk (Below.refl w.heap.size w)
  have H : (if 0 ≤ (wrap64 ((wrap64 (a1_1 * a0_0)) + a1_0)) then (if (wrap64 ((wrap64 (a1_1 * a0_0)) + a1_0)) < (l0_2.length : Int) then (some (rdOf false l0_2 (wrap64 ((wrap64 (a1_1 * a0_0)) + a1_0)))) else (none)) else (none)) = some r := h
  clear h
  obtain ⟨ji3, hji3⟩ : ∃ j_ : Int, (wrap64 ((wrap64 (a1_1 * a0_0)) + a1_0)) = j_ := ⟨_, rfl⟩
  replace H : (if 0 ≤ (ji3) then (if (ji3) < (l0_2.length : Int) then (some (rdOf false l0_2 (ji3))) else (none)) else (none)) = some r := by first | (rw [hji3] at H; exact H) | (simp only [hji3] at H ⊢; exact H)
  have hji3w : (IntKind.i64.wrap ((wrap64 (a1_1 * a0_0)) + a1_0)) = ji3 := (i64_w _).trans hji3
  by_cases c4 : 0 ≤ (ji3)
  · rw [if_pos c4] at H
    have c4b0 : decide (0 ≤ (ji3)) = true := decide_eq_true c4
    clear c4
    by_cases c5 : (ji3) < (l0_2.length : Int)
    · rw [if_pos c5] at H
      have c5b0 : decide ((ji3) < (l0_2.length : Int)) = true := decide_eq_true c5
      clear c5
      obtain rfl := Option.some.inj H
      go_enter Try.func37, Try.ntmps37
      go_wp2_with (first | ((with_reducible refine gate_dst (N := 2) rfl ?_); refine box_event ?hg (N := 2) ?hd (cs := #[.int .i64 a0_0, .int .i64 a0_1, .slice A0_2 l0_2.length c0_2]) (t := 24) ?hr ?_; (case hd => rfl); (case hg => rfl); (case hr => first | (go_simp; done) | (go_simp; rfl)); intro gb587 hg w6 hbox hb; have n0_ := Aside0.mk (below_step (by repeat (first | (with_reducible first | exact HB.out | apply below_alloc | apply pw_below_drewN | apply below_drew1) | exact HB.out)) hb); have n1_ := Aside0.mk (hbox); have n2_ := Aside0.mk ((by rw [hg]; exact (below_size (by repeat (first | (with_reducible first | exact HB.out | apply below_alloc | apply pw_below_drewN | apply below_drew1) | exact HB.out))) : w.heap.size ≤ gb587)); have n3_ := Aside0.mk ((by rw [hg]; exact (below_size (by repeat (first | (with_reducible first | exact HB.out | apply below_alloc | apply pw_below_drewN | apply below_drew1) | exact HB.out))) : w.heap.size ≤ gb587)); clear HB; have HB := n0_; have BK587 := n1_; have GW587 := n2_; have GE587 := n3_; clear n0_ n1_ n2_ n3_; clear hb hbox hg) | ((with_reducible refine gate_dst (N := 3) rfl ?_); refine box_event ?hg (N := 3) ?hd (cs := #[.int .i64 a1_0, .int .i64 a1_1]) (t := 26) ?hr ?_; (case hd => rfl); (case hg => rfl); (case hr => first | (go_simp; done) | (go_simp; rfl)); intro gb588 hg w7 hbox hb; have n0_ := Aside0.mk (blk_below (g := gb587) (o := .cells #[.int .i64 a0_0, .int .i64 a0_1, .slice A0_2 l0_2.length c0_2] 24 (0, 0)) (by (with_reducible repeat (first | refine blk_drewN ?_ _ | refine blk_drew ?_ | refine blk_alloc ?_ _)); exact BK587.out) hb); have n1_ := Aside0.mk (below_step (by repeat (first | (with_reducible first | exact HB.out | apply below_alloc | apply pw_below_drewN | apply below_drew1 | refine below_set ?_ GE587.out) | exact HB.out)) hb); have n2_ := Aside0.mk (hbox); have n3_ := Aside0.mk ((by rw [hg]; exact (below_size (by repeat (first | (with_reducible first | exact HB.out | apply below_alloc | apply pw_below_drewN | apply below_drew1 | refine below_set ?_ GE587.out) | exact HB.out))) : w.heap.size ≤ gb588)); have n4_ := Aside0.mk ((by rw [hg]; exact (below_size (by repeat (first | (with_reducible first | exact HB.out | apply below_alloc | apply pw_below_drewN | apply below_drew1 | refine below_set ?_ GE587.out) | exact HB.out))) : w.heap.size ≤ gb588)); have n5_ := Aside0.mk ((by rw [hg]; exact Nat.ne_of_lt (blk_lt (g := gb587) (o := .cells #[.int .i64 a0_0, .int .i64 a0_1, .slice A0_2 l0_2.length c0_2] 24 (0, 0)) (by (with_reducible repeat (first | refine blk_drewN ?_ _ | refine blk_drew ?_ | refine blk_alloc ?_ _)); exact BK587.out)) : gb587 ≠ gb588)); have n6_ := Aside0.mk ((by rw [hg]; exact Nat.ne_of_gt (blk_lt (g := gb587) (o := .cells #[.int .i64 a0_0, .int .i64 a0_1, .slice A0_2 l0_2.length c0_2] 24 (0, 0)) (by (with_reducible repeat (first | refine blk_drewN ?_ _ | refine blk_drew ?_ | refine blk_alloc ?_ _)); exact BK587.out)) : gb588 ≠ gb587)); clear BK587; clear HB; have BK587 := n0_; have HB := n1_; have BK588 := n2_; have GW588 := n3_; have GE588 := n4_; have NB587_588 := n5_; have NB588_587 := n6_; clear n0_ n1_ n2_ n3_ n4_ n5_ n6_; clear hb hbox hg; have hnb8 := NB587_588.out; have hnc8 := NB588_587.out; have hcz9_0 : w7.cell? ⟨gb587, 0, none⟩ = some (.int .i64 a0_0) := (blk_cell BK587.out 0).trans rfl; have hcz9_1 : w7.cell? ⟨gb587, 1, none⟩ = some (.int .i64 a0_1) := (blk_cell BK587.out 1).trans rfl; have hcz9_2 : w7.cell? ⟨gb587, 2, none⟩ = some (.slice A0_2 l0_2.length c0_2) := (blk_cell BK587.out 2).trans rfl; have hfz9_0 := blk_frozen BK587.out 0; have hfz9_1 := blk_frozen BK587.out 1; have hfz9_2 := blk_frozen BK587.out 2; have hcz10_0 : w7.cell? ⟨gb588, 0, none⟩ = some (.int .i64 a1_0) := (blk_cell BK588.out 0).trans rfl; have hcz10_1 : w7.cell? ⟨gb588, 1, none⟩ = some (.int .i64 a1_1) := (blk_cell BK588.out 1).trans rfl; have hfz10_0 := blk_frozen BK588.out 0; have hfz10_1 := blk_frozen BK588.out 1; have p589 : 0 ≤ ((ji3) : Int) := of_decide_eq_true (by first | (with_reducible assumption) | assumption); have q589 : (ji3) < (l0_2.length : Int) := of_decide_eq_true (by first | (with_reducible assumption) | assumption); obtain ⟨ad589, e589, hx589_0⟩ := Kd.at_bool HR0_2.out (ji3) p589 q589; cases e589; replace hx589_0 := (HB.out.cell (World.block_lt_of_cell? w _ hx589_0)).trans hx589_0; replace p589 := eq_true p589; replace q589 := eq_true q589))
      go_ret
      exact ⟨by first | rfl | (simp [errW_none, errW_some] <;> rfl) | (simp only [← hji3]; first | rfl | (simp [errW_none, errW_some] <;> rfl)) | (simp [*, errW_none, errW_some] <;> rfl), by repeat (first | (with_reducible first | exact HB.out | apply below_alloc | apply pw_below_drewN | apply below_drew1 | refine below_set ?_ GE587.out | refine below_set ?_ GE588.out) | exact HB.out)⟩
    · rw [if_neg c5] at H
      exact absurd H (by simp)
  · rw [if_neg c4] at H
    exact absurd H (by simp)

/-! ### grid_Wall: function 19 -/
def grid_Wall.f (a0_0 : Int) (a0_1 : Int) (l0_2 : List Bool) (a1_0 : Int) (a1_1 : Int) : Option (Bool) := (grid_In.f a0_0 a0_1 l0_2 a1_0 a1_1).bind fun t594 => (if t594 = true then ((grid_wall.f a0_0 a0_1 l0_2 a1_0 a1_1).bind fun t595 => (some t595)) else (some true))
def grid_Wall.Post (r : Bool) (S : Nat → Prop) (L : List Asr) (w : World) (e : Ending) (w' : World) : Prop := e = .returned (.bool r) ∧ SL (L) w' S ∧ Keep S w w'
set_option maxHeartbeats 8000000 in
set_option maxRecDepth 100000 in
theorem grid_Wall.slcalls (a0_0 : Int) (a0_1 : Int) (A0_2 : Option Addr) (c0_2 : Nat) (l0_2 : List Bool) (a1_0 : Int) (a1_1 : Int) (r : Bool) (S : Nat → Prop) (L : List Asr) (w : World) (hf : Fresh S w) (hs : SL (L) w S) (hr0_2 : RO S w (fun w_ => Kd.C Kd.bool w_ A0_2 l0_2.length l0_2)) (hc0_2 : l0_2.length ≤ c0_2) (h : grid_Wall.f a0_0 a0_1 l0_2 a1_0 a1_1 = some r) :
    Calls Try.prog 19 #[.agg #[.int .i64 a0_0, .int .i64 a0_1, .slice A0_2 l0_2.length c0_2], .agg #[.int .i64 a1_0, .int .i64 a1_1]] w (grid_Wall.Post r S L w) := by
  have HR0_2 := Aside0.mk hr0_2
  have HC0_2 := Aside0.mk hc0_2
  clear hr0_2 hc0_2
  have HF := Aside0.mk hf
  have HS := Aside0.mk hs
  have HK := Aside0.mk (Keep.refl S w)
  clear hf hs
  have hu24 := Try.underlying24
  have hu26 := Try.underlying26
  have H : ((grid_In.f a0_0 a0_1 l0_2 a1_0 a1_1).bind fun t594 => (if t594 = true then ((grid_wall.f a0_0 a0_1 l0_2 a1_0 a1_1).bind fun t595 => (some t595)) else (some true))) = some r := h
  clear h
  replace H := Option.bind_eq_some_iff.1 H
  obtain ⟨t594, Hc10, H⟩ := H
  try dsimp only at H
  have Hc1 := Aside0.mk Hc10
  clear Hc10
  have H' := Aside0.mk H
  clear H
  go_enter Try.func19, Try.ntmps19
  go_wp2_with (first | ((with_reducible refine gate_dst (N := 2) rfl ?_); refine wpList_plain rfl (fun K_ hK_ => ?_); refine op_box (S := S) (cs := #[.int .i64 a0_0, .int .i64 a0_1, .slice A0_2 l0_2.length c0_2]) (t := 24) (HF.out.keep HK.out) HS.out (by first | (go_simp; done) | (go_simp; rfl)) ?_; intro g3000091 w2 hs_ hk_; refine hK_ _ _ ?_; clear hK_ K_; replace HS := Aside0.mk (hs_); replace HK := Aside0.mk (HK.out.trans hk_)) | ((with_reducible refine gate_dst (N := 3) rfl ?_); refine wpList_plain rfl (fun K_ hK_ => ?_); refine op_box (S := S) (cs := #[.int .i64 a1_0, .int .i64 a1_1]) (t := 26) (HF.out.keep HK.out) HS.out (by first | (go_simp; done) | (go_simp; rfl)) ?_; intro g3000092 w3 hs_ hk_; refine hK_ _ _ ?_; clear hK_ K_; replace HS := Aside0.mk (hs_); replace HK := Aside0.mk (HK.out.trans hk_); have hb_ := SL.at_ HS.out; have hz3000092_0_2 := ((blk_cell hb_ 0).trans rfl : _ = some (.int .i64 a1_0)); have hz3000092_1_2 := ((blk_cell hb_ 1).trans rfl : _ = some (.int .i64 a1_1)); clear hb_; have hb_ := SL.at_ (SL.get1 HS.out); have hz3000091_0_2 := ((blk_cell hb_ 0).trans rfl : _ = some (.int .i64 a0_0)); have hz3000091_1_2 := ((blk_cell hb_ 1).trans rfl : _ = some (.int .i64 a0_1)); have hz3000091_2_2 := ((blk_cell hb_ 2).trans rfl : _ = some (.slice A0_2 l0_2.length c0_2)); clear hb_) | ((with_reducible refine gate_dst (N := 7) rfl ?_); refine goesL_ (some 7) rfl rfl Try.func16 (by kernel_rfl) rfl #[.agg #[.int .i64 a0_0, .int .i64 a0_1, .slice A0_2 l0_2.length c0_2], .agg #[.int .i64 a1_0, .int .i64 a1_1]] rfl (by (try simp only [List.map_toArray, List.map_cons, List.map_nil]); first | done | rfl | (simp; done)) ?_; (with_reducible refine (grid_In.calls _ _ _ _ _ _ _ _ _ (RO.at_ HR0_2.out HK.out) HC0_2.out Hc1.out).mono ?_); rintro e_ w4 ⟨rfl, hb_⟩; refine ⟨_, rfl, ?_⟩; replace HS := Aside0.mk (HS.out.below hb_); replace HK := Aside0.mk (HK.out.trans (Keep.below hb_)); (try clear hz3000091_0_2 hz3000091_1_2 hz3000091_2_2); (try clear hz3000092_0_2 hz3000092_1_2); refine stop_ ?_; intro G_ hG_))
  have H := H'.out
  clear H'
  by_cases c5 : t594 = true
  · subst c5
    rw [if_pos rfl] at H
    replace H := Option.bind_eq_some_iff.1 H
    obtain ⟨t595, Hc60, H⟩ := H
    try dsimp only at H
    have Hc6 := Aside0.mk Hc60
    clear Hc60
    obtain rfl := Option.some.inj H
    have hb_ := SL.at_ HS.out
    have hz3000092_0_0 := ((blk_cell hb_ 0).trans rfl : _ = some (.int .i64 a1_0))
    have hz3000092_1_0 := ((blk_cell hb_ 1).trans rfl : _ = some (.int .i64 a1_1))
    clear hb_
    have hb_ := SL.at_ (SL.get1 HS.out)
    have hz3000091_0_0 := ((blk_cell hb_ 0).trans rfl : _ = some (.int .i64 a0_0))
    have hz3000091_1_0 := ((blk_cell hb_ 1).trans rfl : _ = some (.int .i64 a0_1))
    have hz3000091_2_0 := ((blk_cell hb_ 2).trans rfl : _ = some (.slice A0_2 l0_2.length c0_2))
    clear hb_
    refine hG_.out ?_
    go_wp2_with (first | ((with_reducible refine gate_dst (N := 12) rfl ?_); (try (refine gate_guard (by rfl) ?_; dsimp only)); refine goesL_ (some 12) rfl rfl Try.func37 (by kernel_rfl) rfl #[.agg #[.int .i64 a0_0, .int .i64 a0_1, .slice A0_2 l0_2.length c0_2], .agg #[.int .i64 a1_0, .int .i64 a1_1]] rfl (by (try simp only [List.map_toArray, List.map_cons, List.map_nil]); first | done | rfl | (simp; done)) ?_; (with_reducible refine (grid_wall.calls _ _ _ _ _ _ _ _ _ (RO.at_ HR0_2.out HK.out) HC0_2.out Hc6.out).mono ?_); rintro e_ w7 ⟨rfl, hb_⟩; refine ⟨_, rfl, ?_⟩; replace HS := Aside0.mk (HS.out.below hb_); replace HK := Aside0.mk (HK.out.trans (Keep.below hb_)); (try clear hz3000091_0_0 hz3000091_1_0 hz3000091_2_0); (try clear hz3000092_0_0 hz3000092_1_0)))
    go_ret
    replace HS := Aside0.mk (SL.tail (SL.tail HS.out))
    unfold grid_Wall.Post
    exact ⟨by first | rfl | (simp; done) | (simp [*]; done), HS.out, HK.out⟩
  · replace c5 := Bool.eq_false_iff.mpr c5
    subst c5
    rw [if_neg (show ¬ (false = true) by decide)] at H
    obtain rfl := Option.some.inj H
    refine hG_.out ?_
    go_wp2
    go_ret
    replace HS := Aside0.mk (SL.tail (SL.tail HS.out))
    unfold grid_Wall.Post
    exact ⟨by first | rfl | (simp; done) | (simp [*]; done), HS.out, HK.out⟩
theorem grid_Wall.calls (a0_0 : Int) (a0_1 : Int) (A0_2 : Option Addr) (c0_2 : Nat) (l0_2 : List Bool) (a1_0 : Int) (a1_1 : Int) (r : Bool) (w : World) (hr0_2 : Kd.C Kd.bool w A0_2 l0_2.length l0_2) (hc0_2 : l0_2.length ≤ c0_2) (h : grid_Wall.f a0_0 a0_1 l0_2 a1_0 a1_1 = some r) :
    Calls Try.prog 19 #[.agg #[.int .i64 a0_0, .int .i64 a0_1, .slice A0_2 l0_2.length c0_2], .agg #[.int .i64 a1_0, .int .i64 a1_1]] w fun e w' => e = .returned (.bool r) ∧ Below w.heap.size w w' :=
  (grid_Wall.slcalls a0_0 a0_1 A0_2 c0_2 l0_2 a1_0 a1_1 r (news w) [] w (fresh_news w) trivial (RO.top hr0_2) hc0_2 h).mono fun _ _ h => ⟨h.1, h.2.2.to_below⟩

/-! ### grid_Around_1: function 52 -/
def grid_Around_1.f (k : Nat) (a0 : Int) (a1_0 : Int) : Option (Int) := (sat_Sub.f k a0 a1_0).bind fun t656 => (some (mx 0 t656))
theorem grid_Around_1.mono : ∀ a0 a1 k, LeO (grid_Around_1.f k a0 a1) (grid_Around_1.f (k + 1) a0 a1) := by
  intro a0 a1 k
  unfold grid_Around_1.f
  repeat' first
      | (with_reducible exact sat_Sub.mono _ _ _)
      | (with_reducible exact LeO.refl _)
      | (with_reducible exact LeO.none _)
      | (with_reducible refine LeO.ite ?_ ?_)
      | (with_reducible refine LeO.bind ?_ (fun _ => ?_))
      | exact sat_Sub.mono _ _ _
      | exact LeO.none _
      | refine LeO.ite ?_ ?_
      | refine LeO.bind ?_ (fun _ => ?_)
set_option maxHeartbeats 8000000 in
set_option maxRecDepth 100000 in
theorem grid_Around_1.calls (k : Nat) (a0 : Int) (G1 : Nat) (a1_0 : Int) (r : Int) (w : World) (hk1 : w.heap[G1]? = some (.cells #[.int .i64 a1_0] 3 (0, 0))) (h : grid_Around_1.f k a0 a1_0 = some r) :
    Calls Try.prog 52 #[.int .i64 a0, .pointer (some ⟨G1, 0, none⟩)] w fun e w' => e = .returned (.int .i64 r) ∧ Below w.heap.size w w' := by
  have BK1 := Aside0.mk hk1
  clear hk1
  have HB := Aside0.mk (Below.refl w.heap.size w)
  have H : ((sat_Sub.f k a0 a1_0).bind fun t656 => (some (mx 0 t656))) = some r := h
  clear h
  replace H := Option.bind_eq_some_iff.mp H
  obtain ⟨t656, A30, H⟩ := H
  replace H : (some (mx 0 t656)) = some r := H
  have A3 := Aside0.mk A30
  clear A30
  obtain ⟨ji4, hji4⟩ : ∃ j_ : Int, (mx 0 t656) = j_ := ⟨_, rfl⟩
  replace H : (some ji4) = some r := by first | (rw [hji4] at H; exact H) | (simp only [hji4] at H ⊢; exact H)
  (try rw [hji4] at A3)
  (try (have hji4l : 0 ≤ ji4 := by (rw [← hji4]; unfold mx; (repeat' split) <;> omega)))
  (try (have hji4m : 0 ≤ ji4 := by omega))
  have hji4_ : (if 0 < t656 then t656 else 0) = ji4 := hji4
  obtain rfl := Option.some.inj H
  have hcz5_0 : w.cell? ⟨G1, 0, none⟩ = some (.int .i64 a1_0) := (blk_cell BK1.out 0).trans rfl
  have hfz5_0 := blk_frozen BK1.out 0
  go_enter Try.func52, Try.ntmps52
  go_wp2_with (first | ((with_reducible refine gate_callee (f := 51) rfl ?_); refine goesL_ (some 6) rfl rfl Try.func51 (by kernel_rfl) rfl #[.int .i64 a0, .int .i64 a1_0] rfl (by (try simp only [List.map_toArray, List.map_cons, List.map_nil]); first | done | rfl | (simp only [List.length_drop, List.length_take]; rfl)) ?_; (with_reducible refine (sat_Sub.calls k a0 a1_0 t656 _ A3.out).mono ?_); rintro e w' ⟨rfl, ⟨nd, rfl⟩⟩; refine ⟨_, rfl, ?_⟩))
  go_ret
  exact ⟨by first | rfl | (simp [errW_none, errW_some] <;> rfl) | (simp only [← hji4]; first | rfl | (simp [errW_none, errW_some] <;> rfl)) | (simp [*, errW_none, errW_some] <;> rfl), by repeat (first | (with_reducible first | exact HB.out | apply below_alloc | apply pw_below_drewN | apply below_drew1 | refine below_set ?_ GE1.out) | exact HB.out)⟩

/-! ### grid_Around_2: function 53 -/
def grid_Around_2.f (k : Nat) (a0 : Int) (a1 : Int) (a2_0 : Int) : Option (Int) := (sat_Add.f k a0 a2_0).bind fun t657 => ((sat_Add.f k t657 1).bind fun t658 => (some (mn a1 t658)))
theorem grid_Around_2.mono : ∀ a0 a1 a2 k, LeO (grid_Around_2.f k a0 a1 a2) (grid_Around_2.f (k + 1) a0 a1 a2) := by
  intro a0 a1 a2 k
  unfold grid_Around_2.f
  repeat' first
      | (with_reducible exact sat_Add.mono _ _ _)
      | (with_reducible exact LeO.refl _)
      | (with_reducible exact LeO.none _)
      | (with_reducible refine LeO.ite ?_ ?_)
      | (with_reducible refine LeO.bind ?_ (fun _ => ?_))
      | exact sat_Add.mono _ _ _
      | exact LeO.none _
      | refine LeO.ite ?_ ?_
      | refine LeO.bind ?_ (fun _ => ?_)
set_option maxHeartbeats 8000000 in
set_option maxRecDepth 100000 in
theorem grid_Around_2.calls (k : Nat) (a0 : Int) (a1 : Int) (G2 : Nat) (a2_0 : Int) (r : Int) (w : World) (hk2 : w.heap[G2]? = some (.cells #[.int .i64 a2_0] 3 (0, 0))) (h : grid_Around_2.f k a0 a1 a2_0 = some r) :
    Calls Try.prog 53 #[.int .i64 a0, .int .i64 a1, .pointer (some ⟨G2, 0, none⟩)] w fun e w' => e = .returned (.int .i64 r) ∧ Below w.heap.size w w' := by
  have BK2 := Aside0.mk hk2
  clear hk2
  have HB := Aside0.mk (Below.refl w.heap.size w)
  have H : ((sat_Add.f k a0 a2_0).bind fun t657 => ((sat_Add.f k t657 1).bind fun t658 => (some (mn a1 t658)))) = some r := h
  clear h
  replace H := Option.bind_eq_some_iff.mp H
  obtain ⟨t657, A40, H⟩ := H
  replace H : ((sat_Add.f k t657 1).bind fun t658 => (some (mn a1 t658))) = some r := H
  have A4 := Aside0.mk A40
  clear A40
  replace H := Option.bind_eq_some_iff.mp H
  obtain ⟨t658, A50, H⟩ := H
  replace H : (some (mn a1 t658)) = some r := H
  have A5 := Aside0.mk A50
  clear A50
  obtain ⟨ji6, hji6⟩ : ∃ j_ : Int, (mn a1 t658) = j_ := ⟨_, rfl⟩
  replace H : (some ji6) = some r := by first | (rw [hji6] at H; exact H) | (simp only [hji6] at H ⊢; exact H)
  (try rw [hji6] at A4)
  (try rw [hji6] at A5)
  have hji6_ : (if t658 < a1 then t658 else a1) = ji6 := hji6
  obtain rfl := Option.some.inj H
  have hcz7_0 : w.cell? ⟨G2, 0, none⟩ = some (.int .i64 a2_0) := (blk_cell BK2.out 0).trans rfl
  have hfz7_0 := blk_frozen BK2.out 0
  go_enter Try.func53, Try.ntmps53
  go_wp2_with (first | ((with_reducible refine gate_callee (f := 43) rfl ?_); refine goesL_ (some 9) rfl rfl Try.func43 (by kernel_rfl) rfl #[.int .i64 a0, .int .i64 a2_0] rfl (by (try simp only [List.map_toArray, List.map_cons, List.map_nil]); first | done | rfl | (simp only [List.length_drop, List.length_take]; rfl)) ?_; (with_reducible refine (sat_Add.calls k a0 a2_0 t657 _ A4.out).mono ?_); rintro e w' ⟨rfl, ⟨nd, rfl⟩⟩; refine ⟨_, rfl, ?_⟩) | ((with_reducible refine gate_callee (f := 43) rfl ?_); refine goesL_ (some 10) rfl rfl Try.func43 (by kernel_rfl) rfl #[.int .i64 t657, .int .i64 1] rfl (by (try simp only [List.map_toArray, List.map_cons, List.map_nil]); first | done | rfl | (simp only [List.length_drop, List.length_take]; rfl)) ?_; (with_reducible refine (sat_Add.calls k t657 1 t658 _ A5.out).mono ?_); rintro e w' ⟨rfl, ⟨nd, rfl⟩⟩; refine ⟨_, rfl, ?_⟩))
  go_ret
  exact ⟨by first | rfl | (simp [errW_none, errW_some] <;> rfl) | (simp only [← hji6]; first | rfl | (simp [errW_none, errW_some] <;> rfl)) | (simp [*, errW_none, errW_some] <;> rfl), by repeat (first | (with_reducible first | exact HB.out | apply below_alloc | apply pw_below_drewN | apply below_drew1 | refine below_set ?_ GE2.out) | exact HB.out)⟩

/-! ### grid_Near: function 54 -/
def grid_Near.f (k : Nat) (a0_0 : Int) (a0_1 : Int) (a1_0 : Int) (a1_1 : Int) (a2 : Int) : Option (Bool) := if a2 ≥ 0 then ((grid_Square.f k a0_0 a0_1 a1_0 a1_1).bind fun t661 => ((sat_Mul.f a2 a2).bind fun t662 => (some (decide (t661 ≤ t662))))) else (some false)
theorem grid_Near.mono : ∀ a0 a1 a2 a3 a4 k, LeO (grid_Near.f k a0 a1 a2 a3 a4) (grid_Near.f (k + 1) a0 a1 a2 a3 a4) := by
  intro a0 a1 a2 a3 a4 k
  unfold grid_Near.f
  repeat' first
      | (with_reducible exact grid_Square.mono _ _ _ _ _)
      | (with_reducible exact LeO.refl _)
      | (with_reducible exact LeO.none _)
      | (with_reducible refine LeO.ite ?_ ?_)
      | (with_reducible refine LeO.bind ?_ (fun _ => ?_))
      | exact grid_Square.mono _ _ _ _ _
      | exact LeO.none _
      | refine LeO.ite ?_ ?_
      | refine LeO.bind ?_ (fun _ => ?_)
set_option maxHeartbeats 8000000 in
set_option maxRecDepth 100000 in
theorem grid_Near.calls (k : Nat) (a0_0 : Int) (a0_1 : Int) (a1_0 : Int) (a1_1 : Int) (a2 : Int) (r : Bool) (w : World) (h : grid_Near.f k a0_0 a0_1 a1_0 a1_1 a2 = some r) :
    Calls Try.prog 54 #[.agg #[.int .i64 a0_0, .int .i64 a0_1], .agg #[.int .i64 a1_0, .int .i64 a1_1], .int .i64 a2] w fun e w' => e = .returned (.bool r) ∧ Below w.heap.size w w' := by
  have hu26 := Try.underlying26
  have HB := Aside0.mk (Below.refl w.heap.size w)
  have H : (if a2 ≥ 0 then ((grid_Square.f k a0_0 a0_1 a1_0 a1_1).bind fun t661 => ((sat_Mul.f a2 a2).bind fun t662 => (some (decide (t661 ≤ t662))))) else (some false)) = some r := h
  clear h
  by_cases c4 : a2 ≥ 0
  · rw [if_pos c4] at H
    have c4b0 : decide (0 ≤ a2) = true := decide_eq_true c4
    clear c4
    replace H := Option.bind_eq_some_iff.mp H
    obtain ⟨t661, A50, H⟩ := H
    replace H : ((sat_Mul.f a2 a2).bind fun t662 => (some (decide (t661 ≤ t662)))) = some r := H
    have A5 := Aside0.mk A50
    clear A50
    replace H := Option.bind_eq_some_iff.mp H
    obtain ⟨t662, A60, H⟩ := H
    replace H : (some (decide (t661 ≤ t662))) = some r := H
    have A6 := Aside0.mk A60
    clear A60
    obtain rfl := Option.some.inj H
    go_enter Try.func54, Try.ntmps54
    go_wp2_with (first | ((with_reducible refine gate_dst (N := 3) rfl ?_); refine box_event ?hg (N := 3) ?hd (cs := #[.int .i64 a0_0, .int .i64 a0_1]) (t := 26) ?hr ?_; (case hd => rfl); (case hg => rfl); (case hr => first | (go_simp; done) | (go_simp; rfl)); intro gb659 hg w7 hbox hb; have n0_ := Aside0.mk (below_step (by repeat (first | (with_reducible first | exact HB.out | apply below_alloc | apply pw_below_drewN | apply below_drew1) | exact HB.out)) hb); have n1_ := Aside0.mk (hbox); have n2_ := Aside0.mk ((by rw [hg]; exact (below_size (by repeat (first | (with_reducible first | exact HB.out | apply below_alloc | apply pw_below_drewN | apply below_drew1) | exact HB.out))) : w.heap.size ≤ gb659)); have n3_ := Aside0.mk ((by rw [hg]; exact (below_size (by repeat (first | (with_reducible first | exact HB.out | apply below_alloc | apply pw_below_drewN | apply below_drew1) | exact HB.out))) : w.heap.size ≤ gb659)); clear HB; have HB := n0_; have BK659 := n1_; have GW659 := n2_; have GE659 := n3_; clear n0_ n1_ n2_ n3_; clear hb hbox hg) | ((with_reducible refine gate_dst (N := 4) rfl ?_); refine box_event ?hg (N := 4) ?hd (cs := #[.int .i64 a1_0, .int .i64 a1_1]) (t := 26) ?hr ?_; (case hd => rfl); (case hg => rfl); (case hr => first | (go_simp; done) | (go_simp; rfl)); intro gb660 hg w8 hbox hb; have n0_ := Aside0.mk (blk_below (g := gb659) (o := .cells #[.int .i64 a0_0, .int .i64 a0_1] 26 (0, 0)) (by (with_reducible repeat (first | refine blk_drewN ?_ _ | refine blk_drew ?_ | refine blk_alloc ?_ _)); exact BK659.out) hb); have n1_ := Aside0.mk (below_step (by repeat (first | (with_reducible first | exact HB.out | apply below_alloc | apply pw_below_drewN | apply below_drew1 | refine below_set ?_ GE659.out) | exact HB.out)) hb); have n2_ := Aside0.mk (hbox); have n3_ := Aside0.mk ((by rw [hg]; exact (below_size (by repeat (first | (with_reducible first | exact HB.out | apply below_alloc | apply pw_below_drewN | apply below_drew1 | refine below_set ?_ GE659.out) | exact HB.out))) : w.heap.size ≤ gb660)); have n4_ := Aside0.mk ((by rw [hg]; exact (below_size (by repeat (first | (with_reducible first | exact HB.out | apply below_alloc | apply pw_below_drewN | apply below_drew1 | refine below_set ?_ GE659.out) | exact HB.out))) : w.heap.size ≤ gb660)); have n5_ := Aside0.mk ((by rw [hg]; exact Nat.ne_of_lt (blk_lt (g := gb659) (o := .cells #[.int .i64 a0_0, .int .i64 a0_1] 26 (0, 0)) (by (with_reducible repeat (first | refine blk_drewN ?_ _ | refine blk_drew ?_ | refine blk_alloc ?_ _)); exact BK659.out)) : gb659 ≠ gb660)); have n6_ := Aside0.mk ((by rw [hg]; exact Nat.ne_of_gt (blk_lt (g := gb659) (o := .cells #[.int .i64 a0_0, .int .i64 a0_1] 26 (0, 0)) (by (with_reducible repeat (first | refine blk_drewN ?_ _ | refine blk_drew ?_ | refine blk_alloc ?_ _)); exact BK659.out)) : gb660 ≠ gb659)); clear BK659; clear HB; have BK659 := n0_; have HB := n1_; have BK660 := n2_; have GW660 := n3_; have GE660 := n4_; have NB659_660 := n5_; have NB660_659 := n6_; clear n0_ n1_ n2_ n3_ n4_ n5_ n6_; clear hb hbox hg; have hnb9 := NB659_660.out; have hnc9 := NB660_659.out; have hcz10_0 : w8.cell? ⟨gb659, 0, none⟩ = some (.int .i64 a0_0) := (blk_cell BK659.out 0).trans rfl; have hcz10_1 : w8.cell? ⟨gb659, 1, none⟩ = some (.int .i64 a0_1) := (blk_cell BK659.out 1).trans rfl; have hfz10_0 := blk_frozen BK659.out 0; have hfz10_1 := blk_frozen BK659.out 1; have hcz11_0 : w8.cell? ⟨gb660, 0, none⟩ = some (.int .i64 a1_0) := (blk_cell BK660.out 0).trans rfl; have hcz11_1 : w8.cell? ⟨gb660, 1, none⟩ = some (.int .i64 a1_1) := (blk_cell BK660.out 1).trans rfl; have hfz11_0 := blk_frozen BK660.out 0; have hfz11_1 := blk_frozen BK660.out 1) | (go_at_call 27; (with_reducible refine (grid_Square.calls k a0_0 a0_1 a1_0 a1_1 t661 _ A5.out).mono ?_); rintro e w12 ⟨rfl, hb⟩; have n0_ := Aside0.mk (blk_below (g := gb659) (o := .cells #[.int .i64 a0_0, .int .i64 a0_1] 26 (0, 0)) (by (with_reducible repeat (first | refine blk_drewN ?_ _ | refine blk_drew ?_ | refine blk_alloc ?_ _)); exact BK659.out) hb); have n1_ := Aside0.mk (blk_below (g := gb660) (o := .cells #[.int .i64 a1_0, .int .i64 a1_1] 26 (0, 0)) (by (with_reducible repeat (first | refine blk_drewN ?_ _ | refine blk_drew ?_ | refine blk_alloc ?_ _)); exact BK660.out) hb); have n2_ := Aside0.mk (below_step (by repeat (first | (with_reducible first | exact HB.out | apply below_alloc | apply pw_below_drewN | apply below_drew1 | refine below_set ?_ GE659.out | refine below_set ?_ GE660.out) | exact HB.out)) hb); clear BK659; clear BK660; clear HB; have BK659 := n0_; have BK660 := n1_; have HB := n2_; clear n0_ n1_ n2_; (try clear hb); (try clear hb2); (try clear hk); (try clear hi)) | (go_at_call 44; (with_reducible refine calls_of_args (args' := #[.int .i64 a2, .int .i64 a2]) rfl ?_); (with_reducible refine (sat_Mul.calls a2 a2 t662 _ A6.out).mono ?_); rintro e w' ⟨rfl, ⟨nd, rfl⟩⟩))
    go_ret
    exact ⟨by first | rfl | (simp [errW_none, errW_some] <;> rfl) | (simp [*, errW_none, errW_some] <;> rfl), by repeat (first | (with_reducible first | exact HB.out | apply below_alloc | apply pw_below_drewN | apply below_drew1 | refine below_set ?_ GE659.out | refine below_set ?_ GE660.out) | exact HB.out)⟩
  · rw [if_neg c4] at H
    have c4b0 : decide (0 ≤ a2) = false := decide_eq_false c4
    clear c4
    obtain rfl := Option.some.inj H
    go_enter Try.func54, Try.ntmps54
    go_wp2_with (first | ((with_reducible refine gate_dst (N := 3) rfl ?_); refine box_event ?hg (N := 3) ?hd (cs := #[.int .i64 a0_0, .int .i64 a0_1]) (t := 26) ?hr ?_; (case hd => rfl); (case hg => rfl); (case hr => first | (go_simp; done) | (go_simp; rfl)); intro gb659 hg w13 hbox hb; have n0_ := Aside0.mk (below_step (by repeat (first | (with_reducible first | exact HB.out | apply below_alloc | apply pw_below_drewN | apply below_drew1) | exact HB.out)) hb); have n1_ := Aside0.mk (hbox); have n2_ := Aside0.mk ((by rw [hg]; exact (below_size (by repeat (first | (with_reducible first | exact HB.out | apply below_alloc | apply pw_below_drewN | apply below_drew1) | exact HB.out))) : w.heap.size ≤ gb659)); have n3_ := Aside0.mk ((by rw [hg]; exact (below_size (by repeat (first | (with_reducible first | exact HB.out | apply below_alloc | apply pw_below_drewN | apply below_drew1) | exact HB.out))) : w.heap.size ≤ gb659)); clear HB; have HB := n0_; have BK659 := n1_; have GW659 := n2_; have GE659 := n3_; clear n0_ n1_ n2_ n3_; clear hb hbox hg) | ((with_reducible refine gate_dst (N := 4) rfl ?_); refine box_event ?hg (N := 4) ?hd (cs := #[.int .i64 a1_0, .int .i64 a1_1]) (t := 26) ?hr ?_; (case hd => rfl); (case hg => rfl); (case hr => first | (go_simp; done) | (go_simp; rfl)); intro gb660 hg w14 hbox hb; have n0_ := Aside0.mk (blk_below (g := gb659) (o := .cells #[.int .i64 a0_0, .int .i64 a0_1] 26 (0, 0)) (by (with_reducible repeat (first | refine blk_drewN ?_ _ | refine blk_drew ?_ | refine blk_alloc ?_ _)); exact BK659.out) hb); have n1_ := Aside0.mk (below_step (by repeat (first | (with_reducible first | exact HB.out | apply below_alloc | apply pw_below_drewN | apply below_drew1 | refine below_set ?_ GE659.out) | exact HB.out)) hb); have n2_ := Aside0.mk (hbox); have n3_ := Aside0.mk ((by rw [hg]; exact (below_size (by repeat (first | (with_reducible first | exact HB.out | apply below_alloc | apply pw_below_drewN | apply below_drew1 | refine below_set ?_ GE659.out) | exact HB.out))) : w.heap.size ≤ gb660)); have n4_ := Aside0.mk ((by rw [hg]; exact (below_size (by repeat (first | (with_reducible first | exact HB.out | apply below_alloc | apply pw_below_drewN | apply below_drew1 | refine below_set ?_ GE659.out) | exact HB.out))) : w.heap.size ≤ gb660)); have n5_ := Aside0.mk ((by rw [hg]; exact Nat.ne_of_lt (blk_lt (g := gb659) (o := .cells #[.int .i64 a0_0, .int .i64 a0_1] 26 (0, 0)) (by (with_reducible repeat (first | refine blk_drewN ?_ _ | refine blk_drew ?_ | refine blk_alloc ?_ _)); exact BK659.out)) : gb659 ≠ gb660)); have n6_ := Aside0.mk ((by rw [hg]; exact Nat.ne_of_gt (blk_lt (g := gb659) (o := .cells #[.int .i64 a0_0, .int .i64 a0_1] 26 (0, 0)) (by (with_reducible repeat (first | refine blk_drewN ?_ _ | refine blk_drew ?_ | refine blk_alloc ?_ _)); exact BK659.out)) : gb660 ≠ gb659)); clear BK659; clear HB; have BK659 := n0_; have HB := n1_; have BK660 := n2_; have GW660 := n3_; have GE660 := n4_; have NB659_660 := n5_; have NB660_659 := n6_; clear n0_ n1_ n2_ n3_ n4_ n5_ n6_; clear hb hbox hg))
    go_ret
    exact ⟨by first | rfl | (simp [errW_none, errW_some] <;> rfl) | (simp [*, errW_none, errW_some] <;> rfl), by repeat (first | (with_reducible first | exact HB.out | apply below_alloc | apply pw_below_drewN | apply below_drew1 | refine below_set ?_ GE659.out | refine below_set ?_ GE660.out) | exact HB.out)⟩

/-! ### grid_Around_1_i1: function 52 -/
def grid_Around_1_i1.f (k : Nat) (a0 : Int) (s0_0 : Int) : Option (Int × Int) := (sat_Sub.f k a0 s0_0).bind fun t678 => ((some (mx 0 t678 : Int)).bind fun j679 => (some (j679, s0_0)))
theorem grid_Around_1_i1.mono : ∀ a0 a1 k, LeO (grid_Around_1_i1.f k a0 a1) (grid_Around_1_i1.f (k + 1) a0 a1) := by
  intro a0 a1 k
  unfold grid_Around_1_i1.f
  repeat' first
      | (with_reducible exact sat_Sub.mono _ _ _)
      | (with_reducible exact LeO.refl _)
      | (with_reducible exact LeO.none _)
      | (with_reducible refine LeO.ite ?_ ?_)
      | (with_reducible refine LeO.bind ?_ (fun _ => ?_))
      | exact sat_Sub.mono _ _ _
      | exact LeO.none _
      | refine LeO.ite ?_ ?_
      | refine LeO.bind ?_ (fun _ => ?_)
def grid_Around_1_i1.Post (b0 : Nat) (r1 : Int) (r2 : Int) (S : Nat → Prop) (L : List Asr) (w : World) (e : Ending) (w' : World) : Prop := e = .returned (.int .i64 r1) ∧ SL (cells b0 3 [.int .i64 r2].toArray :: L) w' S ∧ Keep S w w'
set_option maxHeartbeats 8000000 in
set_option maxRecDepth 100000 in
theorem grid_Around_1_i1.slcalls (k : Nat) (a0 : Int) (b0 : Nat) (s0_0 : Int) (r1 : Int) (r2 : Int) (S : Nat → Prop) (L : List Asr) (w : World) (hf : Fresh S w) (hs : SL (cells b0 3 [.int .i64 s0_0].toArray :: L) w S) (h : grid_Around_1_i1.f k a0 s0_0 = some (r1, r2)) :
    Calls Try.prog 52 #[.int .i64 a0, .pointer (some ⟨b0, 0, none⟩)] w (grid_Around_1_i1.Post b0 r1 r2 S L w) := by
  have HF := Aside0.mk hf
  have HS := Aside0.mk hs
  have HK := Aside0.mk (Keep.refl S w)
  clear hf hs
  have H : ((sat_Sub.f k a0 s0_0).bind fun t678 => ((some (mx 0 t678 : Int)).bind fun j679 => (some (j679, s0_0)))) = some (r1, r2) := h
  clear h
  replace H := Option.bind_eq_some_iff.1 H
  obtain ⟨t678, Hc10, H⟩ := H
  try dsimp only at H
  have Hc1 := Aside0.mk Hc10
  clear Hc10
  replace H := Option.bind_eq_some_iff.1 H
  obtain ⟨j679, hj6790, H⟩ := H
  try dsimp only at H
  have hj679 := Option.some.inj hj6790
  clear hj6790
  have hj679_ : (if 0 < t678 then t678 else 0) = j679 := hj679
  simp only [Option.some.injEq, Prod.mk.injEq] at H
  obtain ⟨rfl, rfl⟩ := H
  have hb_ := SL.at_ HS.out
  have hz0_0_0 := ((blk_cell hb_ 0).trans rfl : _ = some (.int .i64 s0_0))
  clear hb_
  go_enter Try.func52, Try.ntmps52
  go_wp2_with (first | ((with_reducible refine gate_dst (N := 6) rfl ?_); refine goesL_ (some 6) rfl rfl Try.func51 (by kernel_rfl) rfl #[.int .i64 a0, .int .i64 s0_0] rfl (by (try simp only [List.map_toArray, List.map_cons, List.map_nil]); first | done | rfl | (simp; done)) ?_; (with_reducible refine (sat_Sub.calls k _ _ _ _  Hc1.out).mono ?_); rintro e_ w2 ⟨rfl, hb_⟩; refine ⟨_, rfl, ?_⟩; replace hb_ := Drawn0.below hb_; replace HS := Aside0.mk (HS.out.below hb_); replace HK := Aside0.mk (HK.out.trans (Keep.below hb_)); (try clear hz0_0_0)))
  go_ret
  unfold grid_Around_1_i1.Post
  exact ⟨by first | rfl | (simp; done) | (simp [*]; done), HS.out, HK.out⟩

end Go.Proofs.Ytljmecjciifceaa.XSG
