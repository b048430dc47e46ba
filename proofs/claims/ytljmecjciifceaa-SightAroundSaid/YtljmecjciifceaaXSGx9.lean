-- Written by xprint.py (a program of this session) for this claim
import Derived.Test.YtljmecjciifceaaXSGx0
import Derived.Test.YtljmecjciifceaaXSGx8
namespace Go.Proofs.Ytljmecjciifceaa.XSG
open Go.Proofs.YtljmecjciifceaaV Go.Proofs.YtljmecjciifceaaS
open Go.RowKit Go.Proofs.YtljmecjciifceaaW.PrintWords Go.Proofs.YtljmecjciifceaaW.PrintLast Go.Proofs.YtljmecjciifceaaW.PrintMore
attribute [local go_sem] max2_int min2_int max_two min_two max_three min_three max_four min_four   -- for this text's walks alone
set_option linter.unusedVariables false
set_option linter.unusedSimpArgs false

/-! ### barrowref06_In: function 31 -/
def barrowref06_In.f (a0_0 : Int) (a0_1 : Int) (l0_2 : List Bool) (a1_0 : Int) (a1_1 : Int) : Option (Bool) := (barrowref06_Right.f a0_0 a0_1 l0_2).bind fun t436 => (if t436 = true then (if a1_0 ≥ 0 then (if a1_0 < a0_0 then (if a1_1 ≥ 0 then (if a1_1 < a0_1 then (some true) else (some false)) else (some false)) else (some false)) else (some false)) else (some false))
def barrowref06_In.Post (r : Bool) (S : Nat → Prop) (L : List Asr) (w : World) (e : Ending) (w' : World) : Prop := e = .returned (.bool r) ∧ SL (L) w' S ∧ Keep S w w'
set_option maxHeartbeats 8000000 in
set_option maxRecDepth 100000 in
theorem barrowref06_In.slcalls (a0_0 : Int) (a0_1 : Int) (A0_2 : Option Addr) (c0_2 : Nat) (l0_2 : List Bool) (a1_0 : Int) (a1_1 : Int) (r : Bool) (S : Nat → Prop) (L : List Asr) (w : World) (hf : Fresh S w) (hs : SL (L) w S) (hr0_2 : RO S w (fun w_ => Kd.C Kd.bool w_ A0_2 l0_2.length l0_2)) (hc0_2 : l0_2.length ≤ c0_2) (h : barrowref06_In.f a0_0 a0_1 l0_2 a1_0 a1_1 = some r) :
    Calls Try.prog 31 #[.agg #[.int .i64 a0_0, .int .i64 a0_1, .slice A0_2 l0_2.length c0_2], .agg #[.int .i64 a1_0, .int .i64 a1_1]] w (barrowref06_In.Post r S L w) := by
  have HR0_2 := Aside0.mk hr0_2
  have HC0_2 := Aside0.mk hc0_2
  clear hr0_2 hc0_2
  have HF := Aside0.mk hf
  have HS := Aside0.mk hs
  have HK := Aside0.mk (Keep.refl S w)
  clear hf hs
  have hu24 := Try.underlying24
  have hu26 := Try.underlying26
  have H : ((barrowref06_Right.f a0_0 a0_1 l0_2).bind fun t436 => (if t436 = true then (if a1_0 ≥ 0 then (if a1_0 < a0_0 then (if a1_1 ≥ 0 then (if a1_1 < a0_1 then (some true) else (some false)) else (some false)) else (some false)) else (some false)) else (some false))) = some r := h
  clear h
  replace H := Option.bind_eq_some_iff.1 H
  obtain ⟨t436, Hc10, H⟩ := H
  try dsimp only at H
  have Hc1 := Aside0.mk Hc10
  clear Hc10
  have H' := Aside0.mk H
  clear H
  go_enter Try.func31, Try.ntmps31
  go_wp2_with (first | ((with_reducible refine gate_dst (N := 2) rfl ?_); refine wpList_plain rfl (fun K_ hK_ => ?_); refine op_box (S := S) (cs := #[.int .i64 a0_0, .int .i64 a0_1, .slice A0_2 l0_2.length c0_2]) (t := 24) (HF.out.keep HK.out) HS.out (by first | (go_simp; done) | (go_simp; rfl)) ?_; intro g3000052 w2 hs_ hk_; refine hK_ _ _ ?_; clear hK_ K_; replace HS := Aside0.mk (hs_); replace HK := Aside0.mk (HK.out.trans hk_)) | ((with_reducible refine gate_dst (N := 3) rfl ?_); refine wpList_plain rfl (fun K_ hK_ => ?_); refine op_box (S := S) (cs := #[.int .i64 a1_0, .int .i64 a1_1]) (t := 26) (HF.out.keep HK.out) HS.out (by first | (go_simp; done) | (go_simp; rfl)) ?_; intro g3000053 w3 hs_ hk_; refine hK_ _ _ ?_; clear hK_ K_; replace HS := Aside0.mk (hs_); replace HK := Aside0.mk (HK.out.trans hk_); have hb_ := SL.at_ (SL.get1 HS.out); have hz3000052_0_2 := ((blk_cell hb_ 0).trans rfl : _ = some (.int .i64 a0_0)); have hz3000052_1_2 := ((blk_cell hb_ 1).trans rfl : _ = some (.int .i64 a0_1)); have hz3000052_2_2 := ((blk_cell hb_ 2).trans rfl : _ = some (.slice A0_2 l0_2.length c0_2)); clear hb_) | ((with_reducible refine gate_dst (N := 7) rfl ?_); refine goesL_ (some 7) rfl rfl Try.func48 (by kernel_rfl) rfl #[.agg #[.int .i64 a0_0, .int .i64 a0_1, .slice A0_2 l0_2.length c0_2]] rfl (by (try simp only [List.map_toArray, List.map_cons, List.map_nil]); first | done | rfl | (simp; done)) ?_; (with_reducible refine (barrowref06_Right.calls _ _ _ _ _ _ _ (RO.at_ HR0_2.out HK.out) HC0_2.out Hc1.out).mono ?_); rintro e_ w4 ⟨rfl, hb_⟩; refine ⟨_, rfl, ?_⟩; replace HS := Aside0.mk (HS.out.below hb_); replace HK := Aside0.mk (HK.out.trans (Keep.below hb_)); (try clear hz3000052_0_2 hz3000052_1_2 hz3000052_2_2); refine stop_ ?_; intro G_ hG_))
  have H := H'.out
  clear H'
  by_cases c5 : t436 = true
  · subst c5
    rw [if_pos rfl] at H
    by_cases c6 : a1_0 ≥ 0
    · rw [if_pos c6] at H
      have c6b0 : decide (0 ≤ a1_0) = true := decide_eq_true c6
      clear c6
      by_cases c7 : a1_0 < a0_0
      · rw [if_pos c7] at H
        have c7b0 : decide (a1_0 < a0_0) = true := decide_eq_true c7
        clear c7
        by_cases c8 : a1_1 ≥ 0
        · rw [if_pos c8] at H
          have c8b0 : decide (0 ≤ a1_1) = true := decide_eq_true c8
          clear c8
          by_cases c9 : a1_1 < a0_1
          · rw [if_pos c9] at H
            have c9b0 : decide (a1_1 < a0_1) = true := decide_eq_true c9
            clear c9
            obtain rfl := Option.some.inj H
            have hb_ := SL.at_ HS.out
            have hz3000053_0_0 := ((blk_cell hb_ 0).trans rfl : _ = some (.int .i64 a1_0))
            have hz3000053_1_0 := ((blk_cell hb_ 1).trans rfl : _ = some (.int .i64 a1_1))
            clear hb_
            have hb_ := SL.at_ (SL.get1 HS.out)
            have hz3000052_0_0 := ((blk_cell hb_ 0).trans rfl : _ = some (.int .i64 a0_0))
            have hz3000052_1_0 := ((blk_cell hb_ 1).trans rfl : _ = some (.int .i64 a0_1))
            have hz3000052_2_0 := ((blk_cell hb_ 2).trans rfl : _ = some (.slice A0_2 l0_2.length c0_2))
            clear hb_
            refine hG_.out ?_
            try simp only [c6b0, c7b0, c8b0, c9b0]
            go_wp2
            go_ret
            replace HS := Aside0.mk (SL.tail (SL.tail HS.out))
            unfold barrowref06_In.Post
            exact ⟨by first | rfl | (simp; done) | (simp [*]; done), HS.out, HK.out⟩
          · rw [if_neg c9] at H
            have c9b0 : decide (a1_1 < a0_1) = false := decide_eq_false c9
            clear c9
            obtain rfl := Option.some.inj H
            have hb_ := SL.at_ HS.out
            have hz3000053_0_0 := ((blk_cell hb_ 0).trans rfl : _ = some (.int .i64 a1_0))
            have hz3000053_1_0 := ((blk_cell hb_ 1).trans rfl : _ = some (.int .i64 a1_1))
            clear hb_
            have hb_ := SL.at_ (SL.get1 HS.out)
            have hz3000052_0_0 := ((blk_cell hb_ 0).trans rfl : _ = some (.int .i64 a0_0))
            have hz3000052_1_0 := ((blk_cell hb_ 1).trans rfl : _ = some (.int .i64 a0_1))
            have hz3000052_2_0 := ((blk_cell hb_ 2).trans rfl : _ = some (.slice A0_2 l0_2.length c0_2))
            clear hb_
            refine hG_.out ?_
            try simp only [c6b0, c7b0, c8b0, c9b0]
            go_wp2
            go_ret
            replace HS := Aside0.mk (SL.tail (SL.tail HS.out))
            unfold barrowref06_In.Post
            exact ⟨by first | rfl | (simp; done) | (simp [*]; done), HS.out, HK.out⟩
        · rw [if_neg c8] at H
          have c8b0 : decide (0 ≤ a1_1) = false := decide_eq_false c8
          clear c8
          obtain rfl := Option.some.inj H
          have hb_ := SL.at_ HS.out
          have hz3000053_0_0 := ((blk_cell hb_ 0).trans rfl : _ = some (.int .i64 a1_0))
          have hz3000053_1_0 := ((blk_cell hb_ 1).trans rfl : _ = some (.int .i64 a1_1))
          clear hb_
          have hb_ := SL.at_ (SL.get1 HS.out)
          have hz3000052_0_0 := ((blk_cell hb_ 0).trans rfl : _ = some (.int .i64 a0_0))
          have hz3000052_1_0 := ((blk_cell hb_ 1).trans rfl : _ = some (.int .i64 a0_1))
          have hz3000052_2_0 := ((blk_cell hb_ 2).trans rfl : _ = some (.slice A0_2 l0_2.length c0_2))
          clear hb_
          refine hG_.out ?_
          try simp only [c6b0, c7b0, c8b0]
          go_wp2
          go_ret
          replace HS := Aside0.mk (SL.tail (SL.tail HS.out))
          unfold barrowref06_In.Post
          exact ⟨by first | rfl | (simp; done) | (simp [*]; done), HS.out, HK.out⟩
      · rw [if_neg c7] at H
        have c7b0 : decide (a1_0 < a0_0) = false := decide_eq_false c7
        clear c7
        obtain rfl := Option.some.inj H
        have hb_ := SL.at_ HS.out
        have hz3000053_0_0 := ((blk_cell hb_ 0).trans rfl : _ = some (.int .i64 a1_0))
        have hz3000053_1_0 := ((blk_cell hb_ 1).trans rfl : _ = some (.int .i64 a1_1))
        clear hb_
        have hb_ := SL.at_ (SL.get1 HS.out)
        have hz3000052_0_0 := ((blk_cell hb_ 0).trans rfl : _ = some (.int .i64 a0_0))
        have hz3000052_1_0 := ((blk_cell hb_ 1).trans rfl : _ = some (.int .i64 a0_1))
        have hz3000052_2_0 := ((blk_cell hb_ 2).trans rfl : _ = some (.slice A0_2 l0_2.length c0_2))
        clear hb_
        refine hG_.out ?_
        try simp only [c6b0, c7b0]
        go_wp2
        go_ret
        replace HS := Aside0.mk (SL.tail (SL.tail HS.out))
        unfold barrowref06_In.Post
        exact ⟨by first | rfl | (simp; done) | (simp [*]; done), HS.out, HK.out⟩
    · rw [if_neg c6] at H
      have c6b0 : decide (0 ≤ a1_0) = false := decide_eq_false c6
      clear c6
      obtain rfl := Option.some.inj H
      have hb_ := SL.at_ HS.out
      have hz3000053_0_0 := ((blk_cell hb_ 0).trans rfl : _ = some (.int .i64 a1_0))
      have hz3000053_1_0 := ((blk_cell hb_ 1).trans rfl : _ = some (.int .i64 a1_1))
      clear hb_
      refine hG_.out ?_
      try simp only [c6b0]
      go_wp2
      go_ret
      replace HS := Aside0.mk (SL.tail (SL.tail HS.out))
      unfold barrowref06_In.Post
      exact ⟨by first | rfl | (simp; done) | (simp [*]; done), HS.out, HK.out⟩
  · replace c5 := Bool.eq_false_iff.mpr c5
    subst c5
    rw [if_neg (show ¬ (false = true) by decide)] at H
    obtain rfl := Option.some.inj H
    refine hG_.out ?_
    go_wp2
    go_ret
    replace HS := Aside0.mk (SL.tail (SL.tail HS.out))
    unfold barrowref06_In.Post
    exact ⟨by first | rfl | (simp; done) | (simp [*]; done), HS.out, HK.out⟩
theorem barrowref06_In.calls (a0_0 : Int) (a0_1 : Int) (A0_2 : Option Addr) (c0_2 : Nat) (l0_2 : List Bool) (a1_0 : Int) (a1_1 : Int) (r : Bool) (w : World) (hr0_2 : Kd.C Kd.bool w A0_2 l0_2.length l0_2) (hc0_2 : l0_2.length ≤ c0_2) (h : barrowref06_In.f a0_0 a0_1 l0_2 a1_0 a1_1 = some r) :
    Calls Try.prog 31 #[.agg #[.int .i64 a0_0, .int .i64 a0_1, .slice A0_2 l0_2.length c0_2], .agg #[.int .i64 a1_0, .int .i64 a1_1]] w fun e w' => e = .returned (.bool r) ∧ Below w.heap.size w w' :=
  (barrowref06_In.slcalls a0_0 a0_1 A0_2 c0_2 l0_2 a1_0 a1_1 r (news w) [] w (fresh_news w) trivial (RO.top hr0_2) hc0_2 h).mono fun _ _ h => ⟨h.1, h.2.2.to_below⟩

/-! ### barrowref07_side: function 49 -/
def barrowref07_side.f (a0_0 : Int) (a0_1 : Int) (a1_0 : Int) (a1_1 : Int) (a2 : Int) (a3 : Int) : Option (Int) := some (wrap64 ((wrap64 ((wrap64 (a1_0 - a0_0)) * (wrap64 (a3 - (wrap64 (2 * a0_1)))))) - (wrap64 ((wrap64 (a1_1 - a0_1)) * (wrap64 (a2 - (wrap64 (2 * a0_0))))))))
set_option maxHeartbeats 8000000 in
set_option maxRecDepth 100000 in
theorem barrowref07_side.calls (a0_0 : Int) (a0_1 : Int) (a1_0 : Int) (a1_1 : Int) (a2 : Int) (a3 : Int) (r : Int) (w : World) (h : barrowref07_side.f a0_0 a0_1 a1_0 a1_1 a2 a3 = some r) :
    Calls Try.prog 49 #[.agg #[.int .i64 a0_0, .int .i64 a0_1], .agg #[.int .i64 a1_0, .int .i64 a1_1], .int .i64 a2, .int .i64 a3] w fun e w' => e = .returned (.int .i64 r) ∧ Below w.heap.size w w' := by
  have hu26 := Try.underlying26
  have HB := Aside0.mk (Below.refl w.heap.size w)
  have H : (some (wrap64 ((wrap64 ((wrap64 (a1_0 - a0_0)) * (wrap64 (a3 - (wrap64 (2 * a0_1)))))) - (wrap64 ((wrap64 (a1_1 - a0_1)) * (wrap64 (a2 - (wrap64 (2 * a0_0))))))))) = some r := h
  clear h
  obtain rfl := Option.some.inj H
  go_enter Try.func49, Try.ntmps49
  go_wp2_with (first | ((with_reducible refine gate_dst (N := 4) rfl ?_); refine box_event ?hg (N := 4) ?hd (cs := #[.int .i64 a0_0, .int .i64 a0_1]) (t := 26) ?hr ?_; (case hd => rfl); (case hg => rfl); (case hr => first | (go_simp; done) | (go_simp; rfl)); intro gb437 hg w5 hbox hb; have n0_ := Aside0.mk (below_step (by repeat (first | (with_reducible first | exact HB.out | apply below_alloc | apply pw_below_drewN | apply below_drew1) | exact HB.out)) hb); have n1_ := Aside0.mk (hbox); have n2_ := Aside0.mk ((by rw [hg]; exact (below_size (by repeat (first | (with_reducible first | exact HB.out | apply below_alloc | apply pw_below_drewN | apply below_drew1) | exact HB.out))) : w.heap.size ≤ gb437)); have n3_ := Aside0.mk ((by rw [hg]; exact (below_size (by repeat (first | (with_reducible first | exact HB.out | apply below_alloc | apply pw_below_drewN | apply below_drew1) | exact HB.out))) : w.heap.size ≤ gb437)); clear HB; have HB := n0_; have BK437 := n1_; have GW437 := n2_; have GE437 := n3_; clear n0_ n1_ n2_ n3_; clear hb hbox hg) | ((with_reducible refine gate_dst (N := 5) rfl ?_); refine box_event ?hg (N := 5) ?hd (cs := #[.int .i64 a1_0, .int .i64 a1_1]) (t := 26) ?hr ?_; (case hd => rfl); (case hg => rfl); (case hr => first | (go_simp; done) | (go_simp; rfl)); intro gb438 hg w6 hbox hb; have n0_ := Aside0.mk (blk_below (g := gb437) (o := .cells #[.int .i64 a0_0, .int .i64 a0_1] 26 (0, 0)) (by (with_reducible repeat (first | refine blk_drewN ?_ _ | refine blk_drew ?_ | refine blk_alloc ?_ _)); exact BK437.out) hb); have n1_ := Aside0.mk (below_step (by repeat (first | (with_reducible first | exact HB.out | apply below_alloc | apply pw_below_drewN | apply below_drew1 | refine below_set ?_ GE437.out) | exact HB.out)) hb); have n2_ := Aside0.mk (hbox); have n3_ := Aside0.mk ((by rw [hg]; exact (below_size (by repeat (first | (with_reducible first | exact HB.out | apply below_alloc | apply pw_below_drewN | apply below_drew1 | refine below_set ?_ GE437.out) | exact HB.out))) : w.heap.size ≤ gb438)); have n4_ := Aside0.mk ((by rw [hg]; exact (below_size (by repeat (first | (with_reducible first | exact HB.out | apply below_alloc | apply pw_below_drewN | apply below_drew1 | refine below_set ?_ GE437.out) | exact HB.out))) : w.heap.size ≤ gb438)); have n5_ := Aside0.mk ((by rw [hg]; exact Nat.ne_of_lt (blk_lt (g := gb437) (o := .cells #[.int .i64 a0_0, .int .i64 a0_1] 26 (0, 0)) (by (with_reducible repeat (first | refine blk_drewN ?_ _ | refine blk_drew ?_ | refine blk_alloc ?_ _)); exact BK437.out)) : gb437 ≠ gb438)); have n6_ := Aside0.mk ((by rw [hg]; exact Nat.ne_of_gt (blk_lt (g := gb437) (o := .cells #[.int .i64 a0_0, .int .i64 a0_1] 26 (0, 0)) (by (with_reducible repeat (first | refine blk_drewN ?_ _ | refine blk_drew ?_ | refine blk_alloc ?_ _)); exact BK437.out)) : gb438 ≠ gb437)); clear BK437; clear HB; have BK437 := n0_; have HB := n1_; have BK438 := n2_; have GW438 := n3_; have GE438 := n4_; have NB437_438 := n5_; have NB438_437 := n6_; clear n0_ n1_ n2_ n3_ n4_ n5_ n6_; clear hb hbox hg; have hnb7 := NB438_437.out; have hnc7 := NB437_438.out; have hcz8_0 : w6.cell? ⟨gb438, 0, none⟩ = some (.int .i64 a1_0) := (blk_cell BK438.out 0).trans rfl; have hcz8_1 : w6.cell? ⟨gb438, 1, none⟩ = some (.int .i64 a1_1) := (blk_cell BK438.out 1).trans rfl; have hfz8_0 := blk_frozen BK438.out 0; have hfz8_1 := blk_frozen BK438.out 1; have hcz9_0 : w6.cell? ⟨gb437, 0, none⟩ = some (.int .i64 a0_0) := (blk_cell BK437.out 0).trans rfl; have hcz9_1 : w6.cell? ⟨gb437, 1, none⟩ = some (.int .i64 a0_1) := (blk_cell BK437.out 1).trans rfl; have hfz9_0 := blk_frozen BK437.out 0; have hfz9_1 := blk_frozen BK437.out 1))
  go_ret
  exact ⟨by first | rfl | (simp [errW_none, errW_some] <;> rfl) | (simp [*, errW_none, errW_some] <;> rfl), by repeat (first | (with_reducible first | exact HB.out | apply below_alloc | apply pw_below_drewN | apply below_drew1 | refine below_set ?_ GE437.out | refine below_set ?_ GE438.out) | exact HB.out)⟩

/-! ### barrowref07_touches: function 32 -/
def barrowref07_touches.l0 : Nat → Bool → Bool → Int → Int → Int → Int → Int → Int → Int → Option (Bool)
  | 0, _, _, _, _, _, _, _, _, _ => none
  | k + 1, x7, x8, x9, x440000, x440001, x441000, x441001, x442000, x442001 => if x9 < 4 then ((barrowref07_side.f x440000 x440001 x441000 x441001 (wrap64 ((wrap64 ((wrap64 (2 * x442000)) - 1)) + (wrap64 (2 * (Int.tmod x9 2))))) (wrap64 ((wrap64 ((wrap64 (2 * x442001)) - 1)) + (wrap64 (2 * (wrap64 (Int.tdiv x9 2))))))).bind fun t442 => (if x7 = true then (if x8 = true then (barrowref07_touches.l0 k true true (wrap64 (x9 + 1)) x440000 x440001 x441000 x441001 x442000 x442001) else (barrowref07_touches.l0 k true (decide (t442 ≥ 0)) (wrap64 (x9 + 1)) x440000 x440001 x441000 x441001 x442000 x442001)) else (if x8 = true then (barrowref07_touches.l0 k (decide (t442 ≤ 0)) true (wrap64 (x9 + 1)) x440000 x440001 x441000 x441001 x442000 x442001) else (barrowref07_touches.l0 k (decide (t442 ≤ 0)) (decide (t442 ≥ 0)) (wrap64 (x9 + 1)) x440000 x440001 x441000 x441001 x442000 x442001)))) else (if x7 = true then (some x8) else (some false))
def barrowref07_touches.f (k : Nat) (a0_0 : Int) (a0_1 : Int) (a1_0 : Int) (a1_1 : Int) (a2_0 : Int) (a2_1 : Int) : Option (Bool) := barrowref07_touches.l0 k false false 0 a0_0 a0_1 a1_0 a1_1 a2_0 a2_1
theorem barrowref07_touches.mono_l : ∀ k, (∀ y0 y1 y2 y3 y4 y5 y6 y7 y8, LeO (barrowref07_touches.l0 k y0 y1 y2 y3 y4 y5 y6 y7 y8) (barrowref07_touches.l0 (k + 1) y0 y1 y2 y3 y4 y5 y6 y7 y8))
  | 0 => fun _ _ _ _ _ _ _ _ _ r h => by simp [barrowref07_touches.l0] at h
  | k + 1 => by
    have ih0 := barrowref07_touches.mono_l k
    · intro y0 y1 y2 y3 y4 y5 y6 y7 y8
      unfold barrowref07_touches.l0
      repeat' first
      | (with_reducible exact ih0 _ _ _ _ _ _ _ _ _)
      | (with_reducible exact LeO.refl _)
      | (with_reducible exact LeO.none _)
      | (with_reducible refine LeO.ite ?_ ?_)
      | (with_reducible refine LeO.bind ?_ (fun _ => ?_))
      | exact ih0 _ _ _ _ _ _ _ _ _
      | exact LeO.none _
      | refine LeO.ite ?_ ?_
      | refine LeO.bind ?_ (fun _ => ?_)
theorem barrowref07_touches.mono : ∀ a0 a1 a2 a3 a4 a5 k, LeO (barrowref07_touches.f k a0 a1 a2 a3 a4 a5) (barrowref07_touches.f (k + 1) a0 a1 a2 a3 a4 a5) := by
  intro a0 a1 a2 a3 a4 a5 k
  have ih0 := barrowref07_touches.mono_l k
  unfold barrowref07_touches.f
  repeat' first
      | (with_reducible exact ih0 _ _ _ _ _ _ _ _ _)
      | (with_reducible exact LeO.refl _)
      | (with_reducible exact LeO.none _)
      | (with_reducible refine LeO.ite ?_ ?_)
      | (with_reducible refine LeO.bind ?_ (fun _ => ?_))
      | exact ih0 _ _ _ _ _ _ _ _ _
      | exact LeO.none _
      | refine LeO.ite ?_ ?_
      | refine LeO.bind ?_ (fun _ => ?_)
set_option maxHeartbeats 8000000 in
set_option maxRecDepth 100000 in
theorem barrowref07_touches.calls (k : Nat) (a0_0 : Int) (a0_1 : Int) (a1_0 : Int) (a1_1 : Int) (a2_0 : Int) (a2_1 : Int) (r : Bool) (w : World) (h : barrowref07_touches.f k a0_0 a0_1 a1_0 a1_1 a2_0 a2_1 = some r) :
    Calls Try.prog 32 #[.agg #[.int .i64 a0_0, .int .i64 a0_1], .agg #[.int .i64 a1_0, .int .i64 a1_1], .agg #[.int .i64 a2_0, .int .i64 a2_1]] w fun e w' => e = .returned (.bool r) ∧ Below w.heap.size w w' := by
  have hu26 := Try.underlying26
  have HB := Aside0.mk (Below.refl w.heap.size w)
  have H : (barrowref07_touches.l0 k false false 0 a0_0 a0_1 a1_0 a1_1 a2_0 a2_1) = some r := h
  clear h
  have H' := Aside0.mk H
  clear H
  go_enter Try.func32, Try.ntmps32
  go_wp2_with (first | ((with_reducible refine gate_dst (N := 3) rfl ?_); refine box_event ?hg (N := 3) ?hd (cs := #[.int .i64 a0_0, .int .i64 a0_1]) (t := 26) ?hr ?_; (case hd => rfl); (case hg => rfl); (case hr => first | (go_simp; done) | (go_simp; rfl)); intro gb439 hg w4 hbox hb; have n0_ := Aside0.mk (below_step (by repeat (first | (with_reducible first | exact HB.out | apply below_alloc | apply pw_below_drewN | apply below_drew1) | exact HB.out)) hb); have n1_ := Aside0.mk (hbox); have n2_ := Aside0.mk ((by rw [hg]; exact (below_size (by repeat (first | (with_reducible first | exact HB.out | apply below_alloc | apply pw_below_drewN | apply below_drew1) | exact HB.out))) : w.heap.size ≤ gb439)); have n3_ := Aside0.mk ((by rw [hg]; exact (below_size (by repeat (first | (with_reducible first | exact HB.out | apply below_alloc | apply pw_below_drewN | apply below_drew1) | exact HB.out))) : w.heap.size ≤ gb439)); clear HB; have HB := n0_; have BK439 := n1_; have GW439 := n2_; have GE439 := n3_; clear n0_ n1_ n2_ n3_; clear hb hbox hg) | ((with_reducible refine gate_dst (N := 4) rfl ?_); refine box_event ?hg (N := 4) ?hd (cs := #[.int .i64 a1_0, .int .i64 a1_1]) (t := 26) ?hr ?_; (case hd => rfl); (case hg => rfl); (case hr => first | (go_simp; done) | (go_simp; rfl)); intro gb440 hg w5 hbox hb; have n0_ := Aside0.mk (blk_below (g := gb439) (o := .cells #[.int .i64 a0_0, .int .i64 a0_1] 26 (0, 0)) (by (with_reducible repeat (first | refine blk_drewN ?_ _ | refine blk_drew ?_ | refine blk_alloc ?_ _)); exact BK439.out) hb); have n1_ := Aside0.mk (below_step (by repeat (first | (with_reducible first | exact HB.out | apply below_alloc | apply pw_below_drewN | apply below_drew1 | refine below_set ?_ GE439.out) | exact HB.out)) hb); have n2_ := Aside0.mk (hbox); have n3_ := Aside0.mk ((by rw [hg]; exact (below_size (by repeat (first | (with_reducible first | exact HB.out | apply below_alloc | apply pw_below_drewN | apply below_drew1 | refine below_set ?_ GE439.out) | exact HB.out))) : w.heap.size ≤ gb440)); have n4_ := Aside0.mk ((by rw [hg]; exact (below_size (by repeat (first | (with_reducible first | exact HB.out | apply below_alloc | apply pw_below_drewN | apply below_drew1 | refine below_set ?_ GE439.out) | exact HB.out))) : w.heap.size ≤ gb440)); have n5_ := Aside0.mk ((by rw [hg]; exact Nat.ne_of_lt (blk_lt (g := gb439) (o := .cells #[.int .i64 a0_0, .int .i64 a0_1] 26 (0, 0)) (by (with_reducible repeat (first | refine blk_drewN ?_ _ | refine blk_drew ?_ | refine blk_alloc ?_ _)); exact BK439.out)) : gb439 ≠ gb440)); have n6_ := Aside0.mk ((by rw [hg]; exact Nat.ne_of_gt (blk_lt (g := gb439) (o := .cells #[.int .i64 a0_0, .int .i64 a0_1] 26 (0, 0)) (by (with_reducible repeat (first | refine blk_drewN ?_ _ | refine blk_drew ?_ | refine blk_alloc ?_ _)); exact BK439.out)) : gb440 ≠ gb439)); clear BK439; clear HB; have BK439 := n0_; have HB := n1_; have BK440 := n2_; have GW440 := n3_; have GE440 := n4_; have NB439_440 := n5_; have NB440_439 := n6_; clear n0_ n1_ n2_ n3_ n4_ n5_ n6_; clear hb hbox hg) | ((with_reducible refine gate_dst (N := 5) rfl ?_); refine box_event ?hg (N := 5) ?hd (cs := #[.int .i64 a2_0, .int .i64 a2_1]) (t := 26) ?hr ?_; (case hd => rfl); (case hg => rfl); (case hr => first | (go_simp; done) | (go_simp; rfl)); intro gb441 hg w6 hbox hb; have n0_ := Aside0.mk (blk_below (g := gb439) (o := .cells #[.int .i64 a0_0, .int .i64 a0_1] 26 (0, 0)) (by (with_reducible repeat (first | refine blk_drewN ?_ _ | refine blk_drew ?_ | refine blk_alloc ?_ _)); exact BK439.out) hb); have n1_ := Aside0.mk (blk_below (g := gb440) (o := .cells #[.int .i64 a1_0, .int .i64 a1_1] 26 (0, 0)) (by (with_reducible repeat (first | refine blk_drewN ?_ _ | refine blk_drew ?_ | refine blk_alloc ?_ _)); exact BK440.out) hb); have n2_ := Aside0.mk (below_step (by repeat (first | (with_reducible first | exact HB.out | apply below_alloc | apply pw_below_drewN | apply below_drew1 | refine below_set ?_ GE439.out | refine below_set ?_ GE440.out) | exact HB.out)) hb); have n3_ := Aside0.mk (hbox); have n4_ := Aside0.mk ((by rw [hg]; exact (below_size (by repeat (first | (with_reducible first | exact HB.out | apply below_alloc | apply pw_below_drewN | apply below_drew1 | refine below_set ?_ GE439.out | refine below_set ?_ GE440.out) | exact HB.out))) : w.heap.size ≤ gb441)); have n5_ := Aside0.mk ((by rw [hg]; exact (below_size (by repeat (first | (with_reducible first | exact HB.out | apply below_alloc | apply pw_below_drewN | apply below_drew1 | refine below_set ?_ GE439.out | refine below_set ?_ GE440.out) | exact HB.out))) : w.heap.size ≤ gb441)); have n6_ := Aside0.mk ((by rw [hg]; exact Nat.ne_of_lt (blk_lt (g := gb439) (o := .cells #[.int .i64 a0_0, .int .i64 a0_1] 26 (0, 0)) (by (with_reducible repeat (first | refine blk_drewN ?_ _ | refine blk_drew ?_ | refine blk_alloc ?_ _)); exact BK439.out)) : gb439 ≠ gb441)); have n7_ := Aside0.mk ((by rw [hg]; exact Nat.ne_of_gt (blk_lt (g := gb439) (o := .cells #[.int .i64 a0_0, .int .i64 a0_1] 26 (0, 0)) (by (with_reducible repeat (first | refine blk_drewN ?_ _ | refine blk_drew ?_ | refine blk_alloc ?_ _)); exact BK439.out)) : gb441 ≠ gb439)); have n8_ := Aside0.mk ((by rw [hg]; exact Nat.ne_of_lt (blk_lt (g := gb440) (o := .cells #[.int .i64 a1_0, .int .i64 a1_1] 26 (0, 0)) (by (with_reducible repeat (first | refine blk_drewN ?_ _ | refine blk_drew ?_ | refine blk_alloc ?_ _)); exact BK440.out)) : gb440 ≠ gb441)); have n9_ := Aside0.mk ((by rw [hg]; exact Nat.ne_of_gt (blk_lt (g := gb440) (o := .cells #[.int .i64 a1_0, .int .i64 a1_1] 26 (0, 0)) (by (with_reducible repeat (first | refine blk_drewN ?_ _ | refine blk_drew ?_ | refine blk_alloc ?_ _)); exact BK440.out)) : gb441 ≠ gb440)); clear BK439; clear BK440; clear HB; have BK439 := n0_; have BK440 := n1_; have HB := n2_; have BK441 := n3_; have GW441 := n4_; have GE441 := n5_; have NB439_441 := n6_; have NB441_439 := n7_; have NB440_441 := n8_; have NB441_440 := n9_; clear n0_ n1_ n2_ n3_ n4_ n5_ n6_ n7_ n8_ n9_; clear hb hbox hg))
  go_loopg [7, 8, 9] k (fun kq v7 v8 v9 w' => ∃ (x7_1 : Bool) (x8_1 : Bool) (x9_1 : Int), v7 = .bool x7_1 ∧ v8 = .bool x8_1 ∧ v9 = .int .i64 x9_1 ∧ Aside0 (barrowref07_touches.l0 kq x7_1 x8_1 x9_1 a0_0 a0_1 a1_0 a1_1 a2_0 a2_1 = some r) ∧ Aside0 (kq ≤ k) ∧ Aside0 (w'.heap[gb439]? = some (.cells #[.int .i64 a0_0, .int .i64 a0_1] 26 (0, 0))) ∧ Aside0 (w'.heap[gb440]? = some (.cells #[.int .i64 a1_0, .int .i64 a1_1] 26 (0, 0))) ∧ Aside0 (w'.heap[gb441]? = some (.cells #[.int .i64 a2_0, .int .i64 a2_1] 26 (0, 0))) ∧ Aside0 (Below w.heap.size w w'))
  case atStart => exact ⟨(false), (false), (0), (by first | rfl | (simp; done) | (simp [*]; done)), (by first | rfl | (simp; done) | (simp [*]; done)), (by first | rfl | (simp; done) | (simp [*]; done)), H', ⟨Nat.le_refl _⟩, ⟨by (with_reducible repeat (first | refine blk_drewN ?_ _ | refine blk_drew ?_ | refine blk_alloc ?_ _)); exact BK439.out⟩, ⟨by (with_reducible repeat (first | refine blk_drewN ?_ _ | refine blk_drew ?_ | refine blk_alloc ?_ _)); exact BK440.out⟩, ⟨by (with_reducible repeat (first | refine blk_drewN ?_ _ | refine blk_drew ?_ | refine blk_alloc ?_ _)); exact BK441.out⟩, ⟨by repeat (first | (with_reducible first | exact HB.out | apply below_alloc | apply pw_below_drewN | apply below_drew1 | refine below_set ?_ GE439.out | refine below_set ?_ GE440.out | refine below_set ?_ GE441.out) | exact HB.out)⟩⟩
  case round =>
    clear H'
    try clear p2
    try clear c3
    obtain ⟨x7_1, x8_1, x9_1, rfl, rfl, rfl, HA, HK1, BK439, BK440, BK441, HB⟩ := hrel
    cases gk with
    | zero => exact absurd HA.out (by simp [barrowref07_touches.l0])
    | succ k1 =>
      have H := HA.out
      clear HA
      simp only [barrowref07_touches.l0] at H
      by_cases c7 : x9_1 < 4
      · rw [if_pos c7] at H
        have c7b0 : decide (x9_1 < 4) = true := decide_eq_true c7
        clear c7
        replace H := Option.bind_eq_some_iff.mp H
        obtain ⟨t442, A80, H⟩ := H
        replace H : (if x7_1 = true then (if x8_1 = true then (barrowref07_touches.l0 k1 true true (wrap64 (x9_1 + 1)) a0_0 a0_1 a1_0 a1_1 a2_0 a2_1) else (barrowref07_touches.l0 k1 true (decide (t442 ≥ 0)) (wrap64 (x9_1 + 1)) a0_0 a0_1 a1_0 a1_1 a2_0 a2_1)) else (if x8_1 = true then (barrowref07_touches.l0 k1 (decide (t442 ≤ 0)) true (wrap64 (x9_1 + 1)) a0_0 a0_1 a1_0 a1_1 a2_0 a2_1) else (barrowref07_touches.l0 k1 (decide (t442 ≤ 0)) (decide (t442 ≥ 0)) (wrap64 (x9_1 + 1)) a0_0 a0_1 a1_0 a1_1 a2_0 a2_1))) = some r := H
        have A8 := Aside0.mk A80
        clear A80
        by_cases c9 : x7_1 = true
        · subst c9
          have H1 : (if x8_1 = true then (barrowref07_touches.l0 k1 true true (wrap64 (x9_1 + 1)) a0_0 a0_1 a1_0 a1_1 a2_0 a2_1) else (barrowref07_touches.l0 k1 true (decide (t442 ≥ 0)) (wrap64 (x9_1 + 1)) a0_0 a0_1 a1_0 a1_1 a2_0 a2_1)) = some r := by rw [if_pos rfl] at H; exact H
          clear H
          have H := H1
          clear H1
          by_cases c10 : x8_1 = true
          · subst c10
            have H1 : (barrowref07_touches.l0 k1 true true (wrap64 (x9_1 + 1)) a0_0 a0_1 a1_0 a1_1 a2_0 a2_1) = some r := by rw [if_pos rfl] at H; exact H
            clear H
            have H := H1
            clear H1
            have H' := Aside0.mk H
            clear H
            have hnb11 := NB439_440.out
            have hnc11 := NB440_439.out
            have hnb12 := NB439_441.out
            have hnc12 := NB441_439.out
            have hcz13_0 : wr.cell? ⟨gb439, 0, none⟩ = some (.int .i64 a0_0) := (blk_cell BK439.out 0).trans rfl
            have hcz13_1 : wr.cell? ⟨gb439, 1, none⟩ = some (.int .i64 a0_1) := (blk_cell BK439.out 1).trans rfl
            have hfz13_0 := blk_frozen BK439.out 0
            have hfz13_1 := blk_frozen BK439.out 1
            have hnb14 := NB440_441.out
            have hnc14 := NB441_440.out
            have hcz15_0 : wr.cell? ⟨gb440, 0, none⟩ = some (.int .i64 a1_0) := (blk_cell BK440.out 0).trans rfl
            have hcz15_1 : wr.cell? ⟨gb440, 1, none⟩ = some (.int .i64 a1_1) := (blk_cell BK440.out 1).trans rfl
            have hfz15_0 := blk_frozen BK440.out 0
            have hfz15_1 := blk_frozen BK440.out 1
            have hcz16_0 : wr.cell? ⟨gb441, 0, none⟩ = some (.int .i64 a2_0) := (blk_cell BK441.out 0).trans rfl
            have hcz16_1 : wr.cell? ⟨gb441, 1, none⟩ = some (.int .i64 a2_1) := (blk_cell BK441.out 1).trans rfl
            have hfz16_0 := blk_frozen BK441.out 0
            have hfz16_1 := blk_frozen BK441.out 1
            go_wp2_with (first | ((with_reducible refine gate_callee (f := 49) rfl ?_); refine goesL_ (some 33) rfl rfl Try.func49 (by kernel_rfl) rfl #[.agg #[.int .i64 a0_0, .int .i64 a0_1], .agg #[.int .i64 a1_0, .int .i64 a1_1], .int .i64 (wrap64 ((wrap64 ((wrap64 (2 * a2_0)) - 1)) + (wrap64 (2 * (Int.tmod x9_1 2))))), .int .i64 (wrap64 ((wrap64 ((wrap64 (2 * a2_1)) - 1)) + (wrap64 (2 * (wrap64 (Int.tdiv x9_1 2))))))] rfl (by (try simp only [List.map_toArray, List.map_cons, List.map_nil]); first | done | rfl | (simp only [List.length_drop, List.length_take]; rfl)) ?_; (with_reducible refine (barrowref07_side.calls a0_0 a0_1 a1_0 a1_1 (wrap64 ((wrap64 ((wrap64 (2 * a2_0)) - 1)) + (wrap64 (2 * (Int.tmod x9_1 2))))) (wrap64 ((wrap64 ((wrap64 (2 * a2_1)) - 1)) + (wrap64 (2 * (wrap64 (Int.tdiv x9_1 2)))))) t442 _ A8.out).mono ?_); rintro e w17 ⟨rfl, hb⟩; refine ⟨_, rfl, ?_⟩; have n0_ := Aside0.mk (blk_below (g := gb439) (o := .cells #[.int .i64 a0_0, .int .i64 a0_1] 26 (0, 0)) (by (with_reducible repeat (first | refine blk_drewN ?_ _ | refine blk_drew ?_ | refine blk_alloc ?_ _)); exact BK439.out) hb); have n1_ := Aside0.mk (blk_below (g := gb440) (o := .cells #[.int .i64 a1_0, .int .i64 a1_1] 26 (0, 0)) (by (with_reducible repeat (first | refine blk_drewN ?_ _ | refine blk_drew ?_ | refine blk_alloc ?_ _)); exact BK440.out) hb); have n2_ := Aside0.mk (blk_below (g := gb441) (o := .cells #[.int .i64 a2_0, .int .i64 a2_1] 26 (0, 0)) (by (with_reducible repeat (first | refine blk_drewN ?_ _ | refine blk_drew ?_ | refine blk_alloc ?_ _)); exact BK441.out) hb); have n3_ := Aside0.mk (below_step (by repeat (first | (with_reducible first | exact HB.out | apply below_alloc | apply pw_below_drewN | apply below_drew1 | refine below_set ?_ GE439.out | refine below_set ?_ GE440.out | refine below_set ?_ GE441.out) | exact HB.out)) hb); clear BK439; clear BK440; clear BK441; clear HB; have BK439 := n0_; have BK440 := n1_; have BK441 := n2_; have HB := n3_; clear n0_ n1_ n2_ n3_; (try clear hb); (try clear hb2); (try clear hk); (try clear hi)))
            go_roundg k1
            case measure => have := HK1.out; omega
            case rel => exact ⟨(true), (true), (wrap64 (x9_1 + 1)), (by first | rfl | (simp; done) | (simp [*]; done)), (by first | rfl | (simp; done) | (simp [*]; done)), (by first | rfl | (simp; done) | (simp [*]; done)), H', ⟨by have := HK1.out; omega⟩, ⟨by (with_reducible repeat (first | refine blk_drewN ?_ _ | refine blk_drew ?_ | refine blk_alloc ?_ _)); exact BK439.out⟩, ⟨by (with_reducible repeat (first | refine blk_drewN ?_ _ | refine blk_drew ?_ | refine blk_alloc ?_ _)); exact BK440.out⟩, ⟨by (with_reducible repeat (first | refine blk_drewN ?_ _ | refine blk_drew ?_ | refine blk_alloc ?_ _)); exact BK441.out⟩, ⟨by repeat (first | (with_reducible first | exact HB.out | apply below_alloc | apply pw_below_drewN | apply below_drew1 | refine below_set ?_ GE439.out | refine below_set ?_ GE440.out | refine below_set ?_ GE441.out) | exact HB.out)⟩⟩
          · replace c10 := Bool.eq_false_iff.mpr c10
            subst c10
            have H1 : (barrowref07_touches.l0 k1 true (decide (t442 ≥ 0)) (wrap64 (x9_1 + 1)) a0_0 a0_1 a1_0 a1_1 a2_0 a2_1) = some r := by rw [if_neg (show ¬ (false = true) by decide)] at H; exact H
            clear H
            have H := H1
            clear H1
            have H' := Aside0.mk H
            clear H
            have hnb18 := NB439_440.out
            have hnc18 := NB440_439.out
            have hnb19 := NB439_441.out
            have hnc19 := NB441_439.out
            have hcz20_0 : wr.cell? ⟨gb439, 0, none⟩ = some (.int .i64 a0_0) := (blk_cell BK439.out 0).trans rfl
            have hcz20_1 : wr.cell? ⟨gb439, 1, none⟩ = some (.int .i64 a0_1) := (blk_cell BK439.out 1).trans rfl
            have hfz20_0 := blk_frozen BK439.out 0
            have hfz20_1 := blk_frozen BK439.out 1
            have hnb21 := NB440_441.out
            have hnc21 := NB441_440.out
            have hcz22_0 : wr.cell? ⟨gb440, 0, none⟩ = some (.int .i64 a1_0) := (blk_cell BK440.out 0).trans rfl
            have hcz22_1 : wr.cell? ⟨gb440, 1, none⟩ = some (.int .i64 a1_1) := (blk_cell BK440.out 1).trans rfl
            have hfz22_0 := blk_frozen BK440.out 0
            have hfz22_1 := blk_frozen BK440.out 1
            have hcz23_0 : wr.cell? ⟨gb441, 0, none⟩ = some (.int .i64 a2_0) := (blk_cell BK441.out 0).trans rfl
            have hcz23_1 : wr.cell? ⟨gb441, 1, none⟩ = some (.int .i64 a2_1) := (blk_cell BK441.out 1).trans rfl
            have hfz23_0 := blk_frozen BK441.out 0
            have hfz23_1 := blk_frozen BK441.out 1
            go_wp2_with (first | ((with_reducible refine gate_callee (f := 49) rfl ?_); refine goesL_ (some 33) rfl rfl Try.func49 (by kernel_rfl) rfl #[.agg #[.int .i64 a0_0, .int .i64 a0_1], .agg #[.int .i64 a1_0, .int .i64 a1_1], .int .i64 (wrap64 ((wrap64 ((wrap64 (2 * a2_0)) - 1)) + (wrap64 (2 * (Int.tmod x9_1 2))))), .int .i64 (wrap64 ((wrap64 ((wrap64 (2 * a2_1)) - 1)) + (wrap64 (2 * (wrap64 (Int.tdiv x9_1 2))))))] rfl (by (try simp only [List.map_toArray, List.map_cons, List.map_nil]); first | done | rfl | (simp only [List.length_drop, List.length_take]; rfl)) ?_; (with_reducible refine (barrowref07_side.calls a0_0 a0_1 a1_0 a1_1 (wrap64 ((wrap64 ((wrap64 (2 * a2_0)) - 1)) + (wrap64 (2 * (Int.tmod x9_1 2))))) (wrap64 ((wrap64 ((wrap64 (2 * a2_1)) - 1)) + (wrap64 (2 * (wrap64 (Int.tdiv x9_1 2)))))) t442 _ A8.out).mono ?_); rintro e w24 ⟨rfl, hb⟩; refine ⟨_, rfl, ?_⟩; have n0_ := Aside0.mk (blk_below (g := gb439) (o := .cells #[.int .i64 a0_0, .int .i64 a0_1] 26 (0, 0)) (by (with_reducible repeat (first | refine blk_drewN ?_ _ | refine blk_drew ?_ | refine blk_alloc ?_ _)); exact BK439.out) hb); have n1_ := Aside0.mk (blk_below (g := gb440) (o := .cells #[.int .i64 a1_0, .int .i64 a1_1] 26 (0, 0)) (by (with_reducible repeat (first | refine blk_drewN ?_ _ | refine blk_drew ?_ | refine blk_alloc ?_ _)); exact BK440.out) hb); have n2_ := Aside0.mk (blk_below (g := gb441) (o := .cells #[.int .i64 a2_0, .int .i64 a2_1] 26 (0, 0)) (by (with_reducible repeat (first | refine blk_drewN ?_ _ | refine blk_drew ?_ | refine blk_alloc ?_ _)); exact BK441.out) hb); have n3_ := Aside0.mk (below_step (by repeat (first | (with_reducible first | exact HB.out | apply below_alloc | apply pw_below_drewN | apply below_drew1 | refine below_set ?_ GE439.out | refine below_set ?_ GE440.out | refine below_set ?_ GE441.out) | exact HB.out)) hb); clear BK439; clear BK440; clear BK441; clear HB; have BK439 := n0_; have BK440 := n1_; have BK441 := n2_; have HB := n3_; clear n0_ n1_ n2_ n3_; (try clear hb); (try clear hb2); (try clear hk); (try clear hi)))
            go_roundg k1
            case measure => have := HK1.out; omega
            case rel => exact ⟨(true), (decide (t442 ≥ 0)), (wrap64 (x9_1 + 1)), (by first | rfl | (simp; done) | (simp [*]; done)), (by first | rfl | (simp; done) | (simp [*]; done)), (by first | rfl | (simp; done) | (simp [*]; done)), H', ⟨by have := HK1.out; omega⟩, ⟨by (with_reducible repeat (first | refine blk_drewN ?_ _ | refine blk_drew ?_ | refine blk_alloc ?_ _)); exact BK439.out⟩, ⟨by (with_reducible repeat (first | refine blk_drewN ?_ _ | refine blk_drew ?_ | refine blk_alloc ?_ _)); exact BK440.out⟩, ⟨by (with_reducible repeat (first | refine blk_drewN ?_ _ | refine blk_drew ?_ | refine blk_alloc ?_ _)); exact BK441.out⟩, ⟨by repeat (first | (with_reducible first | exact HB.out | apply below_alloc | apply pw_below_drewN | apply below_drew1 | refine below_set ?_ GE439.out | refine below_set ?_ GE440.out | refine below_set ?_ GE441.out) | exact HB.out)⟩⟩
        · replace c9 := Bool.eq_false_iff.mpr c9
          subst c9
          have H1 : (if x8_1 = true then (barrowref07_touches.l0 k1 (decide (t442 ≤ 0)) true (wrap64 (x9_1 + 1)) a0_0 a0_1 a1_0 a1_1 a2_0 a2_1) else (barrowref07_touches.l0 k1 (decide (t442 ≤ 0)) (decide (t442 ≥ 0)) (wrap64 (x9_1 + 1)) a0_0 a0_1 a1_0 a1_1 a2_0 a2_1)) = some r := by rw [if_neg (show ¬ (false = true) by decide)] at H; exact H
          clear H
          have H := H1
          clear H1
          by_cases c25 : x8_1 = true
          · subst c25
            have H1 : (barrowref07_touches.l0 k1 (decide (t442 ≤ 0)) true (wrap64 (x9_1 + 1)) a0_0 a0_1 a1_0 a1_1 a2_0 a2_1) = some r := by rw [if_pos rfl] at H; exact H
            clear H
            have H := H1
            clear H1
            have H' := Aside0.mk H
            clear H
            have hnb26 := NB439_440.out
            have hnc26 := NB440_439.out
            have hnb27 := NB439_441.out
            have hnc27 := NB441_439.out
            have hcz28_0 : wr.cell? ⟨gb439, 0, none⟩ = some (.int .i64 a0_0) := (blk_cell BK439.out 0).trans rfl
            have hcz28_1 : wr.cell? ⟨gb439, 1, none⟩ = some (.int .i64 a0_1) := (blk_cell BK439.out 1).trans rfl
            have hfz28_0 := blk_frozen BK439.out 0
            have hfz28_1 := blk_frozen BK439.out 1
            have hnb29 := NB440_441.out
            have hnc29 := NB441_440.out
            have hcz30_0 : wr.cell? ⟨gb440, 0, none⟩ = some (.int .i64 a1_0) := (blk_cell BK440.out 0).trans rfl
            have hcz30_1 : wr.cell? ⟨gb440, 1, none⟩ = some (.int .i64 a1_1) := (blk_cell BK440.out 1).trans rfl
            have hfz30_0 := blk_frozen BK440.out 0
            have hfz30_1 := blk_frozen BK440.out 1
            have hcz31_0 : wr.cell? ⟨gb441, 0, none⟩ = some (.int .i64 a2_0) := (blk_cell BK441.out 0).trans rfl
            have hcz31_1 : wr.cell? ⟨gb441, 1, none⟩ = some (.int .i64 a2_1) := (blk_cell BK441.out 1).trans rfl
            have hfz31_0 := blk_frozen BK441.out 0
            have hfz31_1 := blk_frozen BK441.out 1
            go_wp2_with (first | ((with_reducible refine gate_callee (f := 49) rfl ?_); refine goesL_ (some 33) rfl rfl Try.func49 (by kernel_rfl) rfl #[.agg #[.int .i64 a0_0, .int .i64 a0_1], .agg #[.int .i64 a1_0, .int .i64 a1_1], .int .i64 (wrap64 ((wrap64 ((wrap64 (2 * a2_0)) - 1)) + (wrap64 (2 * (Int.tmod x9_1 2))))), .int .i64 (wrap64 ((wrap64 ((wrap64 (2 * a2_1)) - 1)) + (wrap64 (2 * (wrap64 (Int.tdiv x9_1 2))))))] rfl (by (try simp only [List.map_toArray, List.map_cons, List.map_nil]); first | done | rfl | (simp only [List.length_drop, List.length_take]; rfl)) ?_; (with_reducible refine (barrowref07_side.calls a0_0 a0_1 a1_0 a1_1 (wrap64 ((wrap64 ((wrap64 (2 * a2_0)) - 1)) + (wrap64 (2 * (Int.tmod x9_1 2))))) (wrap64 ((wrap64 ((wrap64 (2 * a2_1)) - 1)) + (wrap64 (2 * (wrap64 (Int.tdiv x9_1 2)))))) t442 _ A8.out).mono ?_); rintro e w32 ⟨rfl, hb⟩; refine ⟨_, rfl, ?_⟩; have n0_ := Aside0.mk (blk_below (g := gb439) (o := .cells #[.int .i64 a0_0, .int .i64 a0_1] 26 (0, 0)) (by (with_reducible repeat (first | refine blk_drewN ?_ _ | refine blk_drew ?_ | refine blk_alloc ?_ _)); exact BK439.out) hb); have n1_ := Aside0.mk (blk_below (g := gb440) (o := .cells #[.int .i64 a1_0, .int .i64 a1_1] 26 (0, 0)) (by (with_reducible repeat (first | refine blk_drewN ?_ _ | refine blk_drew ?_ | refine blk_alloc ?_ _)); exact BK440.out) hb); have n2_ := Aside0.mk (blk_below (g := gb441) (o := .cells #[.int .i64 a2_0, .int .i64 a2_1] 26 (0, 0)) (by (with_reducible repeat (first | refine blk_drewN ?_ _ | refine blk_drew ?_ | refine blk_alloc ?_ _)); exact BK441.out) hb); have n3_ := Aside0.mk (below_step (by repeat (first | (with_reducible first | exact HB.out | apply below_alloc | apply pw_below_drewN | apply below_drew1 | refine below_set ?_ GE439.out | refine below_set ?_ GE440.out | refine below_set ?_ GE441.out) | exact HB.out)) hb); clear BK439; clear BK440; clear BK441; clear HB; have BK439 := n0_; have BK440 := n1_; have BK441 := n2_; have HB := n3_; clear n0_ n1_ n2_ n3_; (try clear hb); (try clear hb2); (try clear hk); (try clear hi)))
            go_roundg k1
            case measure => have := HK1.out; omega
            case rel => exact ⟨(decide (t442 ≤ 0)), (true), (wrap64 (x9_1 + 1)), (by first | rfl | (simp; done) | (simp [*]; done)), (by first | rfl | (simp; done) | (simp [*]; done)), (by first | rfl | (simp; done) | (simp [*]; done)), H', ⟨by have := HK1.out; omega⟩, ⟨by (with_reducible repeat (first | refine blk_drewN ?_ _ | refine blk_drew ?_ | refine blk_alloc ?_ _)); exact BK439.out⟩, ⟨by (with_reducible repeat (first | refine blk_drewN ?_ _ | refine blk_drew ?_ | refine blk_alloc ?_ _)); exact BK440.out⟩, ⟨by (with_reducible repeat (first | refine blk_drewN ?_ _ | refine blk_drew ?_ | refine blk_alloc ?_ _)); exact BK441.out⟩, ⟨by repeat (first | (with_reducible first | exact HB.out | apply below_alloc | apply pw_below_drewN | apply below_drew1 | refine below_set ?_ GE439.out | refine below_set ?_ GE440.out | refine below_set ?_ GE441.out) | exact HB.out)⟩⟩
          · replace c25 := Bool.eq_false_iff.mpr c25
            subst c25
            have H1 : (barrowref07_touches.l0 k1 (decide (t442 ≤ 0)) (decide (t442 ≥ 0)) (wrap64 (x9_1 + 1)) a0_0 a0_1 a1_0 a1_1 a2_0 a2_1) = some r := by rw [if_neg (show ¬ (false = true) by decide)] at H; exact H
            clear H
            have H := H1
            clear H1
            have H' := Aside0.mk H
            clear H
            have hnb33 := NB439_440.out
            have hnc33 := NB440_439.out
            have hnb34 := NB439_441.out
            have hnc34 := NB441_439.out
            have hcz35_0 : wr.cell? ⟨gb439, 0, none⟩ = some (.int .i64 a0_0) := (blk_cell BK439.out 0).trans rfl
            have hcz35_1 : wr.cell? ⟨gb439, 1, none⟩ = some (.int .i64 a0_1) := (blk_cell BK439.out 1).trans rfl
            have hfz35_0 := blk_frozen BK439.out 0
            have hfz35_1 := blk_frozen BK439.out 1
            have hnb36 := NB440_441.out
            have hnc36 := NB441_440.out
            have hcz37_0 : wr.cell? ⟨gb440, 0, none⟩ = some (.int .i64 a1_0) := (blk_cell BK440.out 0).trans rfl
            have hcz37_1 : wr.cell? ⟨gb440, 1, none⟩ = some (.int .i64 a1_1) := (blk_cell BK440.out 1).trans rfl
            have hfz37_0 := blk_frozen BK440.out 0
            have hfz37_1 := blk_frozen BK440.out 1
            have hcz38_0 : wr.cell? ⟨gb441, 0, none⟩ = some (.int .i64 a2_0) := (blk_cell BK441.out 0).trans rfl
            have hcz38_1 : wr.cell? ⟨gb441, 1, none⟩ = some (.int .i64 a2_1) := (blk_cell BK441.out 1).trans rfl
            have hfz38_0 := blk_frozen BK441.out 0
            have hfz38_1 := blk_frozen BK441.out 1
            go_wp2_with (first | ((with_reducible refine gate_callee (f := 49) rfl ?_); refine goesL_ (some 33) rfl rfl Try.func49 (by kernel_rfl) rfl #[.agg #[.int .i64 a0_0, .int .i64 a0_1], .agg #[.int .i64 a1_0, .int .i64 a1_1], .int .i64 (wrap64 ((wrap64 ((wrap64 (2 * a2_0)) - 1)) + (wrap64 (2 * (Int.tmod x9_1 2))))), .int .i64 (wrap64 ((wrap64 ((wrap64 (2 * a2_1)) - 1)) + (wrap64 (2 * (wrap64 (Int.tdiv x9_1 2))))))] rfl (by (try simp only [List.map_toArray, List.map_cons, List.map_nil]); first | done | rfl | (simp only [List.length_drop, List.length_take]; rfl)) ?_; (with_reducible refine (barrowref07_side.calls a0_0 a0_1 a1_0 a1_1 (wrap64 ((wrap64 ((wrap64 (2 * a2_0)) - 1)) + (wrap64 (2 * (Int.tmod x9_1 2))))) (wrap64 ((wrap64 ((wrap64 (2 * a2_1)) - 1)) + (wrap64 (2 * (wrap64 (Int.tdiv x9_1 2)))))) t442 _ A8.out).mono ?_); rintro e w39 ⟨rfl, hb⟩; refine ⟨_, rfl, ?_⟩; have n0_ := Aside0.mk (blk_below (g := gb439) (o := .cells #[.int .i64 a0_0, .int .i64 a0_1] 26 (0, 0)) (by (with_reducible repeat (first | refine blk_drewN ?_ _ | refine blk_drew ?_ | refine blk_alloc ?_ _)); exact BK439.out) hb); have n1_ := Aside0.mk (blk_below (g := gb440) (o := .cells #[.int .i64 a1_0, .int .i64 a1_1] 26 (0, 0)) (by (with_reducible repeat (first | refine blk_drewN ?_ _ | refine blk_drew ?_ | refine blk_alloc ?_ _)); exact BK440.out) hb); have n2_ := Aside0.mk (blk_below (g := gb441) (o := .cells #[.int .i64 a2_0, .int .i64 a2_1] 26 (0, 0)) (by (with_reducible repeat (first | refine blk_drewN ?_ _ | refine blk_drew ?_ | refine blk_alloc ?_ _)); exact BK441.out) hb); have n3_ := Aside0.mk (below_step (by repeat (first | (with_reducible first | exact HB.out | apply below_alloc | apply pw_below_drewN | apply below_drew1 | refine below_set ?_ GE439.out | refine below_set ?_ GE440.out | refine below_set ?_ GE441.out) | exact HB.out)) hb); clear BK439; clear BK440; clear BK441; clear HB; have BK439 := n0_; have BK440 := n1_; have BK441 := n2_; have HB := n3_; clear n0_ n1_ n2_ n3_; (try clear hb); (try clear hb2); (try clear hk); (try clear hi)))
            go_roundg k1
            case measure => have := HK1.out; omega
            case rel => exact ⟨(decide (t442 ≤ 0)), (decide (t442 ≥ 0)), (wrap64 (x9_1 + 1)), (by first | rfl | (simp; done) | (simp [*]; done)), (by first | rfl | (simp; done) | (simp [*]; done)), (by first | rfl | (simp; done) | (simp [*]; done)), H', ⟨by have := HK1.out; omega⟩, ⟨by (with_reducible repeat (first | refine blk_drewN ?_ _ | refine blk_drew ?_ | refine blk_alloc ?_ _)); exact BK439.out⟩, ⟨by (with_reducible repeat (first | refine blk_drewN ?_ _ | refine blk_drew ?_ | refine blk_alloc ?_ _)); exact BK440.out⟩, ⟨by (with_reducible repeat (first | refine blk_drewN ?_ _ | refine blk_drew ?_ | refine blk_alloc ?_ _)); exact BK441.out⟩, ⟨by repeat (first | (with_reducible first | exact HB.out | apply below_alloc | apply pw_below_drewN | apply below_drew1 | refine below_set ?_ GE439.out | refine below_set ?_ GE440.out | refine below_set ?_ GE441.out) | exact HB.out)⟩⟩
      · rw [if_neg c7] at H
        have c7b0 : decide (x9_1 < 4) = false := decide_eq_false c7
        clear c7
        by_cases c40 : x7_1 = true
        · subst c40
          have H1 : (some x8_1) = some r := by rw [if_pos rfl] at H; exact H
          clear H
          have H := H1
          clear H1
          obtain rfl := Option.some.inj H
          go_wp2
          go_ret
          exact ⟨by first | rfl | (simp [errW_none, errW_some] <;> rfl) | (simp [*, errW_none, errW_some] <;> rfl), by repeat (first | (with_reducible first | exact HB.out | apply below_alloc | apply pw_below_drewN | apply below_drew1 | refine below_set ?_ GE439.out | refine below_set ?_ GE440.out | refine below_set ?_ GE441.out) | exact HB.out)⟩
        · replace c40 := Bool.eq_false_iff.mpr c40
          subst c40
          have H1 : (some false) = some r := by rw [if_neg (show ¬ (false = true) by decide)] at H; exact H
          clear H
          have H := H1
          clear H1
          obtain rfl := Option.some.inj H
          go_wp2
          go_ret
          exact ⟨by first | rfl | (simp [errW_none, errW_some] <;> rfl) | (simp [*, errW_none, errW_some] <;> rfl), by repeat (first | (with_reducible first | exact HB.out | apply below_alloc | apply pw_below_drewN | apply below_drew1 | refine below_set ?_ GE439.out | refine below_set ?_ GE440.out | refine below_set ?_ GE441.out) | exact HB.out)⟩

end Go.Proofs.Ytljmecjciifceaa.XSG
