-- Written by xprint.py (a program of this session) for this claim
import Derived.Test.YtdpeflbdoaccbaaSL6
import Derived.Test.YtdpeflbdoaccbaaLay
import Derived.Test.YtdpeflbdoaccbaaSL5
import Derived.Test.YtdpeflbdoaccbaaXCLx0
import Derived.Test.YtdpeflbdoaccbaaXCLx3
namespace Go.Proofs.Ytdpeflbdoaccbaa.XCL
open Go.Proofs.YtdpeflbdoaccbaaV Go.Proofs.YtdpeflbdoaccbaaS
open Go.RowKit Go.Proofs.YtdpeflbdoaccbaaW.PrintWords Go.Proofs.YtdpeflbdoaccbaaW.PrintLast Go.Proofs.YtdpeflbdoaccbaaW.PrintMore
attribute [local go_sem] max2_int min2_int max_two min_two max_three min_three max_four min_four   -- for this text's walks alone
set_option linter.unusedVariables false
set_option linter.unusedSimpArgs false

/-! ### grid_Near: function 36 -/
def grid_Near.f (k : Nat) (a0_0 : Int) (a0_1 : Int) (a1_0 : Int) (a1_1 : Int) (a2 : Int) : Option (Bool) := if a2 ≥ 0 then ((grid_Square.f k a0_0 a0_1 a1_0 a1_1).bind fun t158 => ((sat_Mul.f a2 a2).bind fun t159 => (some (decide (t158 ≤ t159))))) else (some false)
theorem grid_Near.mono : ∀ a0 a1 a2 a3 a4 k, LeO (grid_Near.f k a0 a1 a2 a3 a4) (grid_Near.f (k + 1) a0 a1 a2 a3 a4) := by
  intro a0 a1 a2 a3 a4 k
  unfold grid_Near.f
  repeat' first
      | (with_reducible exact grid_Square.mono _ _ _ _ _)
      | (with_reducible exact LeO.refl _)
      | (with_reducible exact LeO.none _)
      | (with_reducible refine LeO.ite ?_ ?_)
      | (with_reducible refine LeO.bind ?_ (fun _ => ?_))
      | exact grid_Square.mono _ _ _ _ _
      | exact LeO.none _
      | refine LeO.ite ?_ ?_
      | refine LeO.bind ?_ (fun _ => ?_)
set_option maxHeartbeats 8000000 in
set_option maxRecDepth 100000 in
theorem grid_Near.calls (k : Nat) (a0_0 : Int) (a0_1 : Int) (a1_0 : Int) (a1_1 : Int) (a2 : Int) (r : Bool) (w : World) (h : grid_Near.f k a0_0 a0_1 a1_0 a1_1 a2 = some r) :
    Calls Try.prog 36 #[.agg #[.int .i64 a0_0, .int .i64 a0_1], .agg #[.int .i64 a1_0, .int .i64 a1_1], .int .i64 a2] w fun e w' => e = .returned (.bool r) ∧ Below w.heap.size w w' := by
  have hu42 := Try.underlying42
  have HB := Aside0.mk (Below.refl w.heap.size w)
  have H : (if a2 ≥ 0 then ((grid_Square.f k a0_0 a0_1 a1_0 a1_1).bind fun t158 => ((sat_Mul.f a2 a2).bind fun t159 => (some (decide (t158 ≤ t159))))) else (some false)) = some r := h
  clear h
  by_cases c4 : a2 ≥ 0
  · rw [if_pos c4] at H
    have c4b0 : decide (0 ≤ a2) = true := decide_eq_true c4
    clear c4
    replace H := Option.bind_eq_some_iff.mp H
    obtain ⟨t158, A50, H⟩ := H
    replace H : ((sat_Mul.f a2 a2).bind fun t159 => (some (decide (t158 ≤ t159)))) = some r := H
    have A5 := Aside0.mk A50
    clear A50
    replace H := Option.bind_eq_some_iff.mp H
    obtain ⟨t159, A60, H⟩ := H
    replace H : (some (decide (t158 ≤ t159))) = some r := H
    have A6 := Aside0.mk A60
    clear A60
    obtain rfl := Option.some.inj H
    go_enter Try.func36, Try.ntmps36
    go_wp2_with (first | ((with_reducible refine gate_dst (N := 3) rfl ?_); refine box_event ?hg (N := 3) ?hd (cs := #[.int .i64 a0_0, .int .i64 a0_1]) (t := 42) ?hr ?_; (case hd => rfl); (case hg => rfl); (case hr => first | (go_simp; done) | (go_simp; rfl)); intro gb156 hg w7 hbox hb; have n0_ := Aside0.mk (below_step (by repeat (first | (with_reducible first | exact HB.out | apply below_alloc | apply pw_below_drewN | apply below_drew1) | exact HB.out)) hb); have n1_ := Aside0.mk (hbox); have n2_ := Aside0.mk ((by rw [hg]; exact (below_size (by repeat (first | (with_reducible first | exact HB.out | apply below_alloc | apply pw_below_drewN | apply below_drew1) | exact HB.out))) : w.heap.size ≤ gb156)); have n3_ := Aside0.mk ((by rw [hg]; exact (below_size (by repeat (first | (with_reducible first | exact HB.out | apply below_alloc | apply pw_below_drewN | apply below_drew1) | exact HB.out))) : w.heap.size ≤ gb156)); clear HB; have HB := n0_; have BK156 := n1_; have GW156 := n2_; have GE156 := n3_; clear n0_ n1_ n2_ n3_; clear hb hbox hg) | ((with_reducible refine gate_dst (N := 4) rfl ?_); refine box_event ?hg (N := 4) ?hd (cs := #[.int .i64 a1_0, .int .i64 a1_1]) (t := 42) ?hr ?_; (case hd => rfl); (case hg => rfl); (case hr => first | (go_simp; done) | (go_simp; rfl)); intro gb157 hg w8 hbox hb; have n0_ := Aside0.mk (blk_below (g := gb156) (o := .cells #[.int .i64 a0_0, .int .i64 a0_1] 42 (0, 0)) (by (with_reducible repeat (first | refine blk_drewN ?_ _ | refine blk_drew ?_ | refine blk_alloc ?_ _)); exact BK156.out) hb); have n1_ := Aside0.mk (below_step (by repeat (first | (with_reducible first | exact HB.out | apply below_alloc | apply pw_below_drewN | apply below_drew1 | refine below_set ?_ GE156.out) | exact HB.out)) hb); have n2_ := Aside0.mk (hbox); have n3_ := Aside0.mk ((by rw [hg]; exact (below_size (by repeat (first | (with_reducible first | exact HB.out | apply below_alloc | apply pw_below_drewN | apply below_drew1 | refine below_set ?_ GE156.out) | exact HB.out))) : w.heap.size ≤ gb157)); have n4_ := Aside0.mk ((by rw [hg]; exact (below_size (by repeat (first | (with_reducible first | exact HB.out | apply below_alloc | apply pw_below_drewN | apply below_drew1 | refine below_set ?_ GE156.out) | exact HB.out))) : w.heap.size ≤ gb157)); have n5_ := Aside0.mk ((by rw [hg]; exact Nat.ne_of_lt (blk_lt (g := gb156) (o := .cells #[.int .i64 a0_0, .int .i64 a0_1] 42 (0, 0)) (by (with_reducible repeat (first | refine blk_drewN ?_ _ | refine blk_drew ?_ | refine blk_alloc ?_ _)); exact BK156.out)) : gb156 ≠ gb157)); have n6_ := Aside0.mk ((by rw [hg]; exact Nat.ne_of_gt (blk_lt (g := gb156) (o := .cells #[.int .i64 a0_0, .int .i64 a0_1] 42 (0, 0)) (by (with_reducible repeat (first | refine blk_drewN ?_ _ | refine blk_drew ?_ | refine blk_alloc ?_ _)); exact BK156.out)) : gb157 ≠ gb156)); clear BK156; clear HB; have BK156 := n0_; have HB := n1_; have BK157 := n2_; have GW157 := n3_; have GE157 := n4_; have NB156_157 := n5_; have NB157_156 := n6_; clear n0_ n1_ n2_ n3_ n4_ n5_ n6_; clear hb hbox hg; have hnb9 := NB156_157.out; have hnc9 := NB157_156.out; have hcz10_0 : w8.cell? ⟨gb156, 0, none⟩ = some (.int .i64 a0_0) := (blk_cell BK156.out 0).trans rfl; have hcz10_1 : w8.cell? ⟨gb156, 1, none⟩ = some (.int .i64 a0_1) := (blk_cell BK156.out 1).trans rfl; have hfz10_0 := blk_frozen BK156.out 0; have hfz10_1 := blk_frozen BK156.out 1; have hcz11_0 : w8.cell? ⟨gb157, 0, none⟩ = some (.int .i64 a1_0) := (blk_cell BK157.out 0).trans rfl; have hcz11_1 : w8.cell? ⟨gb157, 1, none⟩ = some (.int .i64 a1_1) := (blk_cell BK157.out 1).trans rfl; have hfz11_0 := blk_frozen BK157.out 0; have hfz11_1 := blk_frozen BK157.out 1) | (go_at_call 48; (with_reducible refine (grid_Square.calls k a0_0 a0_1 a1_0 a1_1 t158 _ A5.out).mono ?_); rintro e w12 ⟨rfl, hb⟩; have n0_ := Aside0.mk (blk_below (g := gb156) (o := .cells #[.int .i64 a0_0, .int .i64 a0_1] 42 (0, 0)) (by (with_reducible repeat (first | refine blk_drewN ?_ _ | refine blk_drew ?_ | refine blk_alloc ?_ _)); exact BK156.out) hb); have n1_ := Aside0.mk (blk_below (g := gb157) (o := .cells #[.int .i64 a1_0, .int .i64 a1_1] 42 (0, 0)) (by (with_reducible repeat (first | refine blk_drewN ?_ _ | refine blk_drew ?_ | refine blk_alloc ?_ _)); exact BK157.out) hb); have n2_ := Aside0.mk (below_step (by repeat (first | (with_reducible first | exact HB.out | apply below_alloc | apply pw_below_drewN | apply below_drew1 | refine below_set ?_ GE156.out | refine below_set ?_ GE157.out) | exact HB.out)) hb); clear BK156; clear BK157; clear HB; have BK156 := n0_; have BK157 := n1_; have HB := n2_; clear n0_ n1_ n2_; (try clear hb); (try clear hb2); (try clear hk); (try clear hi)) | (go_at_call 49; (with_reducible refine calls_of_args (args' := #[.int .i64 a2, .int .i64 a2]) rfl ?_); (with_reducible refine (sat_Mul.calls a2 a2 t159 _ A6.out).mono ?_); rintro e w' ⟨rfl, ⟨nd, rfl⟩⟩))
    go_ret
    exact ⟨by first | rfl | (simp [errW_none, errW_some] <;> rfl) | (simp [*, errW_none, errW_some] <;> rfl), by repeat (first | (with_reducible first | exact HB.out | apply below_alloc | apply pw_below_drewN | apply below_drew1 | refine below_set ?_ GE156.out | refine below_set ?_ GE157.out) | exact HB.out)⟩
  · rw [if_neg c4] at H
    have c4b0 : decide (0 ≤ a2) = false := decide_eq_false c4
    clear c4
    obtain rfl := Option.some.inj H
    go_enter Try.func36, Try.ntmps36
    go_wp2_with (first | ((with_reducible refine gate_dst (N := 3) rfl ?_); refine box_event ?hg (N := 3) ?hd (cs := #[.int .i64 a0_0, .int .i64 a0_1]) (t := 42) ?hr ?_; (case hd => rfl); (case hg => rfl); (case hr => first | (go_simp; done) | (go_simp; rfl)); intro gb156 hg w13 hbox hb; have n0_ := Aside0.mk (below_step (by repeat (first | (with_reducible first | exact HB.out | apply below_alloc | apply pw_below_drewN | apply below_drew1) | exact HB.out)) hb); have n1_ := Aside0.mk (hbox); have n2_ := Aside0.mk ((by rw [hg]; exact (below_size (by repeat (first | (with_reducible first | exact HB.out | apply below_alloc | apply pw_below_drewN | apply below_drew1) | exact HB.out))) : w.heap.size ≤ gb156)); have n3_ := Aside0.mk ((by rw [hg]; exact (below_size (by repeat (first | (with_reducible first | exact HB.out | apply below_alloc | apply pw_below_drewN | apply below_drew1) | exact HB.out))) : w.heap.size ≤ gb156)); clear HB; have HB := n0_; have BK156 := n1_; have GW156 := n2_; have GE156 := n3_; clear n0_ n1_ n2_ n3_; clear hb hbox hg) | ((with_reducible refine gate_dst (N := 4) rfl ?_); refine box_event ?hg (N := 4) ?hd (cs := #[.int .i64 a1_0, .int .i64 a1_1]) (t := 42) ?hr ?_; (case hd => rfl); (case hg => rfl); (case hr => first | (go_simp; done) | (go_simp; rfl)); intro gb157 hg w14 hbox hb; have n0_ := Aside0.mk (blk_below (g := gb156) (o := .cells #[.int .i64 a0_0, .int .i64 a0_1] 42 (0, 0)) (by (with_reducible repeat (first | refine blk_drewN ?_ _ | refine blk_drew ?_ | refine blk_alloc ?_ _)); exact BK156.out) hb); have n1_ := Aside0.mk (below_step (by repeat (first | (with_reducible first | exact HB.out | apply below_alloc | apply pw_below_drewN | apply below_drew1 | refine below_set ?_ GE156.out) | exact HB.out)) hb); have n2_ := Aside0.mk (hbox); have n3_ := Aside0.mk ((by rw [hg]; exact (below_size (by repeat (first | (with_reducible first | exact HB.out | apply below_alloc | apply pw_below_drewN | apply below_drew1 | refine below_set ?_ GE156.out) | exact HB.out))) : w.heap.size ≤ gb157)); have n4_ := Aside0.mk ((by rw [hg]; exact (below_size (by repeat (first | (with_reducible first | exact HB.out | apply below_alloc | apply pw_below_drewN | apply below_drew1 | refine below_set ?_ GE156.out) | exact HB.out))) : w.heap.size ≤ gb157)); have n5_ := Aside0.mk ((by rw [hg]; exact Nat.ne_of_lt (blk_lt (g := gb156) (o := .cells #[.int .i64 a0_0, .int .i64 a0_1] 42 (0, 0)) (by (with_reducible repeat (first | refine blk_drewN ?_ _ | refine blk_drew ?_ | refine blk_alloc ?_ _)); exact BK156.out)) : gb156 ≠ gb157)); have n6_ := Aside0.mk ((by rw [hg]; exact Nat.ne_of_gt (blk_lt (g := gb156) (o := .cells #[.int .i64 a0_0, .int .i64 a0_1] 42 (0, 0)) (by (with_reducible repeat (first | refine blk_drewN ?_ _ | refine blk_drew ?_ | refine blk_alloc ?_ _)); exact BK156.out)) : gb157 ≠ gb156)); clear BK156; clear HB; have BK156 := n0_; have HB := n1_; have BK157 := n2_; have GW157 := n3_; have GE157 := n4_; have NB156_157 := n5_; have NB157_156 := n6_; clear n0_ n1_ n2_ n3_ n4_ n5_ n6_; clear hb hbox hg))
    go_ret
    exact ⟨by first | rfl | (simp [errW_none, errW_some] <;> rfl) | (simp [*, errW_none, errW_some] <;> rfl), by repeat (first | (with_reducible first | exact HB.out | apply below_alloc | apply pw_below_drewN | apply below_drew1 | refine below_set ?_ GE156.out | refine below_set ?_ GE157.out) | exact HB.out)⟩

-- NOT PRINTED: function 73 (roster_find_1)

-- NOT PRINTED: function 7000003 (api_Member_67_c73)

/-! ### roster_find_1_i1: function 73 -/
def roster_find_1_i1.f (a0_0 : Int) (a0_1 : Int) (s0_0 : Int) : Option (Bool × Int) := if a0_0 = s0_0 then (some (true, s0_0)) else (some (false, s0_0))
def roster_find_1_i1.Post (b0 : Nat) (r1 : Bool) (r2 : Int) (S : Nat → Prop) (L : List Asr) (w : World) (e : Ending) (w' : World) : Prop := e = .returned (.bool r1) ∧ SL (cells b0 3 [.int .i64 r2].toArray :: L) w' S ∧ Keep S w w'
set_option maxHeartbeats 8000000 in
set_option maxRecDepth 100000 in
theorem roster_find_1_i1.slcalls (a0_0 : Int) (a0_1 : Int) (b0 : Nat) (s0_0 : Int) (r1 : Bool) (r2 : Int) (S : Nat → Prop) (L : List Asr) (w : World) (hf : Fresh S w) (hs : SL (cells b0 3 [.int .i64 s0_0].toArray :: L) w S) (h : roster_find_1_i1.f a0_0 a0_1 s0_0 = some (r1, r2)) :
    Calls Try.prog 73 #[.agg #[.int .i64 a0_0, .int .i64 a0_1], .pointer (some ⟨b0, 0, none⟩)] w (roster_find_1_i1.Post b0 r1 r2 S L w) := by
  have HF := Aside0.mk hf
  have HS := Aside0.mk hs
  have HK := Aside0.mk (Keep.refl S w)
  clear hf hs
  have hu71 := Try.underlying71
  have H : (if a0_0 = s0_0 then (some (true, s0_0)) else (some (false, s0_0))) = some (r1, r2) := h
  clear h
  by_cases c1 : a0_0 = s0_0
  · rw [if_pos c1] at H
    have c1b0 : (a0_0 == s0_0) = true := beq_iff_eq.mpr c1
    have c1b1 : (a0_0 != s0_0) = false := bne_eq_false_iff_eq.mpr c1
    clear c1
    simp only [Option.some.injEq, Prod.mk.injEq] at H
    obtain ⟨rfl, rfl⟩ := H
    go_enter Try.func73, Try.ntmps73
    go_wp2_with (first | ((with_reducible refine gate_dst (N := 2) rfl ?_); refine wpList_plain rfl (fun K_ hK_ => ?_); refine op_box (S := S) (cs := #[.int .i64 a0_0, .int .i64 a0_1]) (t := 71) (HF.out.keep HK.out) HS.out (by first | (go_simp; done) | (go_simp; rfl)) ?_; intro g3000009 w2 hs_ hk_; refine hK_ _ _ ?_; clear hK_ K_; replace HS := Aside0.mk (hs_); replace HK := Aside0.mk (HK.out.trans hk_); have hb_ := SL.at_ HS.out; have hz3000009_0_1 := ((blk_cell hb_ 0).trans rfl : _ = some (.int .i64 a0_0)); have hz3000009_1_1 := ((blk_cell hb_ 1).trans rfl : _ = some (.int .i64 a0_1)); clear hb_; have hb_ := SL.at_ (SL.get1 HS.out); have hz0_0_1 := ((blk_cell hb_ 0).trans rfl : _ = some (.int .i64 s0_0)); clear hb_))
    go_ret
    replace HS := Aside0.mk (SL.tail HS.out)
    unfold roster_find_1_i1.Post
    exact ⟨by first | rfl | (simp; done) | (simp [*]; done) | (simp at c1b0 ⊢; first | exact c1b0 | (simp [c1b0]; done)), HS.out, HK.out⟩
  · rw [if_neg c1] at H
    have c1b0 : (a0_0 == s0_0) = false := beq_eq_false_iff_ne.mpr c1
    have c1b1 : (a0_0 != s0_0) = true := bne_iff_ne.mpr c1
    simp only [Option.some.injEq, Prod.mk.injEq] at H
    obtain ⟨rfl, rfl⟩ := H
    go_enter Try.func73, Try.ntmps73
    go_wp2_with (first | ((with_reducible refine gate_dst (N := 2) rfl ?_); refine wpList_plain rfl (fun K_ hK_ => ?_); refine op_box (S := S) (cs := #[.int .i64 a0_0, .int .i64 a0_1]) (t := 71) (HF.out.keep HK.out) HS.out (by first | (go_simp; done) | (go_simp; rfl)) ?_; intro g3000009 w3 hs_ hk_; refine hK_ _ _ ?_; clear hK_ K_; replace HS := Aside0.mk (hs_); replace HK := Aside0.mk (HK.out.trans hk_); have hb_ := SL.at_ HS.out; have hz3000009_0_1 := ((blk_cell hb_ 0).trans rfl : _ = some (.int .i64 a0_0)); have hz3000009_1_1 := ((blk_cell hb_ 1).trans rfl : _ = some (.int .i64 a0_1)); clear hb_; have hb_ := SL.at_ (SL.get1 HS.out); have hz0_0_1 := ((blk_cell hb_ 0).trans rfl : _ = some (.int .i64 s0_0)); clear hb_))
    go_ret
    replace HS := Aside0.mk (SL.tail HS.out)
    unfold roster_find_1_i1.Post
    exact ⟨by first | rfl | (simp; done) | (simp [*]; done) | (simp at c1b0 ⊢; first | exact c1b0 | (simp [c1b0]; done)), HS.out, HK.out⟩

/-! ### api_Member_67_i2: function 67 -/
def api_Member_67_i2.l0 : Nat → (List (S71)) → Int → Int → Option (Int × Int)
  | 0, _, _, _ => none
  | k + 1, l0, x8_0, x0_0_0 => if x8_0 < (l0.length : Int) then (if 0 ≤ x8_0 then ((roster_find_1_i1.f ((rd_T71 l0 x8_0).f0) ((rd_T71 l0 x8_0).f1) x0_0_0).bind fun bt167 => (if bt167.1 = true then (some (x8_0, bt167.2)) else (api_Member_67_i2.l0 k l0 (wrap64 (x8_0 + 1)) bt167.2))) else (none)) else (some ((-1), x0_0_0))
def api_Member_67_i2.f (k : Nat) (l0 : List (S71)) (s0_0 : Int) : Option (Int × Int) := api_Member_67_i2.l0 k l0 0 s0_0
theorem api_Member_67_i2.mono_l : ∀ k, (∀ y0 y1 y2, LeO (api_Member_67_i2.l0 k y0 y1 y2) (api_Member_67_i2.l0 (k + 1) y0 y1 y2))
  | 0 => fun _ _ _ r h => by simp [api_Member_67_i2.l0] at h
  | k + 1 => by
    have ih0 := api_Member_67_i2.mono_l k
    · intro y0 y1 y2
      unfold api_Member_67_i2.l0
      repeat' first
      | (with_reducible exact ih0 _ _ _)
      | (with_reducible exact LeO.refl _)
      | (with_reducible exact LeO.none _)
      | (with_reducible refine LeO.ite ?_ ?_)
      | (with_reducible refine everyOf_le (fun _ => ?_))
      | (with_reducible refine LeO.bind ?_ (fun _ => ?_))
      | exact ih0 _ _ _
      | exact LeO.none _
      | refine LeO.ite ?_ ?_
      | refine LeO.bind ?_ (fun _ => ?_)
theorem api_Member_67_i2.mono : ∀ a0 a1 k, LeO (api_Member_67_i2.f k a0 a1) (api_Member_67_i2.f (k + 1) a0 a1) := by
  intro a0 a1 k
  have ih0 := api_Member_67_i2.mono_l k
  unfold api_Member_67_i2.f
  repeat' first
      | (with_reducible exact ih0 _ _ _)
      | (with_reducible exact LeO.refl _)
      | (with_reducible exact LeO.none _)
      | (with_reducible refine LeO.ite ?_ ?_)
      | (with_reducible refine everyOf_le (fun _ => ?_))
      | (with_reducible refine LeO.bind ?_ (fun _ => ?_))
      | exact ih0 _ _ _
      | exact LeO.none _
      | refine LeO.ite ?_ ?_
      | refine LeO.bind ?_ (fun _ => ?_)
def api_Member_67_i2.Post (b0 : Nat) (r1 : Int) (r2 : Int) (S : Nat → Prop) (L : List Asr) (w : World) (e : Ending) (w' : World) : Prop := e = .returned (.int .i64 r1) ∧ SL (cells b0 3 [.int .i64 r2].toArray :: L) w' S ∧ Keep S w w'
set_option maxHeartbeats 8000000 in
set_option maxRecDepth 100000 in
theorem api_Member_67_i2.slcalls (k : Nat) (A0 : Option Addr) (c0 : Nat) (l0 : List (S71)) (b0 : Nat) (s0_0 : Int) (r1 : Int) (r2 : Int) (S : Nat → Prop) (L : List Asr) (w : World) (hf : Fresh S w) (hs : SL (cells b0 3 [.int .i64 s0_0].toArray :: L) w S) (hr0 : RO S w (fun w_ => Kd.C k71 w_ A0 l0.length l0)) (hc0 : l0.length ≤ c0) (h : api_Member_67_i2.f k l0 s0_0 = some (r1, r2)) :
    Calls Try.prog 67 #[.slice A0 l0.length c0, .func (.func 73) #[] #[.pointer (some ⟨b0, 0, none⟩)]] w (api_Member_67_i2.Post b0 r1 r2 S L w) := by
  have HR0 := Aside0.mk hr0
  have HC0 := Aside0.mk hc0
  clear hr0 hc0
  have HF := Aside0.mk hf
  have HS := Aside0.mk hs
  have HK := Aside0.mk (Keep.refl S w)
  clear hf hs
  have hu71 := Try.underlying71
  have H : (api_Member_67_i2.l0 k l0 0 s0_0) = some (r1, r2) := h
  clear h
  have H' := Aside0.mk H
  clear H
  go_enter Try.func67, Try.ntmps67
  go_wp2
  go_loopg [8] k (fun kq v8 w' => ∃ (x0_0_0 : Int) (x8_0 : Int), v8 = .int .i64 x8_0 ∧ Aside0 (api_Member_67_i2.l0 kq l0 x8_0 x0_0_0 = some (r1, r2)) ∧ Aside0 (kq ≤ k) ∧ Aside0 (SL (cells b0 3 [.int .i64 x0_0_0].toArray :: L) w' S) ∧ Aside0 (Keep S w w'))
  case atStart => exact ⟨(s0_0), (0), (by first | rfl | (simp; done) | (simp [*]; done)), H', ⟨Nat.le_refl _⟩, HS, HK⟩
  case round =>
    clear H' HS HK
    obtain ⟨x0_0_0, x8_0, rfl, HA, HQ1, HS, HK⟩ := hrel
    cases gk with
    | zero => exact absurd HA.out (by simp [api_Member_67_i2.l0])
    | succ k1 =>
      have H := HA.out
      clear HA
      simp only [api_Member_67_i2.l0] at H
      by_cases c1 : x8_0 < (l0.length : Int)
      · rw [if_pos c1] at H
        have c1b0 : decide (x8_0 < (l0.length : Int)) = true := decide_eq_true c1
        clear c1
        by_cases c2 : 0 ≤ x8_0
        · rw [if_pos c2] at H
          have c2b0 : decide (0 ≤ x8_0) = true := decide_eq_true c2
          clear c2
          replace H := Option.bind_eq_some_iff.1 H
          obtain ⟨⟨t167, t168⟩, Hc30, H⟩ := H
          try dsimp only at H
          have Hc3 := Aside0.mk Hc30
          clear Hc30
          by_cases c4 : t167 = true
          · subst c4
            rw [if_pos rfl] at H
            simp only [Option.some.injEq, Prod.mk.injEq] at H
            obtain ⟨rfl, rfl⟩ := H
            have pq166 : 0 ≤ (x8_0 : Int) := of_decide_eq_true (by first | (with_reducible assumption) | assumption)
            have qq166 : x8_0 < ((l0.length : Int) : Int) := of_decide_eq_true (by first | (with_reducible assumption) | assumption)
            obtain ⟨adq166, eq166, hxq166_0, hxq166_1⟩ := at_T71 (RO.at_ HR0.out HK.out) x8_0 pq166 qq166
            cases eq166
            replace pq166 := eq_true pq166
            replace qq166 := eq_true qq166
            go_wp2_with (first | ((with_reducible refine gate_dst (N := 16) rfl ?_); refine goesLc_ (some 16) rfl (by with_unfolding_all rfl) rfl Try.func73 (by kernel_rfl) rfl #[.agg #[.int .i64 ((rd_T71 l0 x8_0).f0), .int .i64 ((rd_T71 l0 x8_0).f1)], .pointer (some ⟨b0, 0, none⟩)] rfl (by (try simp only [List.map_toArray, List.map_cons, List.map_nil]); first | done | rfl | (simp; done)) ?_; have hs0_ := HS.out; (with_reducible refine (roster_find_1_i1.slcalls _ _ _ _ _ _ _ _ _ (HF.out.keep HK.out) hs0_  Hc3.out).mono ?_); rintro e_ w5 ⟨rfl, hsr_, hkr_⟩; refine ⟨_, rfl, ?_⟩; replace HS := Aside0.mk (hsr_); replace HK := Aside0.mk (HK.out.trans hkr_)))
            go_ret
            unfold api_Member_67_i2.Post
            exact ⟨by first | rfl | (simp; done) | (simp [*]; done) | (simp at c2b0 ⊢; first | exact c2b0 | (simp [c2b0]; done)), HS.out, HK.out⟩
          · replace c4 := Bool.eq_false_iff.mpr c4
            subst c4
            rw [if_neg (show ¬ (false = true) by decide)] at H
            have H' := Aside0.mk H
            clear H
            have pq166 : 0 ≤ (x8_0 : Int) := of_decide_eq_true (by first | (with_reducible assumption) | assumption)
            have qq166 : x8_0 < ((l0.length : Int) : Int) := of_decide_eq_true (by first | (with_reducible assumption) | assumption)
            obtain ⟨adq166, eq166, hxq166_0, hxq166_1⟩ := at_T71 (RO.at_ HR0.out HK.out) x8_0 pq166 qq166
            cases eq166
            replace pq166 := eq_true pq166
            replace qq166 := eq_true qq166
            go_wp2_with (first | ((with_reducible refine gate_dst (N := 16) rfl ?_); refine goesLc_ (some 16) rfl (by with_unfolding_all rfl) rfl Try.func73 (by kernel_rfl) rfl #[.agg #[.int .i64 ((rd_T71 l0 x8_0).f0), .int .i64 ((rd_T71 l0 x8_0).f1)], .pointer (some ⟨b0, 0, none⟩)] rfl (by (try simp only [List.map_toArray, List.map_cons, List.map_nil]); first | done | rfl | (simp; done)) ?_; have hs0_ := HS.out; (with_reducible refine (roster_find_1_i1.slcalls _ _ _ _ _ _ _ _ _ (HF.out.keep HK.out) hs0_  Hc3.out).mono ?_); rintro e_ w6 ⟨rfl, hsr_, hkr_⟩; refine ⟨_, rfl, ?_⟩; replace HS := Aside0.mk (hsr_); replace HK := Aside0.mk (HK.out.trans hkr_)))
            go_roundg k1
            case measure => have := HQ1.out; omega
            case rel => exact ⟨(t168), (wrap64 (x8_0 + 1)), (by first | rfl | (simp; done) | (simp [*]; done)), H', ⟨by have := HQ1.out; omega⟩, HS, HK⟩
        · rw [if_neg c2] at H
          exact absurd H (by simp)
      · rw [if_neg c1] at H
        have c1b0 : decide (x8_0 < (l0.length : Int)) = false := decide_eq_false c1
        clear c1
        simp only [Option.some.injEq, Prod.mk.injEq] at H
        obtain ⟨rfl, rfl⟩ := H
        go_wp2
        go_ret
        unfold api_Member_67_i2.Post
        exact ⟨by first | rfl | (simp; done) | (simp [*]; done) | (simp at c1b0 ⊢; first | exact c1b0 | (simp [c1b0]; done)), HS.out, HK.out⟩

/-! ### roster_find: function 50 -/
def roster_find.f (k : Nat) (l0 : List (S71)) (a1 : Int) : Option (Int) := (api_Member_67_i2.f k l0 a1).bind fun bt169 => (some bt169.1)
theorem roster_find.mono : ∀ a0 a1 k, LeO (roster_find.f k a0 a1) (roster_find.f (k + 1) a0 a1) := by
  intro a0 a1 k
  unfold roster_find.f
  repeat' first
      | (with_reducible exact api_Member_67_i2.mono _ _ _)
      | (with_reducible exact LeO.refl _)
      | (with_reducible exact LeO.none _)
      | (with_reducible refine LeO.ite ?_ ?_)
      | (with_reducible refine everyOf_le (fun _ => ?_))
      | (with_reducible refine LeO.bind ?_ (fun _ => ?_))
      | exact api_Member_67_i2.mono _ _ _
      | exact LeO.none _
      | refine LeO.ite ?_ ?_
      | refine LeO.bind ?_ (fun _ => ?_)
def roster_find.Post (r : Int) (S : Nat → Prop) (L : List Asr) (w : World) (e : Ending) (w' : World) : Prop := e = .returned (.int .i64 r) ∧ SL (L) w' S ∧ Keep S w w'
set_option maxHeartbeats 8000000 in
set_option maxRecDepth 100000 in
theorem roster_find.slcalls (k : Nat) (A0 : Option Addr) (c0 : Nat) (l0 : List (S71)) (a1 : Int) (r : Int) (S : Nat → Prop) (L : List Asr) (w : World) (hf : Fresh S w) (hs : SL (L) w S) (hr0 : RO S w (fun w_ => Kd.C k71 w_ A0 l0.length l0)) (hc0 : l0.length ≤ c0) (h : roster_find.f k l0 a1 = some r) :
    Calls Try.prog 50 #[.slice A0 l0.length c0, .int .i64 a1] w (roster_find.Post r S L w) := by
  have HR0 := Aside0.mk hr0
  have HC0 := Aside0.mk hc0
  clear hr0 hc0
  have HF := Aside0.mk hf
  have HS := Aside0.mk hs
  have HK := Aside0.mk (Keep.refl S w)
  clear hf hs
  have H : ((api_Member_67_i2.f k l0 a1).bind fun bt169 => (some bt169.1)) = some r := h
  clear h
  replace H := Option.bind_eq_some_iff.1 H
  obtain ⟨⟨t169, t170⟩, Hc10, H⟩ := H
  try dsimp only at H
  have Hc1 := Aside0.mk Hc10
  clear Hc10
  obtain rfl := Option.some.inj H
  go_enter Try.func50, Try.ntmps50
  go_wp2_with (first | ((with_reducible refine gate_dst (N := 3) rfl ?_); refine wpList_plain rfl (fun K_ hK_ => ?_); refine op_box (S := S) (cs := #[.int .i64 a1]) (t := 3) (HF.out.keep HK.out) HS.out (by first | (go_simp; done) | (go_simp; rfl)) ?_; intro g3000008 w2 hs_ hk_; refine hK_ _ _ ?_; clear hK_ K_; replace HS := Aside0.mk (hs_); replace HK := Aside0.mk (HK.out.trans hk_)) | ((with_reducible refine gate_dst (N := 7) rfl ?_); refine goesL_ (some 7) rfl rfl Try.func67 (by kernel_rfl) rfl #[.slice A0 l0.length c0, .func (.func 73) #[] #[.pointer (some ⟨g3000008, 0, none⟩)]] rfl (by (try simp only [List.map_toArray, List.map_cons, List.map_nil]); first | done | rfl | (simp; done)) ?_; have hs0_ := HS.out; (with_reducible refine (api_Member_67_i2.slcalls k _ _ _ _ _ _ _ _ _ _ (HF.out.keep HK.out) hs0_ (HR0.out.keep HK.out) HC0.out Hc1.out).mono ?_); rintro e_ w3 ⟨rfl, hsr_, hkr_⟩; refine ⟨_, rfl, ?_⟩; replace HS := Aside0.mk (hsr_); replace HK := Aside0.mk (HK.out.trans hkr_)))
  go_ret
  replace HS := Aside0.mk (SL.tail HS.out)
  unfold roster_find.Post
  exact ⟨by first | rfl | (simp; done) | (simp [*]; done), HS.out, HK.out⟩
theorem roster_find.calls (k : Nat) (A0 : Option Addr) (c0 : Nat) (l0 : List (S71)) (a1 : Int) (r : Int) (w : World) (hr0 : Kd.C k71 w A0 l0.length l0) (hc0 : l0.length ≤ c0) (h : roster_find.f k l0 a1 = some r) :
    Calls Try.prog 50 #[.slice A0 l0.length c0, .int .i64 a1] w fun e w' => e = .returned (.int .i64 r) ∧ Below w.heap.size w w' :=
  (roster_find.slcalls k A0 c0 l0 a1 r (news w) [] w (fresh_news w) trivial (RO.top hr0) hc0 h).mono fun _ _ h => ⟨h.1, h.2.2.to_below⟩

/-! ### roster_Group: function 37 -/
def roster_Group.f (k : Nat) (l0 : List (S71)) (a1 : Int) : Option (Int) := (roster_find.f k l0 a1).bind fun t171 => (if t171 < 0 then (some 0) else (if 0 ≤ t171 then (if t171 < (l0.length : Int) then (some ((rd_T71 l0 t171).f1)) else (none)) else (none)))
theorem roster_Group.mono : ∀ a0 a1 k, LeO (roster_Group.f k a0 a1) (roster_Group.f (k + 1) a0 a1) := by
  intro a0 a1 k
  unfold roster_Group.f
  repeat' first
      | (with_reducible exact roster_find.mono _ _ _)
      | (with_reducible exact LeO.refl _)
      | (with_reducible exact LeO.none _)
      | (with_reducible refine LeO.ite ?_ ?_)
      | (with_reducible refine LeO.bind ?_ (fun _ => ?_))
      | exact roster_find.mono _ _ _
      | exact LeO.none _
      | refine LeO.ite ?_ ?_
      | refine LeO.bind ?_ (fun _ => ?_)
set_option maxHeartbeats 8000000 in
set_option maxRecDepth 100000 in
theorem roster_Group.calls (k : Nat) (A0 : Option Addr) (c0 : Nat) (l0 : List (S71)) (a1 : Int) (r : Int) (w : World) (hr0 : Kd.C k71 w A0 l0.length l0) (hc0 : l0.length ≤ c0) (h : roster_Group.f k l0 a1 = some r) :
    Calls Try.prog 37 #[.slice A0 l0.length c0, .int .i64 a1] w fun e w' => e = .returned (.int .i64 r) ∧ Below w.heap.size w w' := by
  have HR0 := Aside0.mk hr0
  have HC0 := Aside0.mk hc0
  clear hr0 hc0
  have HB := Aside0.mk (Below.refl w.heap.size w)
  have H : ((roster_find.f k l0 a1).bind fun t171 => (if t171 < 0 then (some 0) else (if 0 ≤ t171 then (if t171 < (l0.length : Int) then (some ((rd_T71 l0 t171).f1)) else (none)) else (none)))) = some r := h
  clear h
  replace H := Option.bind_eq_some_iff.mp H
  obtain ⟨t171, A30, H⟩ := H
  replace H : (if t171 < 0 then (some 0) else (if 0 ≤ t171 then (if t171 < (l0.length : Int) then (some ((rd_T71 l0 t171).f1)) else (none)) else (none))) = some r := H
  have A3 := Aside0.mk A30
  clear A30
  by_cases c4 : t171 < 0
  · rw [if_pos c4] at H
    have c4b0 : decide (t171 < 0) = true := decide_eq_true c4
    clear c4
    obtain rfl := Option.some.inj H
    go_enter Try.func37, Try.ntmps37
    go_wp2_with (first | ((with_reducible refine gate_callee (f := 50) rfl ?_); refine goesL_ (some 8) rfl rfl Try.func50 (by kernel_rfl) rfl #[.slice A0 l0.length c0, .int .i64 a1] rfl (by (try simp only [List.map_toArray, List.map_cons, List.map_nil]); first | done | rfl | (simp only [List.length_drop, List.length_take]; rfl)) ?_; (with_reducible refine (roster_find.calls k _ _ l0 a1 t171 _ ?side1 ?side2 A3.out).mono ?_); (case side1 => repeat (first | exact HR0.out | (with_reducible refine Kd.C_alloc ?_ _) | (with_reducible refine Kd.C_drewN ?_ _) | (with_reducible refine Kd.C_drew ?_))); (case side2 => exact HC0.out); rintro e w5 ⟨rfl, hb⟩; refine ⟨_, rfl, ?_⟩; have n0_ := Aside0.mk (below_step (by repeat (first | (with_reducible first | exact HB.out | apply below_alloc | apply pw_below_drewN | apply below_drew1) | exact HB.out)) hb); clear HB; have HB := n0_; clear n0_; (try clear hb); (try clear hb2); (try clear hk); (try clear hi)))
    go_ret
    exact ⟨by first | rfl | (simp [errW_none, errW_some] <;> rfl) | (simp [*, errW_none, errW_some] <;> rfl), by repeat (first | (with_reducible first | exact HB.out | apply below_alloc | apply pw_below_drewN | apply below_drew1) | exact HB.out)⟩
  · rw [if_neg c4] at H
    have c4b0 : decide (t171 < 0) = false := decide_eq_false c4
    clear c4
    by_cases c6 : 0 ≤ t171
    · rw [if_pos c6] at H
      have c6b0 : decide (0 ≤ t171) = true := decide_eq_true c6
      clear c6
      by_cases c7 : t171 < (l0.length : Int)
      · rw [if_pos c7] at H
        have c7b0 : decide (t171 < (l0.length : Int)) = true := decide_eq_true c7
        clear c7
        obtain rfl := Option.some.inj H
        go_enter Try.func37, Try.ntmps37
        go_wp2_with (first | ((with_reducible refine gate_callee (f := 50) rfl ?_); refine goesL_ (some 8) rfl rfl Try.func50 (by kernel_rfl) rfl #[.slice A0 l0.length c0, .int .i64 a1] rfl (by (try simp only [List.map_toArray, List.map_cons, List.map_nil]); first | done | rfl | (simp only [List.length_drop, List.length_take]; rfl)) ?_; (with_reducible refine (roster_find.calls k _ _ l0 a1 t171 _ ?side1 ?side2 A3.out).mono ?_); (case side1 => repeat (first | exact HR0.out | (with_reducible refine Kd.C_alloc ?_ _) | (with_reducible refine Kd.C_drewN ?_ _) | (with_reducible refine Kd.C_drew ?_))); (case side2 => exact HC0.out); rintro e w8 ⟨rfl, hb⟩; refine ⟨_, rfl, ?_⟩; have n0_ := Aside0.mk (below_step (by repeat (first | (with_reducible first | exact HB.out | apply below_alloc | apply pw_below_drewN | apply below_drew1) | exact HB.out)) hb); clear HB; have HB := n0_; clear n0_; (try clear hb); (try clear hb2); (try clear hk); (try clear hi); have p172 : 0 ≤ (t171 : Int) := of_decide_eq_true (by first | (with_reducible assumption) | assumption); have q172 : t171 < (l0.length : Int) := of_decide_eq_true (by first | (with_reducible assumption) | assumption); obtain ⟨ad172, e172, hx172_0, hx172_1⟩ := at_T71 HR0.out t171 p172 q172; cases e172; replace hx172_0 := (HB.out.cell (World.block_lt_of_cell? w _ hx172_0)).trans hx172_0; replace hx172_1 := (HB.out.cell (World.block_lt_of_cell? w _ hx172_1)).trans hx172_1; replace p172 := eq_true p172; replace q172 := eq_true q172))
        go_ret
        exact ⟨by first | rfl | (simp [errW_none, errW_some] <;> rfl) | (simp [*, errW_none, errW_some] <;> rfl), by repeat (first | (with_reducible first | exact HB.out | apply below_alloc | apply pw_below_drewN | apply below_drew1) | exact HB.out)⟩
      · rw [if_neg c7] at H
        exact absurd H (by simp)
    · rw [if_neg c6] at H
      exact absurd H (by simp)

-- NOT PRINTED: function 24 (chat_talk_reaches)

/-! ### cmp_isNaN_int: function 79 -/
def cmp_isNaN_int.f (a0 : Int) : Option (Bool) := some (a0 != a0)
set_option maxHeartbeats 8000000 in
set_option maxRecDepth 100000 in
theorem cmp_isNaN_int.calls (a0 : Int) (r : Bool) (w : World) (h : cmp_isNaN_int.f a0 = some r) :
    Calls Try.prog 79 #[.int .i64 a0] w fun e w' => e = .returned (.bool r) ∧ Drawn0 w w' := by
  have H : (some (a0 != a0)) = some r := h
  clear h
  obtain rfl := Option.some.inj H
  go_enter Try.func79, Try.ntmps79
  go_wp2
  go_ret
  exact ⟨by first | rfl | (simp; done) | (simp [*]; done), by repeat (first | exact Drawn0.refl _ | apply Drawn0.step)⟩

/-! ### cmp_Less_int: function 57 -/
def cmp_Less_int.f (a0 : Int) (a1 : Int) : Option (Bool) := (cmp_isNaN_int.f a0).bind fun t173 => (if t173 = true then ((cmp_isNaN_int.f a1).bind fun t174 => (if t174 = true then (some (decide (a0 < a1))) else (some true))) else (some (decide (a0 < a1))))
set_option maxHeartbeats 8000000 in
set_option maxRecDepth 100000 in
theorem cmp_Less_int.calls (a0 : Int) (a1 : Int) (r : Bool) (w : World) (h : cmp_Less_int.f a0 a1 = some r) :
    Calls Try.prog 57 #[.int .i64 a0, .int .i64 a1] w fun e w' => e = .returned (.bool r) ∧ Drawn0 w w' := by
  have H : ((cmp_isNaN_int.f a0).bind fun t173 => (if t173 = true then ((cmp_isNaN_int.f a1).bind fun t174 => (if t174 = true then (some (decide (a0 < a1))) else (some true))) else (some (decide (a0 < a1))))) = some r := h
  clear h
  replace H := Option.bind_eq_some_iff.mp H
  obtain ⟨t173, A30, H⟩ := H
  replace H : (if t173 = true then ((cmp_isNaN_int.f a1).bind fun t174 => (if t174 = true then (some (decide (a0 < a1))) else (some true))) else (some (decide (a0 < a1)))) = some r := H
  have A3 := Aside0.mk A30
  clear A30
  by_cases c4 : t173 = true
  · subst c4
    have H1 : ((cmp_isNaN_int.f a1).bind fun t174 => (if t174 = true then (some (decide (a0 < a1))) else (some true))) = some r := by rw [if_pos rfl] at H; exact H
    clear H
    have H := H1
    clear H1
    replace H := Option.bind_eq_some_iff.mp H
    obtain ⟨t174, A50, H⟩ := H
    replace H : (if t174 = true then (some (decide (a0 < a1))) else (some true)) = some r := H
    have A5 := Aside0.mk A50
    clear A50
    by_cases c6 : t174 = true
    · subst c6
      have H1 : (some (decide (a0 < a1))) = some r := by rw [if_pos rfl] at H; exact H
      clear H
      have H := H1
      clear H1
      obtain rfl := Option.some.inj H
      go_enter Try.func57, Try.ntmps57
      go_wp2_with (first | ((with_reducible refine gate_callee (f := 79) rfl ?_); refine goesL_ (some 6) rfl rfl Try.func79 (by kernel_rfl) rfl #[.int .i64 a0] rfl (by (try simp only [List.map_toArray, List.map_cons, List.map_nil]); first | done | rfl | (simp only [List.length_drop, List.length_take]; rfl)) ?_; (with_reducible refine (cmp_isNaN_int.calls a0 true _ A3.out).mono ?_); rintro e w' ⟨rfl, ⟨nd, rfl⟩⟩; refine ⟨_, rfl, ?_⟩) | (go_at_call 79; (with_reducible refine calls_of_args (args' := #[.int .i64 a1]) rfl ?_); (with_reducible refine (cmp_isNaN_int.calls a1 true _ A5.out).mono ?_); rintro e w' ⟨rfl, ⟨nd, rfl⟩⟩))
      go_ret
      exact ⟨by first | rfl | (simp; done) | (simp [*]; done), by repeat (first | exact Drawn0.refl _ | apply Drawn0.step)⟩
    · replace c6 := Bool.eq_false_iff.mpr c6
      subst c6
      have H1 : (some true) = some r := by rw [if_neg (show ¬ (false = true) by decide)] at H; exact H
      clear H
      have H := H1
      clear H1
      obtain rfl := Option.some.inj H
      go_enter Try.func57, Try.ntmps57
      go_wp2_with (first | ((with_reducible refine gate_callee (f := 79) rfl ?_); refine goesL_ (some 6) rfl rfl Try.func79 (by kernel_rfl) rfl #[.int .i64 a0] rfl (by (try simp only [List.map_toArray, List.map_cons, List.map_nil]); first | done | rfl | (simp only [List.length_drop, List.length_take]; rfl)) ?_; (with_reducible refine (cmp_isNaN_int.calls a0 true _ A3.out).mono ?_); rintro e w' ⟨rfl, ⟨nd, rfl⟩⟩; refine ⟨_, rfl, ?_⟩) | (go_at_call 79; (with_reducible refine calls_of_args (args' := #[.int .i64 a1]) rfl ?_); (with_reducible refine (cmp_isNaN_int.calls a1 false _ A5.out).mono ?_); rintro e w' ⟨rfl, ⟨nd, rfl⟩⟩))
      go_ret
      exact ⟨by first | rfl | (simp; done) | (simp [*]; done), by repeat (first | exact Drawn0.refl _ | apply Drawn0.step)⟩
  · replace c4 := Bool.eq_false_iff.mpr c4
    subst c4
    have H1 : (some (decide (a0 < a1))) = some r := by rw [if_neg (show ¬ (false = true) by decide)] at H; exact H
    clear H
    have H := H1
    clear H1
    obtain rfl := Option.some.inj H
    go_enter Try.func57, Try.ntmps57
    go_wp2_with (first | ((with_reducible refine gate_callee (f := 79) rfl ?_); refine goesL_ (some 6) rfl rfl Try.func79 (by kernel_rfl) rfl #[.int .i64 a0] rfl (by (try simp only [List.map_toArray, List.map_cons, List.map_nil]); first | done | rfl | (simp only [List.length_drop, List.length_take]; rfl)) ?_; (with_reducible refine (cmp_isNaN_int.calls a0 false _ A3.out).mono ?_); rintro e w' ⟨rfl, ⟨nd, rfl⟩⟩; refine ⟨_, rfl, ?_⟩))
    go_ret
    exact ⟨by first | rfl | (simp; done) | (simp [*]; done), by repeat (first | exact Drawn0.refl _ | apply Drawn0.step)⟩

-- NOT PRINTED: function 51 (slices_insertionSortOrdered_int)

-- NOT PRINTED: function 74 (slices_siftDownOrdered_int)

-- NOT PRINTED: function 52 (slices_heapSortOrdered_int)

-- NOT PRINTED: function 60 (bits_Len32)

-- NOT PRINTED: function 61 (bits_Len64)

-- NOT PRINTED: function 39 (bits_Len)

-- NOT PRINTED: function 75 (slices_nextPowerOfTwo)

-- NOT PRINTED: function 76 (slices_xorshift_Next)

-- NOT PRINTED: function 53 (slices_breakPatternsOrdered_int)

-- NOT PRINTED: function 84 (slices_order2Ordered_int)

-- NOT PRINTED: function 78 (slices_medianOrdered_int)

-- NOT PRINTED: function 77 (slices_medianAdjacentOrdered_int)

-- NOT PRINTED: function 54 (slices_choosePivotOrdered_int)

-- NOT PRINTED: function 55 (slices_reverseRangeOrdered_int)

-- NOT PRINTED: function 56 (slices_partialInsertionSortOrdered_int)

-- NOT PRINTED: function 58 (slices_partitionEqualOrdered_int)

-- NOT PRINTED: function 59 (slices_partitionOrdered_int)

-- NOT PRINTED: function 38 (slices_pdqsortOrdered_int)

-- NOT PRINTED: function 25 (slices_Sort_int_int)

/-! ### slices_Sort_int_int_c: function 25, by the kit's contract -/
def slices_Sort_int_int_c.f (l0 : List Int) : Option (List Int) := if l0.length < 4611686018427387904 then some (sortI l0) else none
def slices_Sort_int_int_c.Post (A0 : Option Addr) (c0 : Nat) (l0 : List Int) (r : List Int) (S : Nat → Prop) (L : List Asr) (w : World) (e : Ending) (w' : World) : Prop := e = .returned (.tuple #[]) ∧ SL (row (Kd.int .i64) 3 (.slice A0 l0.length c0) r :: L) w' S ∧ Keep S w w'
theorem slices_Sort_int_int_c.slcalls (A0 : Option Addr) (c0 : Nat) (l0 : List Int) (r : List Int) (S : Nat → Prop) (L : List Asr) (w : World) (hf : Fresh S w) (hs : SL (row (Kd.int .i64) 3 (.slice A0 l0.length c0) l0 :: L) w S) (h : slices_Sort_int_int_c.f l0 = some r) :
    Calls Try.prog 25 #[.slice A0 l0.length c0] w (slices_Sort_int_int_c.Post A0 c0 l0 r S L w) := by
  unfold slices_Sort_int_int_c.f at h
  split at h
  · rename_i hl
    obtain rfl := Option.some.inj h
    exact (sort_calls srt25 hf hs hl)
  · cases h

end Go.Proofs.Ytdpeflbdoaccbaa.XCL
