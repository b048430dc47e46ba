-- Written by xprint.py (a program of this session) for this claim
import Derived.Test.YtiadhonhjnbliaaSq
import Derived.Test.YtiadhonhjnbliaaXZTx0
import Derived.Test.YtiadhonhjnbliaaXZTx1
import Derived.Test.YtiadhonhjnbliaaXZTx4
namespace Go.Proofs.Ytiadhonhjnbliaa.XZT
open Go.Proofs.YtiadhonhjnbliaaV Go.Proofs.YtiadhonhjnbliaaS
open Go.RowKit Go.Proofs.YtiadhonhjnbliaaW.PrintWords Go.Proofs.YtiadhonhjnbliaaW.PrintLast Go.Proofs.YtiadhonhjnbliaaW.PrintMore
attribute [local go_sem] max2_int min2_int max_two min_two max_three min_three max_four min_four   -- for this text's walks alone
set_option linter.unusedVariables false
set_option linter.unusedSimpArgs false

attribute [local go_sem high] eqA31
/-! ### area_box: function 43 -/
def area_box.f (a0 : Int) (a1 : Int) (a2 : Int) : Option (Bool) := (area_within.f a0 (mn a1 a2) (mx a1 a2)).bind fun t145 => (some t145)
set_option maxHeartbeats 8000000 in
set_option maxRecDepth 100000 in
theorem area_box.calls (a0 : Int) (a1 : Int) (a2 : Int) (r : Bool) (w : World) (h : area_box.f a0 a1 a2 = some r) :
  Calls Try.prog 43 #[.int .i64 a0, .int .i64 a1, .int .i64 a2] w fun e w' => e = .returned (.bool r) ∧ Below w.heap.size w w' := by
 have HB := Aside0.mk (Below.refl w.heap.size w)
 have H : ((area_within.f a0 (mn a1 a2) (mx a1 a2)).bind fun t145 => (some t145)) = some r := h
 clear h
 obtain ⟨ji4, hji4⟩ : ∃ j_ : Int, (mn a1 a2) = j_ := ⟨_, rfl⟩
 replace H : ((area_within.f a0 (ji4) (mx a1 a2)).bind fun t145 => (some t145)) = some r := by first | (rw [hji4] at H; exact H) | (simp only [hji4] at H ⊢; exact H)
 have hji4_ : (if a2 < a1 then a2 else a1) = ji4 := hji4
 obtain ⟨ji5, hji5⟩ : ∃ j_ : Int, (mx a1 a2) = j_ := ⟨_, rfl⟩
 replace H : ((area_within.f a0 (ji4) (ji5)).bind fun t145 => (some t145)) = some r := by first | (rw [hji5] at H; exact H) | (simp only [hji5] at H ⊢; exact H)
 have hji5_ : (if a1 < a2 then a2 else a1) = ji5 := hji5
 replace H := Option.bind_eq_some_iff.mp H
 obtain ⟨t145, A60, H⟩ := H
 replace H : (some t145) = some r := H
 have A6 := Aside0.mk A60
 clear A60
 obtain rfl := Option.some.inj H
 go_enter Try.func43, Try.ntmps43
 go_wp2_with (first | ((with_reducible refine gate_callee (f := 51) rfl ?_); refine goesL_ (some 14) rfl rfl Try.func51 (by kernel_rfl) rfl #[.int .i64 a0, .int .i64 ji4, .int .i64 ji5] rfl (by (try simp only [List.map_toArray, List.map_cons, List.map_nil]); first | done | (simp only [hji4, hji5]; rfl) | rfl | (simp only [List.length_drop, List.length_take]; rfl)) ?_; (with_reducible refine (area_within.calls a0 ji4 ji5 t145 _ A6.out).mono ?_); rintro e w' ⟨rfl, ⟨nd, rfl⟩⟩; refine ⟨_, rfl, ?_⟩))
 go_ret
 exact ⟨by first | rfl | (simp [errW_none, errW_some] <;> rfl) | (simp only [← hji4, ← hji5]; first | rfl | (simp [errW_none, errW_some] <;> rfl)) | (simp [*, errW_none, errW_some] <;> rfl), by repeat (first | (with_reducible first | exact HB.out | apply below_alloc | apply pw_below_drewN | apply below_drew1) | exact HB.out)⟩

/-! ### area_dot: function 54 -/
def area_dot.f (a0_0 : Int) (a0_1 : Int) (a1_0 : Int) (a1_1 : Int) : Option (Int) := some (wrap64 ((wrap64 (a0_0 * a1_0)) + (wrap64 (a0_1 * a1_1))))
set_option maxHeartbeats 8000000 in
set_option maxRecDepth 100000 in
theorem area_dot.calls (a0_0 : Int) (a0_1 : Int) (a1_0 : Int) (a1_1 : Int) (r : Int) (w : World) (h : area_dot.f a0_0 a0_1 a1_0 a1_1 = some r) :
  Calls Try.prog 54 #[.agg #[.int .i64 a0_0, .int .i64 a0_1], .agg #[.int .i64 a1_0, .int .i64 a1_1]] w fun e w' => e = .returned (.int .i64 r) ∧ Below w.heap.size w w' := by
 have hu31 := Try.underlying31
 have HB := Aside0.mk (Below.refl w.heap.size w)
 have H : (some (wrap64 ((wrap64 (a0_0 * a1_0)) + (wrap64 (a0_1 * a1_1))))) = some r := h
 clear h
 obtain rfl := Option.some.inj H
 go_enter Try.func54, Try.ntmps54
 go_wp2_with (first | ((with_reducible refine gate_dst (N := 2) rfl ?_); refine box_event ?hg (N := 2) ?hd (cs := #[.int .i64 a0_0, .int .i64 a0_1]) (t := 31) ?hr ?_; (case hd => rfl); (case hg => rfl); (case hr => first | (go_simp; done) | (go_simp; rfl)); intro gb146 hg w3 hbox hb; have n0_ := Aside0.mk (below_step (by repeat (first | (with_reducible first | exact HB.out | apply below_alloc | apply pw_below_drewN | apply below_drew1) | exact HB.out)) hb); have n1_ := Aside0.mk (hbox); have n2_ := Aside0.mk ((by rw [hg]; exact (below_size (by repeat (first | (with_reducible first | exact HB.out | apply below_alloc | apply pw_below_drewN | apply below_drew1) | exact HB.out))) : w.heap.size ≤ gb146)); have n3_ := Aside0.mk ((by rw [hg]; exact (below_size (by repeat (first | (with_reducible first | exact HB.out | apply below_alloc | apply pw_below_drewN | apply below_drew1) | exact HB.out))) : w.heap.size ≤ gb146)); clear HB; have HB := n0_; have BK146 := n1_; have GW146 := n2_; have GE146 := n3_; clear n0_ n1_ n2_ n3_; clear hb hbox hg) | ((with_reducible refine gate_dst (N := 3) rfl ?_); refine box_event ?hg (N := 3) ?hd (cs := #[.int .i64 a1_0, .int .i64 a1_1]) (t := 31) ?hr ?_; (case hd => rfl); (case hg => rfl); (case hr => first | (go_simp; done) | (go_simp; rfl)); intro gb147 hg w4 hbox hb; have n0_ := Aside0.mk (blk_below (g := gb146) (o := .cells #[.int .i64 a0_0, .int .i64 a0_1] 31 (0, 0)) (by (with_reducible repeat (first | refine blk_drewN ?_ _ | refine blk_drew ?_ | refine blk_alloc ?_ _)); exact BK146.out) hb); have n1_ := Aside0.mk (below_step (by repeat (first | (with_reducible first | exact HB.out | apply below_alloc | apply pw_below_drewN | apply below_drew1 | refine below_set ?_ GE146.out) | exact HB.out)) hb); have n2_ := Aside0.mk (hbox); have n3_ := Aside0.mk ((by rw [hg]; exact (below_size (by repeat (first | (with_reducible first | exact HB.out | apply below_alloc | apply pw_below_drewN | apply below_drew1 | refine below_set ?_ GE146.out) | exact HB.out))) : w.heap.size ≤ gb147)); have n4_ := Aside0.mk ((by rw [hg]; exact (below_size (by repeat (first | (with_reducible first | exact HB.out | apply below_alloc | apply pw_below_drewN | apply below_drew1 | refine below_set ?_ GE146.out) | exact HB.out))) : w.heap.size ≤ gb147)); have n5_ := Aside0.mk ((by rw [hg]; exact Nat.ne_of_lt (blk_lt (g := gb146) (o := .cells #[.int .i64 a0_0, .int .i64 a0_1] 31 (0, 0)) (by (with_reducible repeat (first | refine blk_drewN ?_ _ | refine blk_drew ?_ | refine blk_alloc ?_ _)); exact BK146.out)) : gb146 ≠ gb147)); have n6_ := Aside0.mk ((by rw [hg]; exact Nat.ne_of_gt (blk_lt (g := gb146) (o := .cells #[.int .i64 a0_0, .int .i64 a0_1] 31 (0, 0)) (by (with_reducible repeat (first | refine blk_drewN ?_ _ | refine blk_drew ?_ | refine blk_alloc ?_ _)); exact BK146.out)) : gb147 ≠ gb146)); clear BK146; clear HB; have BK146 := n0_; have HB := n1_; have BK147 := n2_; have GW147 := n3_; have GE147 := n4_; have NB146_147 := n5_; have NB147_146 := n6_; clear n0_ n1_ n2_ n3_ n4_ n5_ n6_; clear hb hbox hg; have hnb5 := NB146_147.out; have hnc5 := NB147_146.out; have hcz6_0 : w4.cell? ⟨gb146, 0, none⟩ = some (.int .i64 a0_0) := (blk_cell BK146.out 0).trans rfl; have hcz6_1 : w4.cell? ⟨gb146, 1, none⟩ = some (.int .i64 a0_1) := (blk_cell BK146.out 1).trans rfl; have hfz6_0 := blk_frozen BK146.out 0; have hfz6_1 := blk_frozen BK146.out 1; have hcz7_0 : w4.cell? ⟨gb147, 0, none⟩ = some (.int .i64 a1_0) := (blk_cell BK147.out 0).trans rfl; have hcz7_1 : w4.cell? ⟨gb147, 1, none⟩ = some (.int .i64 a1_1) := (blk_cell BK147.out 1).trans rfl; have hfz7_0 := blk_frozen BK147.out 0; have hfz7_1 := blk_frozen BK147.out 1))
 go_ret
 exact ⟨by first | rfl | (simp [errW_none, errW_some] <;> rfl) | (simp [*, errW_none, errW_some] <;> rfl), by repeat (first | (with_reducible first | exact HB.out | apply below_alloc | apply pw_below_drewN | apply below_drew1 | refine below_set ?_ GE146.out | refine below_set ?_ GE147.out) | exact HB.out)⟩

/-! ### area_cross: function 55 -/
def area_cross.f (a0_0 : Int) (a0_1 : Int) (a1_0 : Int) (a1_1 : Int) : Option (Int) := some (wrap64 ((wrap64 (a0_0 * a1_1)) - (wrap64 (a0_1 * a1_0))))
set_option maxHeartbeats 8000000 in
set_option maxRecDepth 100000 in
theorem area_cross.calls (a0_0 : Int) (a0_1 : Int) (a1_0 : Int) (a1_1 : Int) (r : Int) (w : World) (h : area_cross.f a0_0 a0_1 a1_0 a1_1 = some r) :
  Calls Try.prog 55 #[.agg #[.int .i64 a0_0, .int .i64 a0_1], .agg #[.int .i64 a1_0, .int .i64 a1_1]] w fun e w' => e = .returned (.int .i64 r) ∧ Below w.heap.size w w' := by
 have hu31 := Try.underlying31
 have HB := Aside0.mk (Below.refl w.heap.size w)
 have H : (some (wrap64 ((wrap64 (a0_0 * a1_1)) - (wrap64 (a0_1 * a1_0))))) = some r := h
 clear h
 obtain rfl := Option.some.inj H
 go_enter Try.func55, Try.ntmps55
 go_wp2_with (first | ((with_reducible refine gate_dst (N := 2) rfl ?_); refine box_event ?hg (N := 2) ?hd (cs := #[.int .i64 a0_0, .int .i64 a0_1]) (t := 31) ?hr ?_; (case hd => rfl); (case hg => rfl); (case hr => first | (go_simp; done) | (go_simp; rfl)); intro gb148 hg w3 hbox hb; have n0_ := Aside0.mk (below_step (by repeat (first | (with_reducible first | exact HB.out | apply below_alloc | apply pw_below_drewN | apply below_drew1) | exact HB.out)) hb); have n1_ := Aside0.mk (hbox); have n2_ := Aside0.mk ((by rw [hg]; exact (below_size (by repeat (first | (with_reducible first | exact HB.out | apply below_alloc | apply pw_below_drewN | apply below_drew1) | exact HB.out))) : w.heap.size ≤ gb148)); have n3_ := Aside0.mk ((by rw [hg]; exact (below_size (by repeat (first | (with_reducible first | exact HB.out | apply below_alloc | apply pw_below_drewN | apply below_drew1) | exact HB.out))) : w.heap.size ≤ gb148)); clear HB; have HB := n0_; have BK148 := n1_; have GW148 := n2_; have GE148 := n3_; clear n0_ n1_ n2_ n3_; clear hb hbox hg) | ((with_reducible refine gate_dst (N := 3) rfl ?_); refine box_event ?hg (N := 3) ?hd (cs := #[.int .i64 a1_0, .int .i64 a1_1]) (t := 31) ?hr ?_; (case hd => rfl); (case hg => rfl); (case hr => first | (go_simp; done) | (go_simp; rfl)); intro gb149 hg w4 hbox hb; have n0_ := Aside0.mk (blk_below (g := gb148) (o := .cells #[.int .i64 a0_0, .int .i64 a0_1] 31 (0, 0)) (by (with_reducible repeat (first | refine blk_drewN ?_ _ | refine blk_drew ?_ | refine blk_alloc ?_ _)); exact BK148.out) hb); have n1_ := Aside0.mk (below_step (by repeat (first | (with_reducible first | exact HB.out | apply below_alloc | apply pw_below_drewN | apply below_drew1 | refine below_set ?_ GE148.out) | exact HB.out)) hb); have n2_ := Aside0.mk (hbox); have n3_ := Aside0.mk ((by rw [hg]; exact (below_size (by repeat (first | (with_reducible first | exact HB.out | apply below_alloc | apply pw_below_drewN | apply below_drew1 | refine below_set ?_ GE148.out) | exact HB.out))) : w.heap.size ≤ gb149)); have n4_ := Aside0.mk ((by rw [hg]; exact (below_size (by repeat (first | (with_reducible first | exact HB.out | apply below_alloc | apply pw_below_drewN | apply below_drew1 | refine below_set ?_ GE148.out) | exact HB.out))) : w.heap.size ≤ gb149)); have n5_ := Aside0.mk ((by rw [hg]; exact Nat.ne_of_lt (blk_lt (g := gb148) (o := .cells #[.int .i64 a0_0, .int .i64 a0_1] 31 (0, 0)) (by (with_reducible repeat (first | refine blk_drewN ?_ _ | refine blk_drew ?_ | refine blk_alloc ?_ _)); exact BK148.out)) : gb148 ≠ gb149)); have n6_ := Aside0.mk ((by rw [hg]; exact Nat.ne_of_gt (blk_lt (g := gb148) (o := .cells #[.int .i64 a0_0, .int .i64 a0_1] 31 (0, 0)) (by (with_reducible repeat (first | refine blk_drewN ?_ _ | refine blk_drew ?_ | refine blk_alloc ?_ _)); exact BK148.out)) : gb149 ≠ gb148)); clear BK148; clear HB; have BK148 := n0_; have HB := n1_; have BK149 := n2_; have GW149 := n3_; have GE149 := n4_; have NB148_149 := n5_; have NB149_148 := n6_; clear n0_ n1_ n2_ n3_ n4_ n5_ n6_; clear hb hbox hg; have hnb5 := NB148_149.out; have hnc5 := NB149_148.out; have hcz6_0 : w4.cell? ⟨gb148, 0, none⟩ = some (.int .i64 a0_0) := (blk_cell BK148.out 0).trans rfl; have hcz6_1 : w4.cell? ⟨gb148, 1, none⟩ = some (.int .i64 a0_1) := (blk_cell BK148.out 1).trans rfl; have hfz6_0 := blk_frozen BK148.out 0; have hfz6_1 := blk_frozen BK148.out 1; have hcz7_0 : w4.cell? ⟨gb149, 0, none⟩ = some (.int .i64 a1_0) := (blk_cell BK149.out 0).trans rfl; have hcz7_1 : w4.cell? ⟨gb149, 1, none⟩ = some (.int .i64 a1_1) := (blk_cell BK149.out 1).trans rfl; have hfz7_0 := blk_frozen BK149.out 0; have hfz7_1 := blk_frozen BK149.out 1))
 go_ret
 exact ⟨by first | rfl | (simp [errW_none, errW_some] <;> rfl) | (simp [*, errW_none, errW_some] <;> rfl), by repeat (first | (with_reducible first | exact HB.out | apply below_alloc | apply pw_below_drewN | apply below_drew1 | refine below_set ?_ GE148.out | refine below_set ?_ GE149.out) | exact HB.out)⟩

/-! ### area_cone: function 44 -/
def area_cone.f (a0_0 : Int) (a0_1 : Int) (a1_0 : Int) (a1_1 : Int) : Option (Bool) := (area_dot.f a0_0 a0_1 a1_0 a1_1).bind fun t154 => ((area_cross.f a0_0 a0_1 a1_0 a1_1).bind fun t155 => (if (a0_0 == 0 && (a0_1 == 0)) = true then (some true) else (if t154 > 0 then ((some (mx t155 (wrap64 (-t155)) : Int)).bind fun j156 => (if j156 ≤ t154 then (some true) else (some false))) else (some false))))
def area_cone.T1 : Bool × List (List Nat × List Nat) := (true, [([], []), ([], []), ([0, 1], [0, 1]), ([], []), ([], []), ([3, 4, 2], [3, 4]), ([2, 5, 0, 1, 2], [2]), ([5, 6, 0, 1, 2, 3, 4, 5, 6], [5])])
def area_cone.B1 : List Nat := [0, 0, 3, 0, 0, 31, 63, 127]
theorem area_cone.tab1 : rtab .any (opsOf Try.f44 1) = area_cone.T1 := by kernel_rfl
theorem area_cone.bits1 : waitsOk area_cone.T1.2 area_cone.B1 = true := by kernel_rfl
def area_cone.Post (r : Bool) (S : Nat → Prop) (L : List Asr) (w : World) (e : Ending) (w' : World) : Prop := e = .returned (.bool r) ∧ SL (L) w' S ∧ Keep S w w'
set_option maxHeartbeats 8000000 in
set_option maxRecDepth 100000 in
theorem area_cone.slcalls (a0_0 : Int) (a0_1 : Int) (a1_0 : Int) (a1_1 : Int) (r : Bool) (S : Nat → Prop) (L : List Asr) (w : World) (hf : Fresh S w) (hs : SL (L) w S) (h : area_cone.f a0_0 a0_1 a1_0 a1_1 = some r) :
  Calls Try.prog 44 #[.agg #[.int .i64 a0_0, .int .i64 a0_1], .agg #[.int .i64 a1_0, .int .i64 a1_1]] w (area_cone.Post r S L w) := by
 have HF := Aside0.mk hf
 have HS := Aside0.mk hs
 have HK := Aside0.mk (Keep.refl S w)
 clear hf hs
 have hu31 := Try.underlying31
 have H : ((area_dot.f a0_0 a0_1 a1_0 a1_1).bind fun t154 => ((area_cross.f a0_0 a0_1 a1_0 a1_1).bind fun t155 => (if (a0_0 == 0 && (a0_1 == 0)) = true then (some true) else (if t154 > 0 then ((some (mx t155 (wrap64 (-t155)) : Int)).bind fun j156 => (if j156 ≤ t154 then (some true) else (some false))) else (some false))))) = some r := h
 clear h
 replace H := Option.bind_eq_some_iff.1 H
 obtain ⟨t154, Hc10, H⟩ := H
 try dsimp only at H
 have Hc1 := Aside0.mk Hc10
 clear Hc10
 replace H := Option.bind_eq_some_iff.1 H
 obtain ⟨t155, Hc20, H⟩ := H
 try dsimp only at H
 have Hc2 := Aside0.mk Hc20
 clear Hc20
 have H' := Aside0.mk H
 clear H
 go_enter Try.func44, Try.ntmps44
 try go_wp2_with (first | ((with_reducible refine gate_dst (N := 2) rfl ?_); refine wpList_plain rfl (fun K_ hK_ => ?_); refine op_box (S := S) (cs := #[.int .i64 a0_0, .int .i64 a0_1]) (t := 31) (HF.out.keep HK.out) HS.out (by first | (go_simp; done) | (go_simp; rfl)) ?_; intro g3000003 w3 hs_ hk_; refine hK_ _ _ ?_; clear hK_ K_; replace HS := Aside0.mk (hs_); replace HK := Aside0.mk (HK.out.trans hk_)) | ((with_reducible refine gate_dst (N := 3) rfl ?_); refine wpList_plain rfl (fun K_ hK_ => ?_); refine op_box (S := S) (cs := #[.int .i64 a1_0, .int .i64 a1_1]) (t := 31) (HF.out.keep HK.out) HS.out (by first | (go_simp; done) | (go_simp; rfl)) ?_; intro g3000004 w4 hs_ hk_; refine hK_ _ _ ?_; clear hK_ K_; replace HS := Aside0.mk (hs_); replace HK := Aside0.mk (HK.out.trans hk_)))
 refine start_ (n := 8) (S := fun w' => w'.cell? ⟨g3000003, 0, none⟩ = some (.int .i64 a0_0) ∧ w'.cell? ⟨g3000003, 1, none⟩ = some (.int .i64 a0_1) ∧ w'.cell? ⟨g3000004, 0, none⟩ = some (.int .i64 a1_0) ∧ w'.cell? ⟨g3000004, 1, none⟩ = some (.int .i64 a1_1)) (ds := []) #[O,O,O,O,O,O,O,O] (by kernel_rfl) rfl rfl ⟨bc (SL.get1 HS.out) 0 rfl, bc (SL.get1 HS.out) 1 rfl, bc HS.out 0 rfl, bc HS.out 1 rfl⟩ (fun hHeld => ?_); refine with_tabW area_cone.tab1 area_cone.bits1 (fun HT_ HW_ => ?_)
 replace HK := Aside0.mk (Keep.drew HK.out)
 replace HS := Aside0.mk (SL.drew HS.out)
 refine take_ (i := 0) (N := some 7) (v := ?_) (a' := ?_) #[I,O,O,O,O,O,O,O] rfl rfl (take_ofW HT_.out HW_.out (by kernel_rfl)) (fun _ _ _ h => h) (Or.inl ⟨by rfl, ?_⟩) hHeld ?_ ?_; rotate_left
 ·rintro w' ⟨s0, s1, s2, s3⟩
  go_simp
  with_reducible rfl
 rotate_left; · (simp only [Act.put, sT, sZ, sS, i64_w, i32_w]; rfl)
 refine take_ (i := 1) (N := some 8) (v := ?_) (a' := ?_) #[I,I,O,O,O,O,O,O] rfl rfl (take_ofW HT_.out HW_.out (by kernel_rfl)) (fun _ _ _ h => h) (Or.inl ⟨by rfl, ?_⟩) hHeld ?_ ?_; rotate_left
 ·rintro w' ⟨s0, s1, s2, s3⟩
  go_simp
  with_reducible rfl
 rotate_left; · (simp only [Act.put, sT, sZ, sS, i64_w, i32_w]; rfl)
 refine take_ (i := 3) (N := some 10) (v := ?_) (a' := ?_) #[I,I,O,I,O,O,O,O] rfl rfl (take_ofW HT_.out HW_.out (by kernel_rfl)) (fun _ _ _ h => h) (Or.inl ⟨by rfl, ?_⟩) hHeld ?_ ?_; rotate_left
 ·rintro w' ⟨s0, s1, s2, s3⟩
  go_simp
  with_reducible rfl
 rotate_left; · (simp only [Act.put, sT, sZ, sS, i64_w, i32_w]; rfl)
 refine take_ (i := 4) (N := some 11) (v := ?_) (a' := ?_) #[I,I,O,I,I,O,O,O] rfl rfl (take_ofW HT_.out HW_.out (by kernel_rfl)) (fun _ _ _ h => h) (Or.inl ⟨by rfl, ?_⟩) hHeld ?_ ?_; rotate_left
 ·rintro w' ⟨s0, s1, s2, s3⟩
  go_simp
  with_reducible rfl
 rotate_left; · (simp only [Act.put, sT, sZ, sS, i64_w, i32_w]; rfl)
 refine one_ (i := 2) (N := some 9) #[I,I,I,I,I,O,O,O] rfl rfl (one_of HT_.out (by kernel_rfl)) (by decide) (fun K hK => ?_)
 refine goes_ Try.func54 (by kernel_rfl) rfl #[.agg #[.int .i64 a0_0, .int .i64 a0_1], .agg #[.int .i64 a1_0, .int .i64 a1_1]] (by rfl) rfl rfl (by (try simp only [List.map_toArray, List.map_cons, List.map_nil]); first | done | rfl | (simp; done)) ?_
 (with_reducible refine (area_dot.calls _ _ _ _ _ _  Hc1.out).mono ?_)
 rintro e_ w5 ⟨rfl, hb_⟩
 refine ⟨_, rfl, ?_⟩
 replace HS := Aside0.mk (HS.out.below hb_)
 replace HK := Aside0.mk (HK.out.trans (Keep.below hb_))
 refine hK.out _ _ ⟨bc (SL.get1 HS.out) 0 rfl, bc (SL.get1 HS.out) 1 rfl, bc HS.out 0 rfl, bc HS.out 1 rfl⟩ (fun hHeld => ?_)
 clear hK K
 refine norm_ (a' := ?_) ?_ ?_; rotate_left
 ·show Act.put _ (some 9) _ = _
  simp only [Act.put, sT, sZ, sS, i64_w, i32_w]
  rfl
 refine one_ (i := 5) (N := some 12) #[I,I,I,I,I,I,O,O] rfl rfl (one_of HT_.out (by kernel_rfl)) (by decide) (fun K hK => ?_)
 refine goes_ Try.func55 (by kernel_rfl) rfl #[.agg #[.int .i64 a0_0, .int .i64 a0_1], .agg #[.int .i64 a1_0, .int .i64 a1_1]] (by rfl) rfl rfl (by (try simp only [List.map_toArray, List.map_cons, List.map_nil]); first | done | rfl | (simp; done)) ?_
 (with_reducible refine (area_cross.calls _ _ _ _ _ _  Hc2.out).mono ?_)
 rintro e_ w6 ⟨rfl, hb_⟩
 refine ⟨_, rfl, ?_⟩
 replace HS := Aside0.mk (HS.out.below hb_)
 replace HK := Aside0.mk (HK.out.trans (Keep.below hb_))
 refine hK.out _ _ ⟨bc (SL.get1 HS.out) 0 rfl, bc (SL.get1 HS.out) 1 rfl, bc HS.out 0 rfl, bc HS.out 1 rfl⟩ (fun hHeld => ?_)
 clear hK K
 refine norm_ (a' := ?_) ?_ ?_; rotate_left
 ·show Act.put _ (some 12) _ = _
  simp only [Act.put, sT, sZ, sS, i64_w, i32_w]
  rfl
 refine pure_ (i := 6) (N := some 5) (v := ?_) (a' := ?_) #[I,I,I,I,I,I,I,O] rfl rfl (any_of HT_.out (by kernel_rfl)) (fun _ _ _ h => h) (Or.inl ⟨by rfl, ?_⟩) ?_ ?_; rotate_left; · (intro w'; go_simp; with_reducible rfl)
 rotate_left; · (simp only [Act.put, sT, sZ, sS, i64_w, i32_w]; rfl)
 refine pure_ (i := 7) (N := some 6) (v := ?_) (a' := ?_) #[I,I,I,I,I,I,I,I] rfl rfl (any_of HT_.out (by kernel_rfl)) (fun _ _ _ h => h) (Or.inl ⟨by rfl, ?_⟩) ?_ ?_; rotate_left; · (intro w'; go_simp; with_reducible rfl)
 rotate_left; · (simp only [Act.put, sT, sZ, sS, i64_w, i32_w]; rfl)
 refine done_ (done_of HT_.out (by kernel_rfl)) ?_
 have hb_ := SL.at_ (SL.get1 HS.out)
 have hz3000003_0_5 := ((blk_cell hb_ 0).trans rfl : _ = some (.int .i64 a0_0))
 have hz3000003_1_5 := ((blk_cell hb_ 1).trans rfl : _ = some (.int .i64 a0_1))
 clear hb_
 have H := H'.out
 clear H'
 by_cases c7 : (a0_0 == 0 && (a0_1 == 0)) = true
 ·rw [if_pos c7] at H
  have c7b0 : (a0_0 == 0 && (a0_1 == 0)) = true := c7
  (try (have c7b1 : decide (a0_0 = 0 && (a0_1 == 0)) = true := by simpa using c7))
  (try (have c7b2 : (a0_0 == 0 && (a0_1 == 0)) = true := by simpa using c7))
  clear c7
  obtain rfl := Option.some.inj H
  try simp only [c7b0]
  go_wp2
  go_ret
  replace HS := Aside0.mk (SL.tail (SL.tail HS.out))
  unfold area_cone.Post
  exact ⟨by first | rfl | (simp; done) | (simp [*]; done) | (simp at c7b0 ⊢; first | exact c7b0 | (simp [c7b0]; done)), HS.out, HK.out⟩
 ·rw [if_neg c7] at H
  have c7b0 : (a0_0 == 0 && (a0_1 == 0)) = false := by simpa using c7
  (try (have c7b1 : decide (a0_0 = 0 && (a0_1 == 0)) = false := by simpa using c7))
  (try (have c7b2 : (a0_0 == 0 && (a0_1 == 0)) = false := by simpa using c7))
  (try (have c7b3 : ¬ (a0_0 = 0 && (a0_1 == 0)) := by simpa using c7))
  clear c7
  by_cases c8 : t154 > 0
  ·rw [if_pos c8] at H
   have c8b0 : decide (0 < t154) = true := decide_eq_true c8
   clear c8
   replace H := Option.bind_eq_some_iff.1 H
   obtain ⟨j156, hj1560, H⟩ := H
   try dsimp only at H
   have hj156 := Option.some.inj hj1560
   clear hj1560
   have hj156_ : (if t155 < (wrap64 (-t155)) then (wrap64 (-t155)) else t155) = j156 := hj156
   by_cases c9 : j156 ≤ t154
   ·rw [if_pos c9] at H
    have c9b0 : decide (j156 ≤ t154) = true := decide_eq_true c9
    clear c9
    obtain rfl := Option.some.inj H
    try simp only [c7b0, c8b0, c9b0]
    go_wp2
    go_ret
    replace HS := Aside0.mk (SL.tail (SL.tail HS.out))
    unfold area_cone.Post
    exact ⟨by first | rfl | (simp; done) | (simp [*]; done) | (simp at c9b0 ⊢; first | exact c9b0 | (simp [c9b0]; done)), HS.out, HK.out⟩
   ·rw [if_neg c9] at H
    have c9b0 : decide (j156 ≤ t154) = false := decide_eq_false c9
    clear c9
    obtain rfl := Option.some.inj H
    try simp only [c7b0, c8b0, c9b0]
    go_wp2
    go_ret
    replace HS := Aside0.mk (SL.tail (SL.tail HS.out))
    unfold area_cone.Post
    exact ⟨by first | rfl | (simp; done) | (simp [*]; done) | (simp at c9b0 ⊢; first | exact c9b0 | (simp [c9b0]; done)), HS.out, HK.out⟩
  ·rw [if_neg c8] at H
   have c8b0 : decide (0 < t154) = false := decide_eq_false c8
   clear c8
   obtain rfl := Option.some.inj H
   try simp only [c7b0, c8b0]
   go_wp2
   go_ret
   replace HS := Aside0.mk (SL.tail (SL.tail HS.out))
   unfold area_cone.Post
   exact ⟨by first | rfl | (simp; done) | (simp [*]; done) | (simp at c8b0 ⊢; first | exact c8b0 | (simp [c8b0]; done)), HS.out, HK.out⟩
theorem area_cone.calls (a0_0 : Int) (a0_1 : Int) (a1_0 : Int) (a1_1 : Int) (r : Bool) (w : World) (h : area_cone.f a0_0 a0_1 a1_0 a1_1 = some r) :
  Calls Try.prog 44 #[.agg #[.int .i64 a0_0, .int .i64 a0_1], .agg #[.int .i64 a1_0, .int .i64 a1_1]] w fun e w' => e = .returned (.bool r) ∧ Below w.heap.size w w' :=
 (area_cone.slcalls a0_0 a0_1 a1_0 a1_1 r (news w) [] w (fresh_news w) trivial h).mono fun _ _ h => ⟨h.1, h.2.2.to_below⟩

/-! ### area_beam: function 45 -/
def area_beam.f (a0_0 : Int) (a0_1 : Int) (a1_0 : Int) (a1_1 : Int) (a2 : Int) : Option (Bool) := (area_dot.f a1_0 a1_1 a1_0 a1_1).bind fun t164 => (if t164 = 0 then ((area_dot.f a0_0 a0_1 a0_0 a0_1).bind fun t165 => (if t165 ≤ (wrap64 (a2 * a2)) then (some true) else (some false))) else ((area_cross.f a0_0 a0_1 a1_0 a1_1).bind fun t166 => ((area_dot.f a0_0 a0_1 a1_0 a1_1).bind fun t167 => ((area_within.f t167 0 t164).bind fun t168 => (if t168 = true then (if (wrap64 (t166 * t166)) ≤ (wrap64 ((wrap64 (a2 * a2)) * t164)) then (some true) else (some false)) else (some false))))))
def area_beam.Post (r : Bool) (S : Nat → Prop) (L : List Asr) (w : World) (e : Ending) (w' : World) : Prop := e = .returned (.bool r) ∧ SL (L) w' S ∧ Keep S w w'
set_option maxHeartbeats 8000000 in
set_option maxRecDepth 100000 in
theorem area_beam.slcalls (a0_0 : Int) (a0_1 : Int) (a1_0 : Int) (a1_1 : Int) (a2 : Int) (r : Bool) (S : Nat → Prop) (L : List Asr) (w : World) (hf : Fresh S w) (hs : SL (L) w S) (h : area_beam.f a0_0 a0_1 a1_0 a1_1 a2 = some r) :
  Calls Try.prog 45 #[.agg #[.int .i64 a0_0, .int .i64 a0_1], .agg #[.int .i64 a1_0, .int .i64 a1_1], .int .i64 a2] w (area_beam.Post r S L w) := by
 have HF := Aside0.mk hf
 have HS := Aside0.mk hs
 have HK := Aside0.mk (Keep.refl S w)
 clear hf hs
 have hu31 := Try.underlying31
 have H : ((area_dot.f a1_0 a1_1 a1_0 a1_1).bind fun t164 => (if t164 = 0 then ((area_dot.f a0_0 a0_1 a0_0 a0_1).bind fun t165 => (if t165 ≤ (wrap64 (a2 * a2)) then (some true) else (some false))) else ((area_cross.f a0_0 a0_1 a1_0 a1_1).bind fun t166 => ((area_dot.f a0_0 a0_1 a1_0 a1_1).bind fun t167 => ((area_within.f t167 0 t164).bind fun t168 => (if t168 = true then (if (wrap64 (t166 * t166)) ≤ (wrap64 ((wrap64 (a2 * a2)) * t164)) then (some true) else (some false)) else (some false))))))) = some r := h
 clear h
 replace H := Option.bind_eq_some_iff.1 H
 obtain ⟨t164, Hc10, H⟩ := H
 try dsimp only at H
 have Hc1 := Aside0.mk Hc10
 clear Hc10
 have H' := Aside0.mk H
 clear H
 go_enter Try.func45, Try.ntmps45
 go_wp2_with (first | ((with_reducible refine gate_dst (N := 3) rfl ?_); refine wpList_plain rfl (fun K_ hK_ => ?_); refine op_box (S := S) (cs := #[.int .i64 a0_0, .int .i64 a0_1]) (t := 31) (HF.out.keep HK.out) HS.out (by first | (go_simp; done) | (go_simp; rfl)) ?_; intro g3000005 w2 hs_ hk_; refine hK_ _ _ ?_; clear hK_ K_; replace HS := Aside0.mk (hs_); replace HK := Aside0.mk (HK.out.trans hk_)) | ((with_reducible refine gate_dst (N := 4) rfl ?_); refine wpList_plain rfl (fun K_ hK_ => ?_); refine op_box (S := S) (cs := #[.int .i64 a1_0, .int .i64 a1_1]) (t := 31) (HF.out.keep HK.out) HS.out (by first | (go_simp; done) | (go_simp; rfl)) ?_; intro g3000006 w3 hs_ hk_; refine hK_ _ _ ?_; clear hK_ K_; replace HS := Aside0.mk (hs_); replace HK := Aside0.mk (HK.out.trans hk_); have hb_ := SL.at_ HS.out; have hz3000006_0_2 := ((blk_cell hb_ 0).trans rfl : _ = some (.int .i64 a1_0)); have hz3000006_1_2 := ((blk_cell hb_ 1).trans rfl : _ = some (.int .i64 a1_1)); clear hb_) | ((with_reducible refine gate_dst (N := 11) rfl ?_); refine goesL_ (some 11) rfl rfl Try.func54 (by kernel_rfl) rfl #[.agg #[.int .i64 a1_0, .int .i64 a1_1], .agg #[.int .i64 a1_0, .int .i64 a1_1]] rfl (by (try simp only [List.map_toArray, List.map_cons, List.map_nil]); first | done | rfl | (simp; done)) ?_; (with_reducible refine (area_dot.calls _ _ _ _ _ _  Hc1.out).mono ?_); rintro e_ w4 ⟨rfl, hb_⟩; refine ⟨_, rfl, ?_⟩; replace HS := Aside0.mk (HS.out.below hb_); replace HK := Aside0.mk (HK.out.trans (Keep.below hb_)); (try clear hz3000006_0_2 hz3000006_1_2); refine stop_ ?_; intro G_ hG_))
 have H := H'.out
 clear H'
 by_cases c5 : t164 = 0
 ·rw [if_pos c5] at H
  have c5b0 : (t164 == 0) = true := beq_iff_eq.mpr c5
  have c5b1 : (t164 != 0) = false := bne_eq_false_iff_eq.mpr c5
  clear c5
  replace H := Option.bind_eq_some_iff.1 H
  obtain ⟨t165, Hc60, H⟩ := H
  try dsimp only at H
  have Hc6 := Aside0.mk Hc60
  clear Hc60
  by_cases c7 : t165 ≤ (wrap64 (a2 * a2))
  ·rw [if_pos c7] at H
   have c7b0 : decide (t165 ≤ (wrap64 (a2 * a2))) = true := decide_eq_true c7
   clear c7
   obtain rfl := Option.some.inj H
   have hb_ := SL.at_ (SL.get1 HS.out)
   have hz3000005_0_0 := ((blk_cell hb_ 0).trans rfl : _ = some (.int .i64 a0_0))
   have hz3000005_1_0 := ((blk_cell hb_ 1).trans rfl : _ = some (.int .i64 a0_1))
   clear hb_
   refine hG_.out ?_
   try simp only [c5b0, c5b1, c7b0]
   go_wp2_with (first | ((with_reducible refine gate_dst (N := 16) rfl ?_); refine goesL_ (some 16) rfl rfl Try.func54 (by kernel_rfl) rfl #[.agg #[.int .i64 a0_0, .int .i64 a0_1], .agg #[.int .i64 a0_0, .int .i64 a0_1]] rfl (by (try simp only [List.map_toArray, List.map_cons, List.map_nil]); first | done | rfl | (simp; done)) ?_; (with_reducible refine (area_dot.calls _ _ _ _ _ _  Hc6.out).mono ?_); rintro e_ w8 ⟨rfl, hb_⟩; refine ⟨_, rfl, ?_⟩; replace HS := Aside0.mk (HS.out.below hb_); replace HK := Aside0.mk (HK.out.trans (Keep.below hb_)); (try clear hz3000005_0_0 hz3000005_1_0)))
   go_ret
   replace HS := Aside0.mk (SL.tail (SL.tail HS.out))
   unfold area_beam.Post
   exact ⟨by first | rfl | (simp; done) | (simp [*]; done) | (simp at c7b0 ⊢; first | exact c7b0 | (simp [c7b0]; done)), HS.out, HK.out⟩
  ·rw [if_neg c7] at H
   have c7b0 : decide (t165 ≤ (wrap64 (a2 * a2))) = false := decide_eq_false c7
   clear c7
   obtain rfl := Option.some.inj H
   have hb_ := SL.at_ (SL.get1 HS.out)
   have hz3000005_0_0 := ((blk_cell hb_ 0).trans rfl : _ = some (.int .i64 a0_0))
   have hz3000005_1_0 := ((blk_cell hb_ 1).trans rfl : _ = some (.int .i64 a0_1))
   clear hb_
   refine hG_.out ?_
   try simp only [c5b0, c5b1, c7b0]
   go_wp2_with (first | ((with_reducible refine gate_dst (N := 16) rfl ?_); refine goesL_ (some 16) rfl rfl Try.func54 (by kernel_rfl) rfl #[.agg #[.int .i64 a0_0, .int .i64 a0_1], .agg #[.int .i64 a0_0, .int .i64 a0_1]] rfl (by (try simp only [List.map_toArray, List.map_cons, List.map_nil]); first | done | rfl | (simp; done)) ?_; (with_reducible refine (area_dot.calls _ _ _ _ _ _  Hc6.out).mono ?_); rintro e_ w9 ⟨rfl, hb_⟩; refine ⟨_, rfl, ?_⟩; replace HS := Aside0.mk (HS.out.below hb_); replace HK := Aside0.mk (HK.out.trans (Keep.below hb_)); (try clear hz3000005_0_0 hz3000005_1_0)))
   go_ret
   replace HS := Aside0.mk (SL.tail (SL.tail HS.out))
   unfold area_beam.Post
   exact ⟨by first | rfl | (simp; done) | (simp [*]; done) | (simp at c7b0 ⊢; first | exact c7b0 | (simp [c7b0]; done)), HS.out, HK.out⟩
 ·rw [if_neg c5] at H
  have c5b0 : (t164 == 0) = false := beq_eq_false_iff_ne.mpr c5
  have c5b1 : (t164 != 0) = true := bne_iff_ne.mpr c5
  replace H := Option.bind_eq_some_iff.1 H
  obtain ⟨t166, Hc100, H⟩ := H
  try dsimp only at H
  have Hc10 := Aside0.mk Hc100
  clear Hc100
  replace H := Option.bind_eq_some_iff.1 H
  obtain ⟨t167, Hc110, H⟩ := H
  try dsimp only at H
  have Hc11 := Aside0.mk Hc110
  clear Hc110
  replace H := Option.bind_eq_some_iff.1 H
  obtain ⟨t168, Hc120, H⟩ := H
  try dsimp only at H
  have Hc12 := Aside0.mk Hc120
  clear Hc120
  have H' := Aside0.mk H
  clear H
  have hb_ := SL.at_ HS.out
  have hz3000006_0_0 := ((blk_cell hb_ 0).trans rfl : _ = some (.int .i64 a1_0))
  have hz3000006_1_0 := ((blk_cell hb_ 1).trans rfl : _ = some (.int .i64 a1_1))
  clear hb_
  have hb_ := SL.at_ (SL.get1 HS.out)
  have hz3000005_0_0 := ((blk_cell hb_ 0).trans rfl : _ = some (.int .i64 a0_0))
  have hz3000005_1_0 := ((blk_cell hb_ 1).trans rfl : _ = some (.int .i64 a0_1))
  clear hb_
  refine hG_.out ?_
  try simp only [c5b0, c5b1]
  go_wp2_with (first | ((with_reducible refine gate_dst (N := 23) rfl ?_); refine goesL_ (some 23) rfl rfl Try.func55 (by kernel_rfl) rfl #[.agg #[.int .i64 a0_0, .int .i64 a0_1], .agg #[.int .i64 a1_0, .int .i64 a1_1]] rfl (by (try simp only [List.map_toArray, List.map_cons, List.map_nil]); first | done | rfl | (simp; done)) ?_; (with_reducible refine (area_cross.calls _ _ _ _ _ _  Hc10.out).mono ?_); rintro e_ w13 ⟨rfl, hb_⟩; refine ⟨_, rfl, ?_⟩; replace HS := Aside0.mk (HS.out.below hb_); replace HK := Aside0.mk (HK.out.trans (Keep.below hb_)); (try clear hz3000005_0_0 hz3000005_1_0); (try clear hz3000006_0_0 hz3000006_1_0); have hb_ := SL.at_ HS.out; have hz3000006_0_1 := ((blk_cell hb_ 0).trans rfl : _ = some (.int .i64 a1_0)); have hz3000006_1_1 := ((blk_cell hb_ 1).trans rfl : _ = some (.int .i64 a1_1)); clear hb_; have hb_ := SL.at_ (SL.get1 HS.out); have hz3000005_0_1 := ((blk_cell hb_ 0).trans rfl : _ = some (.int .i64 a0_0)); have hz3000005_1_1 := ((blk_cell hb_ 1).trans rfl : _ = some (.int .i64 a0_1)); clear hb_) | ((with_reducible refine gate_dst (N := 26) rfl ?_); refine goesL_ (some 26) rfl rfl Try.func54 (by kernel_rfl) rfl #[.agg #[.int .i64 a0_0, .int .i64 a0_1], .agg #[.int .i64 a1_0, .int .i64 a1_1]] rfl (by (try simp only [List.map_toArray, List.map_cons, List.map_nil]); first | done | rfl | (simp; done)) ?_; (with_reducible refine (area_dot.calls _ _ _ _ _ _  Hc11.out).mono ?_); rintro e_ w14 ⟨rfl, hb_⟩; refine ⟨_, rfl, ?_⟩; replace HS := Aside0.mk (HS.out.below hb_); replace HK := Aside0.mk (HK.out.trans (Keep.below hb_)); (try clear hz3000005_0_1 hz3000005_1_1); (try clear hz3000006_0_1 hz3000006_1_1)) | ((with_reducible refine gate_dst (N := 28) rfl ?_); refine goesL_ (some 28) rfl rfl Try.func51 (by kernel_rfl) rfl #[.int .i64 t167, .int .i64 0, .int .i64 t164] rfl (by (try simp only [List.map_toArray, List.map_cons, List.map_nil]); first | done | rfl | (simp; done)) ?_; (with_reducible refine (area_within.calls _ _ _ _ _  Hc12.out).mono ?_); rintro e_ w15 ⟨rfl, hb_⟩; refine ⟨_, rfl, ?_⟩; replace hb_ := Drawn0.below hb_; replace HS := Aside0.mk (HS.out.below hb_); replace HK := Aside0.mk (HK.out.trans (Keep.below hb_)); refine stop_ ?_; intro G_ hG_))
  have H := H'.out
  clear H'
  by_cases c16 : t168 = true
  ·subst c16
   rw [if_pos rfl] at H
   by_cases c17 : (wrap64 (t166 * t166)) ≤ (wrap64 ((wrap64 (a2 * a2)) * t164))
   ·rw [if_pos c17] at H
    have c17b0 : decide ((wrap64 (t166 * t166)) ≤ (wrap64 ((wrap64 (a2 * a2)) * t164))) = true := decide_eq_true c17
    clear c17
    obtain rfl := Option.some.inj H
    refine hG_.out ?_
    try simp only [c17b0]
    go_wp2
    go_ret
    replace HS := Aside0.mk (SL.tail (SL.tail HS.out))
    unfold area_beam.Post
    exact ⟨by first | rfl | (simp; done) | (simp [*]; done) | (simp at c17b0 ⊢; first | exact c17b0 | (simp [c17b0]; done)), HS.out, HK.out⟩
   ·rw [if_neg c17] at H
    have c17b0 : decide ((wrap64 (t166 * t166)) ≤ (wrap64 ((wrap64 (a2 * a2)) * t164))) = false := decide_eq_false c17
    clear c17
    obtain rfl := Option.some.inj H
    refine hG_.out ?_
    try simp only [c17b0]
    go_wp2
    go_ret
    replace HS := Aside0.mk (SL.tail (SL.tail HS.out))
    unfold area_beam.Post
    exact ⟨by first | rfl | (simp; done) | (simp [*]; done) | (simp at c17b0 ⊢; first | exact c17b0 | (simp [c17b0]; done)), HS.out, HK.out⟩
  ·replace c16 := Bool.eq_false_iff.mpr c16
   subst c16
   rw [if_neg (show ¬ (false = true) by decide)] at H
   obtain rfl := Option.some.inj H
   refine hG_.out ?_
   go_wp2
   go_ret
   replace HS := Aside0.mk (SL.tail (SL.tail HS.out))
   unfold area_beam.Post
   exact ⟨by first | rfl | (simp; done) | (simp [*]; done) | (simp at c5b0 ⊢; first | exact c5b0 | (simp [c5b0]; done)), HS.out, HK.out⟩
theorem area_beam.calls (a0_0 : Int) (a0_1 : Int) (a1_0 : Int) (a1_1 : Int) (a2 : Int) (r : Bool) (w : World) (h : area_beam.f a0_0 a0_1 a1_0 a1_1 a2 = some r) :
  Calls Try.prog 45 #[.agg #[.int .i64 a0_0, .int .i64 a0_1], .agg #[.int .i64 a1_0, .int .i64 a1_1], .int .i64 a2] w fun e w' => e = .returned (.bool r) ∧ Below w.heap.size w w' :=
 (area_beam.slcalls a0_0 a0_1 a1_0 a1_1 a2 r (news w) [] w (fresh_news w) trivial h).mono fun _ _ h => ⟨h.1, h.2.2.to_below⟩

end Go.Proofs.Ytiadhonhjnbliaa.XZT
