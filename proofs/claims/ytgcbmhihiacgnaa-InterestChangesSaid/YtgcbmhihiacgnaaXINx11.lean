-- Written by xprint.py (a program of this session) for this claim
import Derived.Test.YtgcbmhihiacgnaaXINx0
namespace Go.Proofs.Ytgcbmhihiacgnaa.XIN
open Go.Proofs.YtgcbmhihiacgnaaV Go.Proofs.YtgcbmhihiacgnaaS
open Go.RowKit Go.Proofs.YtgcbmhihiacgnaaW.PrintWords Go.Proofs.YtgcbmhihiacgnaaW.PrintLast Go.Proofs.YtgcbmhihiacgnaaW.PrintMore
attribute [local go_sem] max2_int min2_int max_two min_two max_three min_three max_four min_four   -- for this text's walks alone
set_option linter.unusedVariables false
set_option linter.unusedSimpArgs false

/-! ### barrowlaw24_at: function 18 -/
def barrowlaw24_at.f  : Option ((List (S50))) := some (([(⟨1, (⟨0, 0⟩ : S41)⟩ : S50), (⟨2, (⟨9, 0⟩ : S41)⟩ : S50), (⟨3, (⟨2, 0⟩ : S41)⟩ : S50)] : List (S50)))
set_option maxHeartbeats 8000000 in
set_option maxRecDepth 100000 in
theorem barrowlaw24_at.calls  (r : List (S50)) (w : World) (h : barrowlaw24_at.f  = some r) :
    Calls Try.prog 18 #[] w fun e w' => ∃ v0_ : Value, e = .returned (v0_) ∧ Kd.R k50 50 w' w.heap.size (fun _ => True) v0_ r ∧ Below w.heap.size w w' := by
  have hu50 := Try.underlying50
  have hu41 := Try.underlying41
  have HB := Aside0.mk (Below.refl w.heap.size w)
  have H : (some (([(⟨1, (⟨0, 0⟩ : S41)⟩ : S50), (⟨2, (⟨9, 0⟩ : S41)⟩ : S50), (⟨3, (⟨2, 0⟩ : S41)⟩ : S50)] : List (S50)))) = some r := h
  clear h
  obtain ⟨y239, hy239⟩ : ∃ y_ : List (S50), y_ = (([(⟨1, (⟨0, 0⟩ : S41)⟩ : S50), (⟨2, (⟨9, 0⟩ : S41)⟩ : S50), (⟨3, (⟨2, 0⟩ : S41)⟩ : S50)] : List (S50))) := ⟨_, rfl⟩
  replace H : (some y239) = some r := by first | (rw [hy239]; with_reducible exact H) | (have H2_ := (Option.bind_some _ _).symm.trans H; rw [hy239]; with_reducible exact H2_) | (have H2_ := (Option.bind_some _ _).symm.trans H; with_reducible exact H2_) | with_reducible exact H | (rw [hy239]; exact H) | exact H
  have Ny239 := Aside0.mk hy239
  clear hy239
  obtain rfl := Option.some.inj H
  go_enter Try.func18, Try.ntmps18
  go_wp2_with (first | ((with_reducible refine gate_dst (N := 6) rfl ?_); refine Kd.R_lit k50 _ 50 ?hg (N := 6) ?hd (xs := ([(⟨1, (⟨0, 0⟩ : S41)⟩ : S50), (⟨2, (⟨9, 0⟩ : S41)⟩ : S50), (⟨3, (⟨2, 0⟩ : S41)⟩ : S50)] : List (S50))) (inner := [.int .i64 1, .int .i64 0, .int .i64 0, .int .i64 2, .int .i64 9, .int .i64 0, .int .i64 3, .int .i64 2, .int .i64 0]) (ok := fun _ => True) (okp := fun _ => True) ?hr ?hp (fun _ hk => hk) trivial (Below.refl _ _) (Nat.le_refl _) (by simp) ?_; (case hd => rfl); (case hg => rfl); (case hr => first | (go_simp; done) | (go_simp; rfl)); (case hp => exact (Reps.c3 (show Kd.M k50 _ _ _ (⟨1, (⟨0, 0⟩ : S41)⟩ : S50) [.int .i64 1, .int .i64 0, .int .i64 0] from (k50_mkM _ _ _ (⟨1, (⟨0, 0⟩ : S41)⟩ : S50) )) (Reps.c3 (show Kd.M k50 _ _ _ (⟨2, (⟨9, 0⟩ : S41)⟩ : S50) [.int .i64 2, .int .i64 9, .int .i64 0] from (k50_mkM _ _ _ (⟨2, (⟨9, 0⟩ : S41)⟩ : S50) )) (Reps.c3 (show Kd.M k50 _ _ _ (⟨3, (⟨2, 0⟩ : S41)⟩ : S50) [.int .i64 3, .int .i64 2, .int .i64 0] from (k50_mkM _ _ _ (⟨3, (⟨2, 0⟩ : S41)⟩ : S50) )) (Reps.none _ _))))); intro v240 w1 ho2 hb hg_ hnew_; clear hg_ hnew_; (first | rw [← Ny239.out] at ho2 | (simp only [Int.reduceToNat] at ho2; rw [← Ny239.out] at ho2)); have n0_ := Aside0.mk (Kd.R_lower ho2 (below_size (by repeat (first | (with_reducible first | exact HB.out | apply below_alloc | apply pw_below_drewN | apply below_drew1) | exact HB.out)))); have n1_ := Aside0.mk (below_step (by repeat (first | (with_reducible first | exact HB.out | apply below_alloc | apply pw_below_drewN | apply below_drew1) | exact HB.out)) hb); clear HB; have HO241 := n0_; have HB := n1_; clear n0_ n1_; clear hb ho2))
  go_ret
  exact ⟨_, by first | rfl | (simp [errW_none, errW_some] <;> rfl) | (simp [*, errW_none, errW_some] <;> rfl), by (with_reducible repeat (first | apply Kd.R_alloc | apply Kd.R_drewN | apply Kd.R_drew)); exact HO241.out, by repeat (first | (with_reducible first | exact HB.out | apply below_alloc | apply pw_below_drewN | apply below_drew1) | exact HB.out)⟩

end Go.Proofs.Ytgcbmhihiacgnaa.XIN
