-- Written by xprint.py (a program of this session) for this claim
import Derived.Test.YtiadhonhjnbliaaRows
import Derived.Test.YtiadhonhjnbliaaXZTx31
import Derived.Test.YtiadhonhjnbliaaPureZoneTells
import Derived.Test.YtiadhonhjnbliaaV
import Derived.WalkKit
import Derived.ProofKit
import Derived.OpenShut
import Derived.ShutString
import Derived.ChangeOld
import Derived.Below
import Derived.SizedLaws
namespace Go.Proofs.Ytiadhonhjnbliaa.zoneTells
open Go.ChangeShapes Go.WideShapes Go.ChangeAt Go.RowKit Go.Proofs.YtiadhonhjnbliaaW.PrintWords Go.Proofs.YtiadhonhjnbliaaV Go.Proofs.Ytiadhonhjnbliaa.XZT
open Go.ChangeMaps (open_string shut_string)
set_option linter.unusedVariables false
set_option linter.unusedSimpArgs false
theorem own : ownKnob Try.prog.godebug = none := by kernel_rfl
theorem laidOut : laidOutB Try.prog = true := by kernel_rfl
theorem opensT31 : Opens Try.prog k31 31 (fun x => ((Lit.int .i64 x.f0).wf = true) ∧ ((Lit.int .i64 x.f1).wf = true)) := opens_iso (fun a => ⟨a.1, a.2⟩) (fun _ => rfl) (opens_struct Try.underlying31 rfl (opensF_cons rfl rfl (opens_int Try.underlying3) (opensF_one rfl rfl (opens_int Try.underlying3))))
theorem opensT33 : Opens Try.prog k33 33 (fun x => ((Lit.int .i64 x.f0).wf = true) ∧ (((Lit.int .i64 x.f1.f0).wf = true) ∧ ((Lit.int .i64 x.f1.f1).wf = true)) ∧ (((Lit.int .i64 x.f2.f0).wf = true) ∧ ((Lit.int .i64 x.f2.f1).wf = true)) ∧ ((Lit.int .i64 x.f3).wf = true) ∧ ((Lit.int .i64 x.f4).wf = true)) := opens_iso (fun a => ⟨a.1, a.2.1, a.2.2.1, a.2.2.2.1, a.2.2.2.2⟩) (fun _ => rfl) (opens_struct Try.underlying33 rfl (opensF_cons rfl rfl (opens_int Try.underlying3) (opensF_cons rfl rfl opensT31 (opensF_cons rfl rfl opensT31 (opensF_cons rfl rfl (opens_int Try.underlying3) (opensF_one rfl rfl (opens_int Try.underlying3)))))))
theorem opensT35 : Opens Try.prog k35 35 (fun x => ((Lit.int .i64 x.f0).wf = true) ∧ ((Lit.int .i64 x.f1).wf = true) ∧ ((Lit.int .i64 x.f2).wf = true)) := opens_iso (fun a => ⟨a.1, a.2.1, a.2.2⟩) (fun _ => rfl) (opens_struct Try.underlying35 rfl (opensF_cons rfl rfl (opens_int Try.underlying3) (opensF_cons rfl rfl (opens_int Try.underlying3) (opensF_one rfl rfl (opens_int Try.underlying3)))))
theorem opensT37 : Opens Try.prog k37 37 (fun x => ((Lit.int .i64 x.f0).wf = true) ∧ (((Lit.int .i64 x.f1.f0).wf = true) ∧ (((Lit.int .i64 x.f1.f1.f0).wf = true) ∧ ((Lit.int .i64 x.f1.f1.f1).wf = true)) ∧ (((Lit.int .i64 x.f1.f2.f0).wf = true) ∧ ((Lit.int .i64 x.f1.f2.f1).wf = true)) ∧ ((Lit.int .i64 x.f1.f3).wf = true) ∧ ((Lit.int .i64 x.f1.f4).wf = true)) ∧ ((Lit.int .i64 x.f2).wf = true) ∧ ((Lit.int .i64 x.f3).wf = true) ∧ ((Lit.int .i64 x.f4).wf = true) ∧ (((Lit.int .i64 x.f5.f0).wf = true) ∧ ((Lit.int .i64 x.f5.f1).wf = true) ∧ ((Lit.int .i64 x.f5.f2).wf = true)) ∧ ((Lit.int .i64 x.f6).wf = true) ∧ ((Lit.int .i64 x.f7).wf = true)) := opens_iso (fun a => ⟨a.1, a.2.1, a.2.2.1, a.2.2.2.1, a.2.2.2.2.1, a.2.2.2.2.2.1, a.2.2.2.2.2.2.1, a.2.2.2.2.2.2.2⟩) (fun _ => rfl) (opens_struct Try.underlying37 rfl (opensF_cons rfl rfl (opens_int Try.underlying3) (opensF_cons rfl rfl opensT33 (opensF_cons rfl rfl (opens_int Try.underlying3) (opensF_cons rfl rfl (opens_int Try.underlying3) (opensF_cons rfl rfl (opens_int Try.underlying3) (opensF_cons rfl rfl opensT35 (opensF_cons rfl rfl (opens_int Try.underlying3) (opensF_one rfl rfl (opens_int Try.underlying3))))))))))
set_option maxRecDepth 100000 in
theorem lifted (os : Os) (started : os.Started) (H : Type) (enc : TypeId × Value → H) :
    ReturnsInHanded {} Try.checked os 5 .any (Rows.zoneTellsSpec.pre6 enc Try.prog Try.f5 Rows.zoneTellsRow.domain false) (Rows.zoneTellsSpec.post enc Try.prog Try.f5 false true false false) := by
  refine returnsInHanded_of_change_sized (C := Try.checked) own started (by kernel_rfl) Try.func5
    (ChangeSpec.witness6 (enc := enc) (C := Try.checked) false ⟨#[], #[.slice none 0 0, .agg #[.int .i64 0, .int .i64 0, .int .i64 0, .int .i64 0, .int .i64 0, .int .i64 0, .int .i64 0, .int .i64 0, .int .i64 0, .int .i64 0, .int .i64 0, .int .i64 0, .int .i64 0, .int .i64 0, .int .i64 0, .int .i64 0], .int .i64 0, .int .i64 0, .agg #[.int .i64 0, .int .i64 0]], []⟩ 8 (by kernel_rfl) (by kernel_rfl) (by kernel_rfl) (by kernel_rfl)) ?_
  intro W base args ds gs before hval0 hW hcnd hsz0 _
  have hsz : (DataW.weightsEach Try.prog (Try.f5.params.toList ++ Rows.zoneTellsSpec.plain.varTypes Try.prog) (ds ++ gs)).all (· ≤ reachBytes) = true := hsz0
  have hval : ∀ (j : Nat) t v, Try.f5.params[j]? = some t → args[j]? = some v → Value.okWide Try.prog W .any base t v := hval0
  have hW' := hW
  obtain ⟨p, q, hA0, hV, rfl, hfz, hnd⟩ := hW
  have hA : DataW.TrodAll enc Try.prog W 0 (fun _ => true) true Try.f5.params.toList args.toList ds p := hA0
  rw [Try.params5] at hA hval hsz
  obtain ⟨v0, vs0, d0, ds0, p0, q0, hargs, rfl, rfl, h0, r0⟩ := trodAll_cons hA
  obtain ⟨v1, vs1, d1, ds1, p1, q1, rfl, rfl, rfl, h1, r1⟩ := trodAll_cons r0
  obtain ⟨v2, vs2, d2, ds2, p2, q2, rfl, rfl, rfl, h2, r2⟩ := trodAll_cons r1
  obtain ⟨v3, vs3, d3, ds3, p3, q3, rfl, rfl, rfl, h3, r3⟩ := trodAll_cons r2
  obtain ⟨v4, vs4, d4, ds4, p4, q4, rfl, rfl, rfl, h4, r4⟩ := trodAll_cons r3
  obtain ⟨rfl, rfl, rfl⟩ := trodAll_nil r4
  obtain rfl : args = #[v0, v1, v2, v3, v4] := by cases args; simp_all
  obtain ⟨rfl, rfl⟩ := trodVars_none hV
  have k0 := h0
  have lt0 : ∀ x ∈ p0, x.block < W.heap.size := by obtain ⟨m, hm⟩ := k0; exact DataW.trod_lt m _ _ _ hm
  obtain ⟨x0, hK0, hO0⟩ := opens_arg (opens_slice Try.underlying22 rfl rfl opensT37) hsz (j := 0) rfl rfl h0
  obtain ⟨A0, c0, hv0, hc0, hr0⟩ := hK0
  obtain rfl := slice_of Try.underlying22 (hval 0 22 v0 rfl rfl) hv0
  have k1 := h1
  have lt1 : ∀ x ∈ p1, x.block < W.heap.size := by obtain ⟨m, hm⟩ := k1; exact DataW.trod_lt m _ _ _ hm
  obtain ⟨x1, hK1, hO1⟩ := opens_arg opensT37 hsz (j := 1) rfl rfl h1
  obtain hv1 := k37_open hK1
  obtain rfl := agg_of Try.underlying37 (hval 1 37 v1 rfl rfl) hv1
  obtain ⟨a2, rfl, rfl, rfl, w2⟩ := open_int Try.underlying3 (hval 2 3 v2 rfl rfl) h2
  obtain ⟨a3, rfl, rfl, rfl, w3⟩ := open_int Try.underlying3 (hval 3 3 v3 rfl rfl) h3
  have k4 := h4
  have lt4 : ∀ x ∈ p4, x.block < W.heap.size := by obtain ⟨m, hm⟩ := k4; exact DataW.trod_lt m _ _ _ hm
  obtain ⟨x4, hK4, hO4⟩ := opens_arg opensT31 hsz (j := 4) rfl rfl h4
  obtain hv4 := k31_open hK4
  obtain rfl := agg_of Try.underlying31 (hval 4 31 v4 rfl rfl) hv4
  clear hA0 hval0 hsz0 hsz
  obtain ⟨k, h⟩ := Pure.ZoneTells x0 (x1.f0) (x1.f1.f0) (x1.f1.f1.f0) (x1.f1.f1.f1) (x1.f1.f2.f0) (x1.f1.f2.f1) (x1.f1.f3) (x1.f1.f4) (x1.f2) (x1.f3) (x1.f4) (x1.f5.f0) (x1.f5.f1) (x1.f5.f2) (x1.f6) (x1.f7) a2 a3 (x4.f0) (x4.f1) hO0 hO1.1 hO1.2.1.1 hO1.2.1.2.1.1 hO1.2.1.2.1.2 hO1.2.1.2.2.1.1 hO1.2.1.2.2.1.2 hO1.2.1.2.2.2.1 hO1.2.1.2.2.2.2 hO1.2.2.1 hO1.2.2.2.1 hO1.2.2.2.2.1 hO1.2.2.2.2.2.1.1 hO1.2.2.2.2.2.1.2.1 hO1.2.2.2.2.2.1.2.2 hO1.2.2.2.2.2.2.1 hO1.2.2.2.2.2.2.2 w2 w3 hO4.1 hO4.2
  refine (barrowlaw33_ZoneTells.calls k _ _ x0 (x1.f0) (x1.f1.f0) (x1.f1.f1.f0) (x1.f1.f1.f1) (x1.f1.f2.f0) (x1.f1.f2.f1) (x1.f1.f3) (x1.f1.f4) (x1.f2) (x1.f3) (x1.f4) (x1.f5.f0) (x1.f5.f1) (x1.f5.f2) (x1.f6) (x1.f7) a2 a3 (x4.f0) (x4.f1) true W hr0 hc0 h).mono ?_
  rintro e W' ⟨he, bel0⟩
  have bel : Below W.heap.size W W' := bel0
  subst he
  exact ⟨_, rfl, _, _, _, [], _, [], hW', trodAll_mk1 (shut_bool Try.underlying4 _), (trodAll_cons_mk (Below.trod laidOut (by kernel_rfl) (of_decide_eq_true (by kernel_rfl)) k0 bel lt0) (trodAll_cons_mk (Below.trod laidOut (by kernel_rfl) (of_decide_eq_true (by kernel_rfl)) k1 bel lt1) (trodAll_cons_mk (shut_int Try.underlying3 w2) (trodAll_cons_mk (shut_int Try.underlying3 w3) (trodAll_cons_mk (Below.trod laidOut (by kernel_rfl) (of_decide_eq_true (by kernel_rfl)) k4 bel lt4) trodAll_mk0))))), rfl, bel.frame _, fun h => by cases h⟩
theorem over : Rows.zoneTellsRow.holds Try.pinned (OpenSpec.ofChange Rows.zoneTellsSpec) :=
  OpenClaim.holds_of_wide 5 Try.f5 rfl rfl rfl rfl rfl rfl rfl ⟨rfl, rfl, rfl, rfl, rfl⟩ rfl rfl rfl rfl rfl (by kernel_rfl) Try.func5 (by kernel_rfl)
    (of_decide_eq_true (by kernel_rfl)) (by unfold Func.isWrapper; first | (rw [if_pos (by decide +kernel)]; kernel_rfl) | (rw [if_neg (by decide +kernel)]; exact ⟨rfl, rfl⟩))
    (fun os started H enc _ => lifted os started H enc)
theorem proved : Rows.ZoneTellsSaid := over
#print axioms proved
end Go.Proofs.Ytiadhonhjnbliaa.zoneTells
namespace Go.Proofs.Ytiadhonhjnbliaa
/-- The row, under a short name, for the claim. -/
theorem zoneTells_holds : Rows.ZoneTellsSaid := zoneTells.proved
end Go.Proofs.Ytiadhonhjnbliaa
