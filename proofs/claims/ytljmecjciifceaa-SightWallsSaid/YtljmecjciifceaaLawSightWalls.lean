-- Written by xprint.py (a program of this session) for this claim
import Derived.Test.YtljmecjciifceaaRows
import Derived.Test.YtljmecjciifceaaXSWx14
import Derived.Test.YtljmecjciifceaaPureSightWalls
import Derived.Test.YtljmecjciifceaaV
import Derived.WalkKit
import Derived.ProofKit
import Derived.OpenShut
import Derived.ShutString
import Derived.ChangeOld
import Derived.Below
import Derived.SizedLaws
namespace Go.Proofs.Ytljmecjciifceaa.sightWalls
open Go.ChangeShapes Go.WideShapes Go.ChangeAt Go.RowKit Go.Proofs.YtljmecjciifceaaW.PrintWords Go.Proofs.YtljmecjciifceaaV Go.Proofs.Ytljmecjciifceaa.XSW
open Go.ChangeMaps (open_string shut_string)
set_option linter.unusedVariables false
set_option linter.unusedSimpArgs false
theorem own : ownKnob Try.prog.godebug = none := by kernel_rfl
theorem laidOut : laidOutB Try.prog = true := by kernel_rfl
theorem opensT24 : Opens Try.prog k24 24 (fun x => ((Lit.int .i64 x.f0).wf = true) ∧ ((Lit.int .i64 x.f1).wf = true) ∧ (x.f2.length ≤ maxLen ∧ x.f2.length * 1 ≤ 140737488351232 ∧ ∀ x510_ ∈ x.f2, True)) := opens_iso (fun a => ⟨a.1, a.2.1, a.2.2⟩) (fun _ => rfl) (opens_struct Try.underlying24 rfl (opensF_cons rfl rfl (opens_int Try.underlying3) (opensF_cons rfl rfl (opens_int Try.underlying3) (opensF_one rfl rfl (opens_slice Try.underlying22 rfl rfl (opens_bool Try.underlying4))))))
theorem opensT26 : Opens Try.prog k26 26 (fun x => ((Lit.int .i64 x.f0).wf = true) ∧ ((Lit.int .i64 x.f1).wf = true)) := opens_iso (fun a => ⟨a.1, a.2⟩) (fun _ => rfl) (opens_struct Try.underlying26 rfl (opensF_cons rfl rfl (opens_int Try.underlying3) (opensF_one rfl rfl (opens_int Try.underlying3))))
set_option maxRecDepth 100000 in
theorem lifted (os : Os) (started : os.Started) (H : Type) (enc : TypeId × Value → H) :
    ReturnsInHanded {} Try.checked os 5 .any (Rows.sightWallsSpec.pre6 enc Try.prog Try.f5 Rows.sightWallsRow.domain false) (Rows.sightWallsSpec.post enc Try.prog Try.f5 false true false false) := by
  refine returnsInHanded_of_change_sized (C := Try.checked) own started (by kernel_rfl) Try.func5
    (ChangeSpec.witness6 (enc := enc) (C := Try.checked) false ⟨#[], #[.agg #[.int .i64 0, .int .i64 0, .slice none 0 0], .agg #[.int .i64 0, .int .i64 0], .agg #[.int .i64 0, .int .i64 0], .int .i64 0], []⟩ 8 (by kernel_rfl) (by kernel_rfl) (by kernel_rfl) (by kernel_rfl)) ?_
  intro W base args ds gs before hval0 hW hcnd hsz0 _
  have hsz : (DataW.weightsEach Try.prog (Try.f5.params.toList ++ Rows.sightWallsSpec.plain.varTypes Try.prog) (ds ++ gs)).all (· ≤ reachBytes) = true := hsz0
  have hval : ∀ (j : Nat) t v, Try.f5.params[j]? = some t → args[j]? = some v → Value.okWide Try.prog W .any base t v := hval0
  have hW' := hW
  obtain ⟨p, q, hA0, hV, rfl, hfz, hnd⟩ := hW
  have hA : DataW.TrodAll enc Try.prog W 0 (fun _ => true) true Try.f5.params.toList args.toList ds p := hA0
  rw [Try.params5] at hA hval hsz
  obtain ⟨v0, vs0, d0, ds0, p0, q0, hargs, rfl, rfl, h0, r0⟩ := trodAll_cons hA
  obtain ⟨v1, vs1, d1, ds1, p1, q1, rfl, rfl, rfl, h1, r1⟩ := trodAll_cons r0
  obtain ⟨v2, vs2, d2, ds2, p2, q2, rfl, rfl, rfl, h2, r2⟩ := trodAll_cons r1
  obtain ⟨v3, vs3, d3, ds3, p3, q3, rfl, rfl, rfl, h3, r3⟩ := trodAll_cons r2
  obtain ⟨rfl, rfl, rfl⟩ := trodAll_nil r3
  obtain rfl : args = #[v0, v1, v2, v3] := by cases args; simp_all
  obtain ⟨rfl, rfl⟩ := trodVars_none hV
  have k0 := h0
  have lt0 : ∀ x ∈ p0, x.block < W.heap.size := by obtain ⟨m, hm⟩ := k0; exact DataW.trod_lt m _ _ _ hm
  obtain ⟨x0, hK0, hO0⟩ := opens_arg opensT24 hsz (j := 0) rfl rfl h0
  obtain ⟨A0_2, c0_2, hv0, hc0_2, hr0_2⟩ := k24_open hK0
  obtain rfl := agg_of Try.underlying24 (hval 0 24 v0 rfl rfl) hv0
  have k1 := h1
  have lt1 : ∀ x ∈ p1, x.block < W.heap.size := by obtain ⟨m, hm⟩ := k1; exact DataW.trod_lt m _ _ _ hm
  obtain ⟨x1, hK1, hO1⟩ := opens_arg opensT26 hsz (j := 1) rfl rfl h1
  obtain hv1 := k26_open hK1
  obtain rfl := agg_of Try.underlying26 (hval 1 26 v1 rfl rfl) hv1
  have k2 := h2
  have lt2 : ∀ x ∈ p2, x.block < W.heap.size := by obtain ⟨m, hm⟩ := k2; exact DataW.trod_lt m _ _ _ hm
  obtain ⟨x2, hK2, hO2⟩ := opens_arg opensT26 hsz (j := 2) rfl rfl h2
  obtain hv2 := k26_open hK2
  obtain rfl := agg_of Try.underlying26 (hval 2 26 v2 rfl rfl) hv2
  obtain ⟨a3, rfl, rfl, rfl, w3⟩ := open_int Try.underlying3 (hval 3 3 v3 rfl rfl) h3
  clear hA0 hval0 hsz0 hsz
  obtain ⟨k, h⟩ := Pure.SightWalls (x0.f0) (x0.f1) (x0.f2) (x1.f0) (x1.f1) (x2.f0) (x2.f1) a3 hO0.1 hO0.2.1 hO0.2.2 hO1.1 hO1.2 hO2.1 hO2.2 w3
  refine (barrowlaw07_SightWalls.calls k (x0.f0) (x0.f1) _ _ (x0.f2) (x1.f0) (x1.f1) (x2.f0) (x2.f1) a3 true W hr0_2 hc0_2 h).mono ?_
  rintro e W' ⟨he, bel0⟩
  have bel : Below W.heap.size W W' := bel0
  subst he
  exact ⟨_, rfl, _, _, _, [], _, [], hW', trodAll_mk1 (shut_bool Try.underlying4 _), (trodAll_cons_mk (Below.trod laidOut (by kernel_rfl) (of_decide_eq_true (by kernel_rfl)) k0 bel lt0) (trodAll_cons_mk (Below.trod laidOut (by kernel_rfl) (of_decide_eq_true (by kernel_rfl)) k1 bel lt1) (trodAll_cons_mk (Below.trod laidOut (by kernel_rfl) (of_decide_eq_true (by kernel_rfl)) k2 bel lt2) (trodAll_cons_mk (shut_int Try.underlying3 w3) trodAll_mk0)))), rfl, bel.frame _, fun h => by cases h⟩
theorem over : Rows.sightWallsRow.holds Try.pinned (OpenSpec.ofChange Rows.sightWallsSpec) :=
  OpenClaim.holds_of_wide 5 Try.f5 rfl rfl rfl rfl rfl rfl rfl ⟨rfl, rfl, rfl, rfl, rfl⟩ rfl rfl rfl rfl rfl (by kernel_rfl) Try.func5 (by kernel_rfl)
    (of_decide_eq_true (by kernel_rfl)) (by unfold Func.isWrapper; first | (rw [if_pos (by decide +kernel)]; kernel_rfl) | (rw [if_neg (by decide +kernel)]; exact ⟨rfl, rfl⟩))
    (fun os started H enc _ => lifted os started H enc)
theorem proved : Rows.SightWallsSaid := over
#print axioms proved
end Go.Proofs.Ytljmecjciifceaa.sightWalls
namespace Go.Proofs.Ytljmecjciifceaa
/-- The row, under a short name, for the claim. -/
theorem sightWalls_holds : Rows.SightWallsSaid := sightWalls.proved
end Go.Proofs.Ytljmecjciifceaa
