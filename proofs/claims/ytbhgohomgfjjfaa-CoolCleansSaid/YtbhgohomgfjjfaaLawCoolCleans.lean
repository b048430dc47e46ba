-- Written by xprint.py (a program of this session) for this claim
import Derived.Test.YtbhgohomgfjjfaaRows
import Derived.Test.YtbhgohomgfjjfaaXCOx12
import Derived.Test.YtbhgohomgfjjfaaPureCoolCleans
import Derived.Test.YtbhgohomgfjjfaaV
import Derived.WalkKit
import Derived.ProofKit
import Derived.OpenShut
import Derived.ShutString
import Derived.ChangeOld
import Derived.Below
import Derived.SizedLaws
namespace Go.Proofs.Ytbhgohomgfjjfaa.coolCleans
open Go.ChangeShapes Go.WideShapes Go.ChangeAt Go.RowKit Go.Proofs.YtbhgohomgfjjfaaW.PrintWords Go.Proofs.YtbhgohomgfjjfaaV Go.Proofs.Ytbhgohomgfjjfaa.XCO
open Go.ChangeMaps (open_string shut_string)
set_option linter.unusedVariables false
set_option linter.unusedSimpArgs false
theorem own : ownKnob Try.prog.godebug = none := by kernel_rfl
theorem laidOut : laidOutB Try.prog = true := by kernel_rfl
theorem opensT35 : Opens Try.prog k35 35 (fun x => ((Lit.int .i64 x.f0).wf = true) ∧ (x.f1.length ≤ maxLen ∧ x.f1.length * 8 ≤ 140737488351232 ∧ ∀ x382_ ∈ x.f1, (Lit.int .i64 x382_).wf = true)) := opens_iso (fun a => ⟨a.1, a.2⟩) (fun _ => rfl) (opens_struct Try.underlying35 rfl (opensF_cons rfl rfl (opens_int Try.underlying3) (opensF_one rfl rfl (opens_slice Try.underlying33 rfl rfl (opens_int Try.underlying3)))))
theorem opensT76 : Opens Try.prog k76 76 (fun x => ((Lit.int .i64 x.f0).wf = true) ∧ ((Lit.int .i64 x.f1).wf = true) ∧ ((Lit.int .i64 x.f2).wf = true)) := opens_iso (fun a => ⟨a.1, a.2.1, a.2.2⟩) (fun _ => rfl) (opens_struct Try.underlying76 rfl (opensF_cons rfl rfl (opens_int Try.underlying3) (opensF_cons rfl rfl (opens_int Try.underlying3) (opensF_one rfl rfl (opens_int Try.underlying3)))))
theorem opensT25 : Opens Try.prog k25 25 (fun x => ((Lit.int .i64 x.f0).wf = true) ∧ ((Lit.int .i64 x.f1).wf = true) ∧ ((Lit.int .i64 x.f2).wf = true) ∧ ((Lit.int .i64 x.f3).wf = true) ∧ ((Lit.int .i64 x.f4).wf = true) ∧ ((Lit.int .i64 x.f5).wf = true) ∧ (True) ∧ (x.f7.length ≤ maxLen ∧ x.f7.length * 24 ≤ 140737488351232 ∧ ∀ x383_ ∈ x.f7, ((Lit.int .i64 x383_.f0).wf = true) ∧ ((Lit.int .i64 x383_.f1).wf = true) ∧ ((Lit.int .i64 x383_.f2).wf = true))) := opens_iso (fun a => ⟨a.1, a.2.1, a.2.2.1, a.2.2.2.1, a.2.2.2.2.1, a.2.2.2.2.2.1, a.2.2.2.2.2.2.1, a.2.2.2.2.2.2.2⟩) (fun _ => rfl) (opens_struct Try.underlying25 rfl (opensF_cons rfl rfl (opens_int Try.underlying3) (opensF_cons rfl rfl (opens_int Try.underlying3) (opensF_cons rfl rfl (opens_int Try.underlying3) (opensF_cons rfl rfl (opens_int Try.underlying3) (opensF_cons rfl rfl (opens_int Try.underlying3) (opensF_cons rfl rfl (opens_int Try.underlying3) (opensF_cons rfl rfl (opens_bool Try.underlying4) (opensF_one rfl rfl (opens_slice Try.underlying23 rfl rfl opensT76))))))))))
set_option maxRecDepth 100000 in
theorem lifted (os : Os) (started : os.Started) (H : Type) (enc : TypeId × Value → H) :
    ReturnsInHanded {} Try.checked os 6 .any (Rows.coolCleansSpec.pre6 enc Try.prog Try.f6 Rows.coolCleansRow.domain false) (Rows.coolCleansSpec.post enc Try.prog Try.f6 false true false false) := by
  refine returnsInHanded_of_change_sized (C := Try.checked) own started (by kernel_rfl) Try.func6
    (ChangeSpec.witness6 (enc := enc) (C := Try.checked) false ⟨#[], #[.slice none 0 0, .agg #[.int .i64 0, .int .i64 0, .int .i64 0, .int .i64 0, .int .i64 0, .int .i64 0, .bool false, .slice none 0 0], .int .i64 0, .int .i64 0], []⟩ 8 (by kernel_rfl) (by kernel_rfl) (by kernel_rfl) (by kernel_rfl)) ?_
  intro W base args ds gs before hval0 hW hcnd hsz0 _
  have hsz : (DataW.weightsEach Try.prog (Try.f6.params.toList ++ Rows.coolCleansSpec.plain.varTypes Try.prog) (ds ++ gs)).all (· ≤ reachBytes) = true := hsz0
  have hval : ∀ (j : Nat) t v, Try.f6.params[j]? = some t → args[j]? = some v → Value.okWide Try.prog W .any base t v := hval0
  have hW' := hW
  obtain ⟨p, q, hA0, hV, rfl, hfz, hnd⟩ := hW
  have hA : DataW.TrodAll enc Try.prog W 0 (fun _ => true) true Try.f6.params.toList args.toList ds p := hA0
  rw [Try.params6] at hA hval hsz
  obtain ⟨v0, vs0, d0, ds0, p0, q0, hargs, rfl, rfl, h0, r0⟩ := trodAll_cons hA
  obtain ⟨v1, vs1, d1, ds1, p1, q1, rfl, rfl, rfl, h1, r1⟩ := trodAll_cons r0
  obtain ⟨v2, vs2, d2, ds2, p2, q2, rfl, rfl, rfl, h2, r2⟩ := trodAll_cons r1
  obtain ⟨v3, vs3, d3, ds3, p3, q3, rfl, rfl, rfl, h3, r3⟩ := trodAll_cons r2
  obtain ⟨rfl, rfl, rfl⟩ := trodAll_nil r3
  obtain rfl : args = #[v0, v1, v2, v3] := by cases args; simp_all
  obtain ⟨rfl, rfl⟩ := trodVars_none hV
  have k0 := h0
  have lt0 : ∀ x ∈ p0, x.block < W.heap.size := by obtain ⟨m, hm⟩ := k0; exact DataW.trod_lt m _ _ _ hm
  obtain ⟨x0, hK0, hO0⟩ := opens_arg (opens_slice Try.underlying22 rfl rfl opensT35) hsz (j := 0) rfl rfl h0
  obtain ⟨A0, c0, hv0, hc0, hr0⟩ := hK0
  obtain rfl := slice_of Try.underlying22 (hval 0 22 v0 rfl rfl) hv0
  have k1 := h1
  have lt1 : ∀ x ∈ p1, x.block < W.heap.size := by obtain ⟨m, hm⟩ := k1; exact DataW.trod_lt m _ _ _ hm
  obtain ⟨x1, hK1, hO1⟩ := opens_arg opensT25 hsz (j := 1) rfl rfl h1
  obtain ⟨A1_7, c1_7, hv1, hc1_7, hr1_7⟩ := k25_open hK1
  obtain rfl := agg_of Try.underlying25 (hval 1 25 v1 rfl rfl) hv1
  obtain ⟨a2, rfl, rfl, rfl, w2⟩ := open_int Try.underlying3 (hval 2 3 v2 rfl rfl) h2
  obtain ⟨a3, rfl, rfl, rfl, w3⟩ := open_int Try.underlying3 (hval 3 3 v3 rfl rfl) h3
  clear hA0 hval0 hsz0 hsz
  obtain ⟨k, h⟩ := Pure.CoolCleans x0 (x1.f0) (x1.f1) (x1.f2) (x1.f3) (x1.f4) (x1.f5) (x1.f6) (x1.f7) a2 a3 hO0 hO1.1 hO1.2.1 hO1.2.2.1 hO1.2.2.2.1 hO1.2.2.2.2.1 hO1.2.2.2.2.2.1 hO1.2.2.2.2.2.2.2 w2 w3
  refine (barrowlaw16_CoolCleans.calls k _ _ x0 (x1.f0) (x1.f1) (x1.f2) (x1.f3) (x1.f4) (x1.f5) (x1.f6) _ _ (x1.f7) a2 a3 true W hr0 hc0 hr1_7 hc1_7 h).mono ?_
  rintro e W' ⟨he, bel0⟩
  have bel : Below W.heap.size W W' := bel0
  subst he
  exact ⟨_, rfl, _, _, _, [], _, [], hW', trodAll_mk1 (shut_bool Try.underlying4 _), (trodAll_cons_mk (Below.trod laidOut (by kernel_rfl) (of_decide_eq_true (by kernel_rfl)) k0 bel lt0) (trodAll_cons_mk (Below.trod laidOut (by kernel_rfl) (of_decide_eq_true (by kernel_rfl)) k1 bel lt1) (trodAll_cons_mk (shut_int Try.underlying3 w2) (trodAll_cons_mk (shut_int Try.underlying3 w3) trodAll_mk0)))), rfl, bel.frame _, fun h => by cases h⟩
theorem over : Rows.coolCleansRow.holds Try.pinned (OpenSpec.ofChange Rows.coolCleansSpec) :=
  OpenClaim.holds_of_wide 6 Try.f6 rfl rfl rfl rfl rfl rfl rfl ⟨rfl, rfl, rfl, rfl, rfl⟩ rfl rfl rfl rfl rfl (by kernel_rfl) Try.func6 (by kernel_rfl)
    (of_decide_eq_true (by kernel_rfl)) (by unfold Func.isWrapper; first | (rw [if_pos (by decide +kernel)]; kernel_rfl) | (rw [if_neg (by decide +kernel)]; exact ⟨rfl, rfl⟩))
    (fun os started H enc _ => lifted os started H enc)
theorem proved : Rows.CoolCleansSaid := over
#print axioms proved
end Go.Proofs.Ytbhgohomgfjjfaa.coolCleans
namespace Go.Proofs.Ytbhgohomgfjjfaa
/-- The row, under a short name, for the claim. -/
theorem coolCleans_holds : Rows.CoolCleansSaid := coolCleans.proved
end Go.Proofs.Ytbhgohomgfjjfaa
