-- Written by xprint.py (a program of this session) for this claim
import Derived.Test.YtbhgohomgfjjfaaRows
import Derived.Test.YtbhgohomgfjjfaaXCOx10
import Derived.Test.YtbhgohomgfjjfaaPureCoolUses
import Derived.Test.YtbhgohomgfjjfaaV
import Derived.WalkKit
import Derived.ProofKit
import Derived.OpenShut
import Derived.ShutString
import Derived.ChangeOld
import Derived.Below
import Derived.SizedLaws
namespace Go.Proofs.Ytbhgohomgfjjfaa.coolUses
open Go.ChangeShapes Go.WideShapes Go.ChangeAt Go.RowKit Go.Proofs.YtbhgohomgfjjfaaW.PrintWords Go.Proofs.YtbhgohomgfjjfaaV Go.Proofs.Ytbhgohomgfjjfaa.XCO
open Go.ChangeMaps (open_string shut_string)
set_option linter.unusedVariables false
set_option linter.unusedSimpArgs false
theorem own : ownKnob Try.prog.godebug = none := by kernel_rfl
theorem laidOut : laidOutB Try.prog = true := by kernel_rfl
theorem opensT39 : Opens Try.prog k39 39 (fun x => ((Lit.int .i64 x.f0).wf = true) ∧ ((Lit.int .i64 x.f1).wf = true)) := opens_iso (fun a => ⟨a.1, a.2⟩) (fun _ => rfl) (opens_array Try.underlying39 rfl (opensA_cons rfl (opens_int Try.underlying3) (opensA_one rfl (opens_int Try.underlying3))))
set_option maxRecDepth 100000 in
theorem lifted (os : Os) (started : os.Started) (H : Type) (enc : TypeId × Value → H) :
    ReturnsInHanded {} Try.checked os 4 .any (Rows.coolUsesSpec.pre6 enc Try.prog Try.f4 Rows.coolUsesRow.domain false) (Rows.coolUsesSpec.post enc Try.prog Try.f4 false true false false) := by
  refine returnsInHanded_of_change_sized (C := Try.checked) own started (by kernel_rfl) Try.func4
    (ChangeSpec.witness6 (enc := enc) (C := Try.checked) false ⟨#[], #[.slice none 0 0, .slice none 0 0, .slice none 0 0], []⟩ 8 (by kernel_rfl) (by kernel_rfl) (by kernel_rfl) (by kernel_rfl)) ?_
  intro W base args ds gs before hval0 hW hcnd hsz0 _
  have hsz : (DataW.weightsEach Try.prog (Try.f4.params.toList ++ Rows.coolUsesSpec.plain.varTypes Try.prog) (ds ++ gs)).all (· ≤ reachBytes) = true := hsz0
  have hval : ∀ (j : Nat) t v, Try.f4.params[j]? = some t → args[j]? = some v → Value.okWide Try.prog W .any base t v := hval0
  have hW' := hW
  obtain ⟨p, q, hA0, hV, rfl, hfz, hnd⟩ := hW
  have hA : DataW.TrodAll enc Try.prog W 0 (fun _ => true) true Try.f4.params.toList args.toList ds p := hA0
  rw [Try.params4] at hA hval hsz
  obtain ⟨v0, vs0, d0, ds0, p0, q0, hargs, rfl, rfl, h0, r0⟩ := trodAll_cons hA
  obtain ⟨v1, vs1, d1, ds1, p1, q1, rfl, rfl, rfl, h1, r1⟩ := trodAll_cons r0
  obtain ⟨v2, vs2, d2, ds2, p2, q2, rfl, rfl, rfl, h2, r2⟩ := trodAll_cons r1
  obtain ⟨rfl, rfl, rfl⟩ := trodAll_nil r2
  obtain rfl : args = #[v0, v1, v2] := by cases args; simp_all
  obtain ⟨rfl, rfl⟩ := trodVars_none hV
  have k0 := h0
  have lt0 : ∀ x ∈ p0, x.block < W.heap.size := by obtain ⟨m, hm⟩ := k0; exact DataW.trod_lt m _ _ _ hm
  obtain ⟨x0, hK0, hO0⟩ := opens_arg (opens_slice Try.underlying33 rfl rfl (opens_int Try.underlying3)) hsz (j := 0) rfl rfl h0
  obtain ⟨A0, c0, hv0, hc0, hr0⟩ := hK0
  obtain rfl := slice_of Try.underlying33 (hval 0 33 v0 rfl rfl) hv0
  have k1 := h1
  have lt1 : ∀ x ∈ p1, x.block < W.heap.size := by obtain ⟨m, hm⟩ := k1; exact DataW.trod_lt m _ _ _ hm
  obtain ⟨x1, hK1, hO1⟩ := opens_arg (opens_slice Try.underlying33 rfl rfl (opens_int Try.underlying3)) hsz (j := 1) rfl rfl h1
  obtain ⟨A1, c1, hv1, hc1, hr1⟩ := hK1
  obtain rfl := slice_of Try.underlying33 (hval 1 33 v1 rfl rfl) hv1
  have k2 := h2
  have lt2 : ∀ x ∈ p2, x.block < W.heap.size := by obtain ⟨m, hm⟩ := k2; exact DataW.trod_lt m _ _ _ hm
  obtain ⟨x2, hK2, hO2⟩ := opens_arg (opens_slice Try.underlying38 rfl rfl opensT39) hsz (j := 2) rfl rfl h2
  obtain ⟨A2, c2, hv2, hc2, hr2⟩ := hK2
  obtain rfl := slice_of Try.underlying38 (hval 2 38 v2 rfl rfl) hv2
  clear hA0 hval0 hsz0 hsz
  obtain ⟨k, h⟩ := Pure.CoolUses x0 x1 x2 hO0 hO1 hO2
  refine (barrowlaw16_CoolUses.calls k _ _ x0 _ _ x1 _ _ x2 true W hr0 hc0 hr1 hc1 hr2 hc2 h).mono ?_
  rintro e W' ⟨he, bel0⟩
  have bel : Below W.heap.size W W' := bel0
  subst he
  exact ⟨_, rfl, _, _, _, [], _, [], hW', trodAll_mk1 (shut_bool Try.underlying4 _), (trodAll_cons_mk (Below.trod laidOut (by kernel_rfl) (of_decide_eq_true (by kernel_rfl)) k0 bel lt0) (trodAll_cons_mk (Below.trod laidOut (by kernel_rfl) (of_decide_eq_true (by kernel_rfl)) k1 bel lt1) (trodAll_cons_mk (Below.trod laidOut (by kernel_rfl) (of_decide_eq_true (by kernel_rfl)) k2 bel lt2) trodAll_mk0))), rfl, bel.frame _, fun h => by cases h⟩
theorem over : Rows.coolUsesRow.holds Try.pinned (OpenSpec.ofChange Rows.coolUsesSpec) :=
  OpenClaim.holds_of_wide 4 Try.f4 rfl rfl rfl rfl rfl rfl rfl ⟨rfl, rfl, rfl, rfl, rfl⟩ rfl rfl rfl rfl rfl (by kernel_rfl) Try.func4 (by kernel_rfl)
    (of_decide_eq_true (by kernel_rfl)) (by unfold Func.isWrapper; first | (rw [if_pos (by decide +kernel)]; kernel_rfl) | (rw [if_neg (by decide +kernel)]; exact ⟨rfl, rfl⟩))
    (fun os started H enc _ => lifted os started H enc)
theorem proved : Rows.CoolUsesSaid := over
#print axioms proved
end Go.Proofs.Ytbhgohomgfjjfaa.coolUses
namespace Go.Proofs.Ytbhgohomgfjjfaa
/-- The row, under a short name, for the claim. -/
theorem coolUses_holds : Rows.CoolUsesSaid := coolUses.proved
end Go.Proofs.Ytbhgohomgfjjfaa
