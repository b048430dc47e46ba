/- Words of this session: results among which cells of one word are. -/
import Derived.Test.YtljmecjciifceaaSL3
set_option linter.unusedVariables false
set_option linter.unusedSimpArgs false
namespace Go.Proofs.YtljmecjciifceaaS
open Go.RowKit Go.Proofs.YtljmecjciifceaaW.PrintWords Go.Proofs.YtljmecjciifceaaW.PrintLast Go.Proofs.YtljmecjciifceaaW.PrintMore Go.Proofs.YtljmecjciifceaaV
/-- Results of any shape; cells of one word too. -/
inductive Vals2 (P : Program) (tmps : Array Value) (w : World) : List ResultVar → List Value → Prop where
  | nil : Vals2 P tmps w [] []
  | tmp {u : Tmp} {rs : List ResultVar} {vs : List Value} (h : Vals2 P tmps w rs vs) : Vals2 P tmps w (.tmp u :: rs) (tmps.getD u undef :: vs)
  | cell {p : Tmp} {ty : TypeId} {rs : List ResultVar} {vs : List Value} (g : Nat) (t : TypeId) (cs : Array Value) (fr : Nat × Nat) (d : TypeDesc)
      (hp : tmps.getD p undef = .pointer (some ⟨g, 0, none⟩)) (hg : w.heap[g]? = some (.cells cs t fr))
      (hu : P.underlying ty = some d) (hd : (match d with | .struct _ | .array _ _ => true | _ => false) = true) (hi : (P.info? ty).map (·.size) = some cs.size)
      (h : Vals2 P tmps w rs vs) : Vals2 P tmps w (.cell p ty :: rs) (.agg cs :: vs)
  | one {p : Tmp} {ty : TypeId} {rs : List ResultVar} {vs : List Value} (g : Nat) (t : TypeId) (c : Value) (fr : Nat × Nat) (d : TypeDesc)
      (hp : tmps.getD p undef = .pointer (some ⟨g, 0, none⟩)) (hg : w.heap[g]? = some (.cells #[c] t fr))
      (hu : P.underlying ty = some d) (hd : (match d with | .struct _ | .array _ _ => true | _ => false) = false)
      (h : Vals2 P tmps w rs vs) : Vals2 P tmps w (.cell p ty :: rs) (c :: vs)
section
variable {P : Program} {tmps : Array Value} {w : World}
theorem run_loadVar_one (g : Nat) (t ty : TypeId) (c : Value) (fr : Nat × Nat) (d : TypeDesc) (hg : w.heap[g]? = some (.cells #[c] t fr))
    (hu : P.underlying ty = some d) (hd : (match d with | .struct _ | .array _ _ => true | _ => false) = false) : (loadVar ty ⟨g, 0, none⟩).run P w = .ok c w := by
  have hagg : (isAgg ty).run P w = .ok false w := by
    unfold isAgg
    rw [Sem.run_bind, run_underlying hu w]
    cases d <;> simp_all
  have hcell : w.cell? ⟨g, 0, none⟩ = some c := (cell_of_row w g 0 _ t fr hg).trans rfl
  unfold loadVar
  rw [Sem.run_bind, hagg]
  simp [hcell]
theorem vals2_run {rs : List ResultVar} {vs : List Value} (hv : Vals2 P tmps w rs vs) (f : ResultVar → Sem Value) (hf : ∀ u, f (.tmp u) = (Pure.pure (tmps.getD u undef) : Sem Value)) (hc : ∀ a t, f (.cell a t) = (do loadVar t (← asAddr (tmps.getD a undef)))) :
    (rs.mapM f).run P w = .ok vs w := by
  induction hv with
  | nil => simp
  | tmp h ih => simp [List.mapM_cons, hf, ih]
  | cell g t cs fr d hp hg hu hd hi h ih =>
    rw [List.mapM_cons, hc, hp]
    simp [asAddr, run_loadVar_row w g t _ cs fr d hg hu hd hi, ih]
  | one g t c fr d hp hg hu hd h ih =>
    rw [List.mapM_cons, hc, hp]
    simp [asAddr, run_loadVar_one g t _ c fr d hg hu hd, ih]
theorem results_list2 {fn : Func} {rs : List ResultVar} {vs : List Value} (h : fn.results = rs.toArray) (hl : vs.length ≠ 1) (hv : Vals2 P tmps w rs vs) : (results fn tmps).run P w = .ok (.tuple vs.toArray) w := by
  unfold results
  rw [h, List.mapM_toArray]
  simp only [Sem.run_bind, Sem.run_map]
  rw [vals2_run hv]
  · simp [hl]
  · intro u
    rfl
  · intro a t
    rfl
theorem results_single2 {fn : Func} {r : ResultVar} {v : Value} (h : fn.results = #[r]) (hv : Vals2 P tmps w [r] [v]) : (results fn tmps).run P w = .ok v w := by
  unfold results
  rw [show fn.results = [r].toArray from h, List.mapM_toArray]
  simp only [Sem.run_bind, Sem.run_map]
  rw [vals2_run hv]
  · simp
  · intro u
    rfl
  · intro a t
    rfl
end
end Go.Proofs.YtljmecjciifceaaS
