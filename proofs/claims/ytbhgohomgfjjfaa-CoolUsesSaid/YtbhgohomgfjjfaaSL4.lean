/- Words of this session: results among which cells of one word are. -/
import Derived.Test.YtbhgohomgfjjfaaSL3
set_option linter.unusedVariables false
set_option linter.unusedSimpArgs false
namespace Go.Proofs.YtbhgohomgfjjfaaS
open Go.RowKit Go.Proofs.YtbhgohomgfjjfaaW.PrintWords Go.Proofs.YtbhgohomgfjjfaaW.PrintLast Go.Proofs.YtbhgohomgfjjfaaW.PrintMore Go.Proofs.YtbhgohomgfjjfaaV
/-- Results of any shape; cells of one word too. -/
inductive Vals2 (P : Program) (tmps : Array Value) (w : World) : List ResultVar → List Value → Prop where
  | nil : Vals2 P tmps w [] []
  | tmp {u : Tmp} {rs : List ResultVar} {vs : List Value} (h : Vals2 P tmps w rs vs) : Vals2 P tmps w (.tmp u :: rs) (tmps.getD u undef :: vs)
  | cell {p : Tmp} {ty : TypeId} {rs : List ResultVar} {vs : List Value} (g : Nat) (t : TypeId) (cs : Array Value) (fr : Nat × Nat) (d : TypeDesc)
      (hp : tmps.getD p undef = .pointer (some ⟨g, 0, none⟩)) (hg : w.heap[g]? = some (.cells cs t fr))
      (hu : P.underlying ty = some d) (hd : (match d with | .struct _ | .array _ _ => true | _ => false) = true) (hi : (P.info? ty).map (·.size) = some cs.size)
      (h : Vals2 P tmps w rs vs) : Vals2 P tmps w (.cell p ty :: rs) (.agg cs :: vs)
  | one {p : Tmp} {ty : TypeId} {rs : List ResultVar} {vs : List Value} (g : Nat) (t : TypeId) (c : Value) (fr : Nat × Nat) (d : TypeDesc)
      (hp : tmps.getD p undef = .pointer (some ⟨g, 0, none⟩)) (hg : w.heap[g]? = some (.cells #[c] t fr))
      (hu : P.underlying ty = some d) (hd : (match d with | .struct _ | .array _ _ => true | _ => false) = false)
      (h : Vals2 P tmps w rs vs) : Vals2 P tmps w (.cell p ty :: rs) (c :: vs)
section
variable {P : Program} {tmps : Array Value} {w : World}
theorem run_loadVar_one (g : Nat) (t ty : TypeId) (c : Value) (fr : Nat × Nat) (d : TypeDesc) (hg : w.heap[g]? = some (.cells #[c] t fr))
    (hu : P.underlying ty = some d) (hd : (match d with | .struct _ | .array _ _ => true | _ => false) = false) : (loadVar ty ⟨g, 0, none⟩).run P w = .ok c w := by
  have hagg : (isAgg ty).run P w = .ok false w := by
    unfold isAgg
    rw [Sem.run_bind, run_underlying hu w]
    cases d <;> simp_all
  have hcell : w.cell? ⟨g, 0, none⟩ = some c := (cell_of_row w g 0 _ t fr hg).trans rfl
  unfold loadVar
  rw [Sem.run_bind, hagg]
  simp [hcell]
theorem vals2_run {rs : List ResultVar} {vs : List Value} (hv : Vals2 P tmps w rs vs) (f : ResultVar → Sem Value) (hf : ∀ u, f (.tmp u) = (Pure.pure (tmps.getD u undef) : Sem Value)) (hc : ∀ a t, f (.cell a t) = (do loadVar t (← asAddr (tmps.getD a undef)))) :
    (rs.mapM f).run P w = .ok vs w := by
  induction hv with
  | nil => simp
  | tmp h ih => simp [List.mapM_cons, hf, ih]
  | cell g t cs fr d hp hg hu hd hi h ih =>
    rw [List.mapM_cons, hc, hp]
    simp [asAddr, run_loadVar_row w g t _ cs fr d hg hu hd hi, ih]
  | one g t c fr d hp hg hu hd h ih =>
    rw [List.mapM_cons, hc, hp]
    simp [asAddr, run_loadVar_one g t _ c fr d hg hu hd, ih]
theorem results_list2 {fn : Func} {rs : List ResultVar} {vs : List Value} (h : fn.results = rs.toArray) (hl : vs.length ≠ 1) (hv : Vals2 P tmps w rs vs) : (results fn tmps).run P w = .ok (.tuple vs.toArray) w := by
  unfold results
  rw [h, List.mapM_toArray]
  simp only [Sem.run_bind, Sem.run_map]
  rw [vals2_run hv]
  · simp [hl]
  · intro u
    rfl
  · intro a t
    rfl
theorem results_single2 {fn : Func} {r : ResultVar} {v : Value} (h : fn.results = #[r]) (hv : Vals2 P tmps w [r] [v]) : (results fn tmps).run P w = .ok v w := by
  unfold results
  rw [show fn.results = [r].toArray from h, List.mapM_toArray]
  simp only [Sem.run_bind, Sem.run_map]
  rw [vals2_run hv]
  · simp
  · intro u
    rfl
  · intro a t
    rfl
end
/-! Loads of many cells at once -/
def ats (w : World) (a : Addr) (cs : List Value) : Prop := ∀ j v, cs[j]? = some v → w.cell? (a.add j) = some v
def atk (w : World) (a : Addr) (k : Nat) (cs : List Value) : Prop := ∀ j v, cs[j]? = some v → w.cell? ⟨a.block, a.off + (k + j), none⟩ = some v
section
variable {P : Program} {w : World} {a : Addr} {k : Nat} {c : Value} {cs : List Value}
theorem atk_nil : atk w a k [] := fun j v h => by simp at h
theorem atk_cons (h : w.cell? ⟨a.block, a.off + k, none⟩ = some c) (hs : atk w a (k + 1) cs) : atk w a k (c :: cs) := by
  intro j v hj
  cases j with
  | zero => simp at hj; subst hj; exact h
  | succ j =>
    have := hs j v (by simpa using hj)
    rwa [show k + 1 + j = k + (j + 1) by omega] at this
theorem ats_of (h : w.cell? a = some c) (hs : atk w a 1 cs) : ats w a (c :: cs) := by
  intro j v hj
  cases j with
  | zero => simp at hj; subst hj; simpa [Addr.add] using h
  | succ j =>
    have := hs j v (by simpa using hj)
    rw [show 1 + j = j + 1 by omega] at this
    simpa [Addr.add] using this
theorem cells_at {g : Nat} {arr : Array Value} {t : TypeId} {fr : Nat × Nat} (h : w.heap[g]? = some (.cells arr t fr)) (off : Nat) (cs : List Value) (hcs : (arr.toList.drop off).take cs.length = cs) : ats w ⟨g, off, none⟩ cs := by
  intro j v hj
  have hadd : (⟨g, off, none⟩ : Addr).add j = ⟨g, off + j, none⟩ := by unfold Addr.add; split <;> simp_all
  rw [hadd, cell_of_row w g (off + j) arr t fr h]
  rw [← hcs, List.getElem?_take] at hj
  split at hj
  · rw [List.getElem?_drop] at hj
    simpa using hj
  · cases hj
theorem run_loadVar_ats {ad : Addr} (ty : TypeId) (d : TypeDesc) (hc : ats w ad cs) (hu : P.underlying ty = some d) (hd : (match d with | .struct _ | .array _ _ => true | _ => false) = true) (hi : (P.info? ty).map (·.size) = some cs.length) :
    (loadVar ty ad).run P w = .ok (.agg cs.toArray) w := by
  have hl : (loadCells ad cs.length).run P w = .ok cs.toArray w := run_loadCells_list (P := P) w ad cs (fun j v hv => hc j v hv)
  cases hq : P.info? ty with
  | none => simp [hq] at hi
  | some i =>
    have hs : i.size = cs.length := by simpa [hq] using hi
    have hagg : (isAgg ty).run P w = .ok true w := by
      unfold isAgg
      rw [Sem.run_bind, run_underlying hu w]
      cases d <;> simp_all
    simp [loadVar, Sem.run_bind, hagg, sizeOf, typeInfo, hq, hs, hl]
theorem wpList_loadA {ops : Array Oper} {rest : List Oper} {o : Oper} {a : Act} {Q : Exit → Act → World → Prop} (hgd : o.guard = none) (ty : TypeId) (x : Operand) (ho : o.op = .load ty x) (ad : Addr) (hx : a.eval x = .pointer (some ad)) (cs : List Value) (d : TypeDesc) (hc : ats w ad cs) (hu : P.underlying ty = some d) (hd : (match d with | .struct _ | .array _ _ => true | _ => false) = true) (hi : (P.info? ty).map (·.size) = some cs.length) (h : wpList P ops Q rest (a.put o.dst (.agg cs.toArray)) w) : wpList P ops Q (o :: rest) a w :=
  wpList_plain hgd fun K hK => by
    unfold Oper.wp execOp
    simp only [ho, hx, Instr.loadAt, Instr.sureAddr, Sem.run_bind, Sem.run_pure, Result.andThen_ok, run_loadVar_ats ty d hc hu hd hi]
    exact hK _ _ h
end
end Go.Proofs.YtbhgohomgfjjfaaS
