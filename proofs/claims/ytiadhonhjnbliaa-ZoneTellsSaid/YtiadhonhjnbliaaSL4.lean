/- Words of this session: results among which cells of one word are. -/
import Derived.Test.YtiadhonhjnbliaaSL3
set_option linter.unusedVariables false
set_option linter.unusedSimpArgs false
namespace Go.Proofs.YtiadhonhjnbliaaS
open Go.RowKit Go.Proofs.YtiadhonhjnbliaaW.PrintWords Go.Proofs.YtiadhonhjnbliaaW.PrintLast Go.Proofs.YtiadhonhjnbliaaW.PrintMore Go.Proofs.YtiadhonhjnbliaaV
section
variable {P : Program} {tmps : Array Value} {w : World}
end
/-! Loads of many cells at once -/
def ats (w : World) (a : Addr) (cs : List Value) : Prop := ∀ j v, cs[j]? = some v → w.cell? (a.add j) = some v
def atk (w : World) (a : Addr) (k : Nat) (cs : List Value) : Prop := ∀ j v, cs[j]? = some v → w.cell? ⟨a.block, a.off + (k + j), none⟩ = some v
section
variable {P : Program} {w : World} {a : Addr} {k : Nat} {c : Value} {cs : List Value}
theorem atk_nil : atk w a k [] := fun j v h => by simp at h
theorem atk_cons (h : w.cell? ⟨a.block, a.off + k, none⟩ = some c) (hs : atk w a (k + 1) cs) : atk w a k (c :: cs) := by
  intro j v hj
  cases j with
  | zero => simp at hj; subst hj; exact h
  | succ j =>
    have := hs j v (by simpa using hj)
    rwa [show k + 1 + j = k + (j + 1) by omega] at this
theorem ats_of (h : w.cell? a = some c) (hs : atk w a 1 cs) : ats w a (c :: cs) := by
  intro j v hj
  cases j with
  | zero => simp at hj; subst hj; simpa [Addr.add] using h
  | succ j =>
    have := hs j v (by simpa using hj)
    rw [show 1 + j = j + 1 by omega] at this
    simpa [Addr.add] using this
theorem cells_at {g : Nat} {arr : Array Value} {t : TypeId} {fr : Nat × Nat} (h : w.heap[g]? = some (.cells arr t fr)) (off : Nat) (cs : List Value) (hcs : (arr.toList.drop off).take cs.length = cs) : ats w ⟨g, off, none⟩ cs := by
  intro j v hj
  have hadd : (⟨g, off, none⟩ : Addr).add j = ⟨g, off + j, none⟩ := by unfold Addr.add; split <;> simp_all
  rw [hadd, cell_of_row w g (off + j) arr t fr h]
  rw [← hcs, List.getElem?_take] at hj
  split at hj
  · rw [List.getElem?_drop] at hj
    simpa using hj
  · cases hj
theorem run_loadVar_ats {ad : Addr} (ty : TypeId) (d : TypeDesc) (hc : ats w ad cs) (hu : P.underlying ty = some d) (hd : (match d with | .struct _ | .array _ _ => true | _ => false) = true) (hi : (P.info? ty).map (·.size) = some cs.length) :
    (loadVar ty ad).run P w = .ok (.agg cs.toArray) w := by
  have hl : (loadCells ad cs.length).run P w = .ok cs.toArray w := run_loadCells_list (P := P) w ad cs (fun j v hv => hc j v hv)
  cases hq : P.info? ty with
  | none => simp [hq] at hi
  | some i =>
    have hs : i.size = cs.length := by simpa [hq] using hi
    have hagg : (isAgg ty).run P w = .ok true w := by
      unfold isAgg
      rw [Sem.run_bind, run_underlying hu w]
      cases d <;> simp_all
    simp [loadVar, Sem.run_bind, hagg, sizeOf, typeInfo, hq, hs, hl]
theorem wpList_loadA {ops : Array Oper} {rest : List Oper} {o : Oper} {a : Act} {Q : Exit → Act → World → Prop} (hgd : o.guard = none) (ty : TypeId) (x : Operand) (ho : o.op = .load ty x) (ad : Addr) (hx : a.eval x = .pointer (some ad)) (cs : List Value) (d : TypeDesc) (hc : ats w ad cs) (hu : P.underlying ty = some d) (hd : (match d with | .struct _ | .array _ _ => true | _ => false) = true) (hi : (P.info? ty).map (·.size) = some cs.length) (h : wpList P ops Q rest (a.put o.dst (.agg cs.toArray)) w) : wpList P ops Q (o :: rest) a w :=
  wpList_plain hgd fun K hK => by
    unfold Oper.wp execOp
    simp only [ho, hx, Instr.loadAt, Instr.sureAddr, Sem.run_bind, Sem.run_pure, Result.andThen_ok, run_loadVar_ats ty d hc hu hd hi]
    exact hK _ _ h
end
end Go.Proofs.YtiadhonhjnbliaaS
