/- Words of this session: rows of structs. -/
import Derived.Test.YtiadhonhjnbliaaSL2
set_option linter.unusedVariables false
set_option linter.unusedSimpArgs false
namespace Go.Proofs.YtiadhonhjnbliaaS
open Go.RowKit Go.Proofs.YtiadhonhjnbliaaW.PrintWords Go.Proofs.YtiadhonhjnbliaaW.PrintLast Go.Proofs.YtiadhonhjnbliaaW.PrintMore Go.Proofs.YtiadhonhjnbliaaV
/-- The walk stops here, and goes on from here later. -/
theorem stop_ {X : Prop} (h : ∀ G : Prop, Aside0 (X → G) → G) : X := h X ⟨id⟩
theorem reps_cons {α : Type} {M : α → List Value → Prop} {sz : Nat} {x : α} {c : List Value} {xs : List α} {inner : List Value} (h : M x c) (hl : c.length = sz) (hr : Reps M sz xs inner) : Reps M sz (x :: xs) (c ++ inner) := by
  refine ⟨by rw [List.length_append, hl, hr.1, List.length_cons, Nat.add_mul]; omega, fun j p hj => ?_⟩
  cases j with
  | zero =>
    simp only [List.getElem?_cons_zero, Option.some.injEq] at hj
    subst hj
    rw [Nat.zero_mul, List.drop_zero, List.take_left' hl]
    exact h
  | succ j =>
    simp only [List.getElem?_cons_succ] at hj
    have := hr.2 j p hj
    rw [show (j + 1) * sz = c.length + j * sz by rw [hl, Nat.add_mul]; omega, List.drop_append]
    simpa [List.drop_of_length_le] using this
end Go.Proofs.YtiadhonhjnbliaaS
