/- Words of this session: maps in memory, and a range over one: whichever entry comes first. -/
import Derived.Test.YtiadhonhjnbliaaSL3
set_option linter.unusedVariables false
set_option linter.unusedSimpArgs false
namespace Go.Proofs.YtiadhonhjnbliaaS
open Go.RowKit Go.Proofs.YtiadhonhjnbliaaW.PrintWords Go.Proofs.YtiadhonhjnbliaaW.PrintLast Go.Proofs.YtiadhonhjnbliaaW.PrintMore Go.Proofs.YtiadhonhjnbliaaV
/-! Whichever of some comes, the answer is the same. -/
open Classical in
noncomputable def everyOf {α ρ : Type} (R : List α) (g : α → Option ρ) : Option ρ := if h : R ≠ [] ∧ ∃ r, ∀ x ∈ R, g x = some r then some h.2.choose else none
theorem everyOf_some {α ρ : Type} {R : List α} {g : α → Option ρ} {r : ρ} (h : everyOf R g = some r) : ∀ x ∈ R, g x = some r := by
  unfold everyOf at h
  split at h
  · rename_i hh
    have := hh.2.choose_spec
    injection h with h
    rw [h] at this
    exact this
  · cases h
theorem everyOf_of {α ρ : Type} {R : List α} {g : α → Option ρ} {r : ρ} (hn : R ≠ []) (h : ∀ x ∈ R, g x = some r) : everyOf R g = some r := by
  have hh : R ≠ [] ∧ ∃ r, ∀ x ∈ R, g x = some r := ⟨hn, r, h⟩
  unfold everyOf
  rw [dif_pos hh]
  obtain ⟨x, hx⟩ := List.exists_mem_of_ne_nil R hn
  have h1 := hh.2.choose_spec x hx
  rw [h x hx] at h1
  injection h1 with h1
  rw [h1]
theorem everyOf_mono {α ρ : Type} {R : List α} {g g' : α → Option ρ} (h : ∀ x r, g x = some r → g' x = some r) {r : ρ} (h1 : everyOf R g = some r) : everyOf R g' = some r := by
  have hn : R ≠ [] := by
    intro e
    unfold everyOf at h1
    rw [dif_neg (fun hh => hh.1 e)] at h1
    cases h1
  exact everyOf_of hn fun x hx => h x r (everyOf_some h1 x hx)
section
variable {κ β : Type} [DecidableEq κ]
end
section
variable {κ β : Type} {D : List (κ × β)} {bs : List Nat} {clk : Nat} {ek : κ → Value} {ev : β → Value}
variable {P : Program} {ops : Array Oper} {rest : List Oper} {o : Oper} {a : Act} {Q : Exit → Act → World → Prop} {Kc : Act → World → Prop} {w : World} {S : Nat → Prop} {L : List Asr}
/-! A range over a map -/
end
theorem everyOf_le {α ρ : Type} {R : List α} {g g' : α → Option ρ} (h : ∀ x, LeO (g x) (g' x)) : LeO (everyOf R g) (everyOf R g') := fun r hr => everyOf_mono (fun x r hx => h x r hx) hr
section
variable {P : Program} {ops : Array Oper} {rest : List Oper} {o : Oper} {a : Act} {Q : Exit → Act → World → Prop} {W : World}
end
end Go.Proofs.YtiadhonhjnbliaaS
