/- Words of this session: rows of structs. -/
import Derived.Test.YtbhgohomgfjjfaaSL2
set_option linter.unusedVariables false
set_option linter.unusedSimpArgs false
namespace Go.Proofs.YtbhgohomgfjjfaaS
open Go.RowKit Go.Proofs.YtbhgohomgfjjfaaW.PrintWords Go.Proofs.YtbhgohomgfjjfaaW.PrintLast Go.Proofs.YtbhgohomgfjjfaaW.PrintMore Go.Proofs.YtbhgohomgfjjfaaV
/-- The walk stops here, and goes on from here later. -/
theorem stop_ {X : Prop} (h : ∀ G : Prop, Aside0 (X → G) → G) : X := h X ⟨id⟩
theorem stop_cond {P : Program} {c : Operand} {x y : Code} {Q : Exit → Act → World → Prop} {a : Act} {w : World} (h : ∀ G : Prop, Aside0 ((Code.cond c x y).wp P Q a w → G) → G) : (Code.cond c x y).wp P Q a w := stop_ h
theorem reps_cons {α : Type} {M : α → List Value → Prop} {sz : Nat} {x : α} {c : List Value} {xs : List α} {inner : List Value} (h : M x c) (hl : c.length = sz) (hr : Reps M sz xs inner) : Reps M sz (x :: xs) (c ++ inner) := by
  refine ⟨by rw [List.length_append, hl, hr.1, List.length_cons, Nat.add_mul]; omega, fun j p hj => ?_⟩
  cases j with
  | zero =>
    simp only [List.getElem?_cons_zero, Option.some.injEq] at hj
    subst hj
    rw [Nat.zero_mul, List.drop_zero, List.take_left' hl]
    exact h
  | succ j =>
    simp only [List.getElem?_cons_succ] at hj
    have := hr.2 j p hj
    rw [show (j + 1) * sz = c.length + j * sz by rw [hl, Nat.add_mul]; omega, List.drop_append]
    simpa [List.drop_of_length_le] using this
theorem SL.cell_sc {α : Type} {enc : α → Value} {h1 : ∀ x, (enc x).oneCell' = true} (z : α) {e : Nat} {ad : Addr} {n c : Nat} {xs : List α} {L : List Asr} {w : World} {S : Nat → Prop} (h : SL (row (Kd.scalar enc h1) e (.slice (some ad) n c) xs :: L) w S) (i : Int) (h0 : 0 ≤ i) (hn : i < n) :
    w.cell? (ad.add i.toNat) = some (enc (xs.getD i.toNat z)) := by
  obtain ⟨ad2, cs, hA, hl, hk, hc⟩ := Kd.C_get (SL.row_c h).2.2 z i h0 hn
  injection hA with hA
  subst hA
  have hc' : cs = [enc (xs.getD i.toNat z)] := hk
  subst hc'
  have := hc 0 _ rfl
  rwa [Nat.add_zero, show (Kd.scalar enc h1).sz = 1 from rfl, Nat.mul_one] at this
theorem SL.row_n {α : Type} {d : Kd α} {e : Nat} {A : Option Addr} {m n c : Nat} {xs : List α} {L : List Asr} {w : World} {S : Nat → Prop} (e_ : n = m) (h : SL (row d e (.slice A m c) xs :: L) w S) : SL (row d e (.slice A n c) xs :: L) w S := e_ ▸ h
end Go.Proofs.YtbhgohomgfjjfaaS
