/- Words of this session: regions that draw their order and lay new things alone. -/
import Derived.Test.YtebllndphechmaaSL4
set_option linter.unusedVariables false
set_option linter.unusedSimpArgs false
namespace Go.Proofs.YtebllndphechmaaS
open Go.RowKit Go.Proofs.YtebllndphechmaaW.PrintWords Go.Proofs.YtebllndphechmaaW.PrintLast Go.Proofs.YtebllndphechmaaW.PrintMore Go.Proofs.YtebllndphechmaaV
section
variable {P : Program} {o : Oper} {a : Act} {Kc : Act → World → Prop} {Q : Exit → Act → World → Prop}
theorem cellB_ {W w' : World} {p : Addr} {v : Value} (hb : Below W.heap.size W w') (h : W.cell? p = some v) : w'.cell? p = some v := by
  have h2 : p.block < W.heap.size := by
    rcases Nat.lt_or_ge p.block W.heap.size with h1 | h1
    · exact h1
    · exfalso
      simp [World.cell?, Array.getElem?_eq_none h1] at h
  rw [hb.cell h2, h]
/-- A region that draws its order and lays new things alone. -/
theorem startB_ {ops : Array Oper} {id n : Nat} {a : Act} {w : World} (l : Array Bool) (hm : P.follows .mixedOrders = true) (hn : ops.size = n) (hl : Array.replicate n false = l)
    (h : Below w.heap.size w w.drew → wpAnyLast P .any ops Q (fun w' => Below w.heap.size w w') [] n l a w.drew) : (Code.region id ops true).wp P Q a w := start_ l hm hn hl (below_drew (Below.refl _ _)) h
theorem op_rowB {α : Type} {enc : α → Value} {h1 : ∀ x, (enc x).oneCell' = true} {w W : World} (e : TypeId) (xs : List α) (cs : Array Value) (n : Nat) (hcs : cs.toList = encs enc xs) (hn : xs.length = n) (hm : n ≤ 9223372036854775807) {S : Nat → Prop} {L : List Asr} (hf : Fresh S w) (H : SL L w S) (hB : Below W.heap.size W w)
    (hrun : (execOp a.eval o).run P w = .ok (.value (.slice (some ⟨w.heap.size, 0, none⟩) n n)) (w.alloc (.cells cs e (0, 0))))
    (h : ∀ A c w1, SL (row (Kd.scalar enc h1) e (.slice A n c) xs :: L) w1 S → Keep S w w1 → Below W.heap.size W w1 → Kc (a.put o.dst (.slice A n c)) w1) : Oper.wp P o a w Kc Q := by
  refine op_value hrun (h _ _ _ (SL.new hf H (below_alloc (Below.refl _ _) _) ?_).1 (.below (below_alloc (Below.refl _ _) _)) (below_alloc hB _))
  have hl := World.ownsRow_lit (base := w.heap.size) (e := e) (size := 1) w cs n (Nat.le_refl _) (by simpa [maxLen] using hm) (by
    have := congrArg List.length hcs
    rw [Array.length_toList, encs_length, hn] at this
    rw [this, Nat.mul_one])
  subst hn
  rw [hcs] at hl
  exact row_of_R (Kd.R_of_own (ok := fun _ => True) (h1 := h1) hl (fun _ _ => trivial))
end
end Go.Proofs.YtebllndphechmaaS
