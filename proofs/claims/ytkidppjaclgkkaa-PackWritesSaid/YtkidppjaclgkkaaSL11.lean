/- Words of this session: bytes that are lent, with spare room in which a mark stands. -/
import Derived.Test.YtkidppjaclgkkaaSL4
import Derived.Laws.CopyRow
set_option linter.unusedVariables false
set_option linter.unusedSimpArgs false
namespace Go.Proofs.YtkidppjaclgkkaaS
open Go.RowKit Go.Proofs.YtkidppjaclgkkaaW.PrintWords Go.Proofs.YtkidppjaclgkkaaW.PrintLast Go.Proofs.YtkidppjaclgkkaaW.PrintMore Go.Proofs.YtkidppjaclgkkaaV
theorem op_same {P : Program} {o : Oper} {a : Act} {Kc : Act → World → Prop} {Q : Exit → Act → World → Prop} {w : World} {v : Value} (hrun : (execOp a.eval o).run P w = .ok (.value v) w) (h : Kc (a.put o.dst v) w) : Oper.wp P o a w Kc Q := op_value hrun h
/-- Lent bytes: their block holds one more, the mark 77. -/
def lentR (e : TypeId) (v : Value) (xs : List Int) : Asr where
  H w S := ∃ g, v = .slice (some ⟨g, 0, none⟩) xs.length (xs.length + 1) ∧ xs.length ≤ 1000000000 ∧ S g ∧ w.heap[g]? = some (.cells (encs (Value.int .u8) (xs ++ [77])).toArray e (0, 0))
  mono hs h := let ⟨g, h1, h2, h3, h4⟩ := h; ⟨g, h1, h2, hs _ h3, h4⟩
  bound h := let ⟨g, h1, h2, h3, h4⟩ := h; ⟨g, h1, h2, ⟨h3, (Array.getElem?_eq_some_iff.1 h4).1⟩, h4⟩
  move hm h := let ⟨g, h1, h2, h3, h4⟩ := h; ⟨g, h1, h2, h3, (hm _ h3).trans h4⟩
theorem lent_h {e : TypeId} {A : Option Addr} {n c : Nat} {xs : List Int} {w : World} {T : Nat → Prop} (h : (lentR e (.slice A n c) xs).H w T) : n = xs.length ∧ n ≤ c ∧ (Kd.int .u8).C w A n xs := by
  obtain ⟨g, h1, h2, h3, h4⟩ := h
  injection h1 with e1 e2 e3
  subst e1; subst e2; subst e3
  refine ⟨rfl, by omega, Kd.C_of_reads (enc := Value.int .u8) (d := (0 : Int)) (h1 := fun _ => rfl) ⟨rfl, by omega, fun _ => ⟨_, rfl, fun j hj => ?_⟩⟩⟩
  rw [add_at, Nat.zero_add, cell_of_row w g j _ e _ h4]
  simp only [encs, List.getElem?_toArray, List.map_append]
  rw [List.getElem?_append_left (by simpa using hj), List.getElem?_map, List.getElem?_eq_getElem hj]
  simp [List.getD_eq_getElem?_getD, List.getElem?_eq_getElem hj]
theorem lent_c {e : TypeId} {A : Option Addr} {n c : Nat} {xs : List Int} {L : List Asr} {w : World} {S : Nat → Prop} (h : SL (lentR e (.slice A n c) xs :: L) w S) : n = xs.length ∧ n ≤ c ∧ (Kd.int .u8).C w A n xs := let ⟨_, _, _, _, _, h, _⟩ := h; lent_h h
theorem lent_len {e : TypeId} {A : Option Addr} {n c : Nat} {xs : List Int} {L : List Asr} {w : World} {S : Nat → Prop} (h : SL (lentR e (.slice A n c) xs :: L) w S) : SL (lentR e (.slice A xs.length c) xs :: L) w S := by
  have e_ := (lent_c h).1
  subst e_
  exact h
theorem lent_n {e : TypeId} {A : Option Addr} {m n c : Nat} {xs : List Int} {L : List Asr} {w : World} {S : Nat → Prop} (e_ : n = m) (h : SL (lentR e (.slice A m c) xs :: L) w S) : SL (lentR e (.slice A n c) xs :: L) w S := e_ ▸ h
theorem lent_at {e : TypeId} {A : Option Addr} {n c : Nat} {xs : List Int} {L : List Asr} {w : World} {S : Nat → Prop} (h : SL (lentR e (.slice A n c) xs :: L) w S) : ∃ g, A = some ⟨g, 0, none⟩ ∧ n = xs.length ∧ c = xs.length + 1 ∧ xs.length ≤ 1000000000 ∧ w.heap[g]? = some (.cells (encs (Value.int .u8) (xs ++ [77])).toArray e (0, 0)) := by
  obtain ⟨_, _, _, _, _, ⟨g, h1, h2, h3, h4⟩, _⟩ := h
  injection h1 with e1 e2 e3
  exact ⟨g, e1, e2, e3, h2, h4⟩
end Go.Proofs.YtkidppjaclgkkaaS
