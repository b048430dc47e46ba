import Derived.Test.YtiadhonhjnbliaaWTab
import Derived.Test.YtiadhonhjnbliaaSL
namespace Go.Proofs.YtiadhonhjnbliaaV
open Go.Proofs.YtiadhonhjnbliaaS Go.RowKit Go.Proofs.YtiadhonhjnbliaaW.PrintWords
abbrev I : Bool := true
abbrev O : Bool := false
theorem bc {b : Nat} {t : TypeId} {vs : Array Value} {L : List Asr} {w : World} {S : Nat → Prop} (h : SL (cells b t vs :: L) w S) (i : Nat) {v : Value} (e : vs[i]? = some v) : w.cell? ⟨b, i, none⟩ = some v := (blk_cell (SL.at_ h) i).trans e
section
open Go.Proofs.YtiadhonhjnbliaaW.PrintLast
variable {P : Program} {ops : Array Oper} {Q : Exit → Act → World → Prop} {md : Region.Mode} {S : World → Prop} {ds : List Nat}
def mq (n b : Nat) : Array Bool := ((List.range n).map fun i => Nat.testBit b i).toArray
theorem pO (i t : Nat) {oi : Oper} {fuel : Nat} {l : Array Bool} {a : Act} {w : World} (l' : Array Bool) (hi : ops[i]? = some oi) (hN : oi.dst = some t) (hc : anyB md ops l l' i = true) (hQ : ∀ c a w, Q (.panic c) (a.put oi.dst undef) w → Q (.panic c) a w) (hw : Region.wanted oi (yielded ops a.tmps) = false) (a' : Act) (ha : a.put (some t) undef = a') (h : wpAnyLast P md ops Q S ds fuel l' a' w) : wpAnyLast P md ops Q S ds (fuel + 1) l a w := pure_ l' hi hN hc hQ (Or.inr ⟨hw, rfl⟩) ha h
theorem pV (i t : Nat) {oi : Oper} (v : Value) {fuel : Nat} {l : Array Bool} {a : Act} {w : World} (l' : Array Bool) (hi : ops[i]? = some oi) (hN : oi.dst = some t) (hc : anyB md ops l l' i = true) (hQ : ∀ c a w, Q (.panic c) (a.put oi.dst v) w → Q (.panic c) a w) (hw : Region.wanted oi (yielded ops a.tmps) = true) (hy : ∀ w, (execOp a.eval oi).run P w = .ok (.value v) w) (a' : Act) (ha : a.put (some t) v = a') (h : wpAnyLast P md ops Q S ds fuel l' a' w) : wpAnyLast P md ops Q S ds (fuel + 1) l a w := pure_ l' hi hN hc hQ (Or.inl ⟨hw, hy⟩) ha h
end
end Go.Proofs.YtiadhonhjnbliaaV
