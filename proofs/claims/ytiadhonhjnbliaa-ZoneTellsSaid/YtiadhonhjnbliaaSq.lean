import Derived.Test.YtiadhonhjnbliaaSL
namespace Go.Proofs.YtiadhonhjnbliaaV
open Go.Proofs.YtiadhonhjnbliaaS Go.RowKit Go.Proofs.YtiadhonhjnbliaaW.PrintWords
abbrev I : Bool := true
abbrev O : Bool := false
theorem bc {b : Nat} {t : TypeId} {vs : Array Value} {L : List Asr} {w : World} {S : Nat → Prop} (h : SL (cells b t vs :: L) w S) (i : Nat) {v : Value} (e : vs[i]? = some v) : w.cell? ⟨b, i, none⟩ = some v := (blk_cell (SL.at_ h) i).trans e
end Go.Proofs.YtiadhonhjnbliaaV
