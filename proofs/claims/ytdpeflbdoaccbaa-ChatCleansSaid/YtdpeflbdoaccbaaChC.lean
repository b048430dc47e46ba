/- Talk: the small case. -/
import Derived.Test.YtdpeflbdoaccbaaChA
import Derived.Test.YtdpeflbdoaccbaaXCLx9
import Derived.Test.YtdpeflbdoaccbaaXCLx7
import Derived.Test.YtdpeflbdoaccbaaXCLx8
import Derived.Test.YtdpeflbdoaccbaaXCLx6
set_option linter.unusedSimpArgs false
set_option linter.unusedVariables false
namespace Go.Proofs.Ytdpeflbdoaccbaa.Pure
open Go.RowKit Go.Proofs.Ytdpeflbdoaccbaa.XCL Go.Proofs.YtdpeflbdoaccbaaW.PrintWords Go.Proofs.YtdpeflbdoaccbaaW.PrintLast Go.Proofs.YtdpeflbdoaccbaaS
def at3 : List S44 := [⟨3, ⟨1, 0⟩⟩, ⟨1, ⟨0, 0⟩⟩, ⟨2, ⟨9, 0⟩⟩]
theorem small_ev : Ev (fun k => barrowlaw38_small.f k = some true) := by
  have hin : ∀ p ∈ at3, In42 p.f1 := by
    intro p hp
    simp [at3] at hp
    rcases hp with rfl | rfl | rfl <;> exact ⟨⟨by decide, by decide⟩, ⟨by decide, by decide⟩⟩
  have c1 : Ev (fun k => chat_Clean.f k (⟨#[66, 97, 100, 32, 98, 97, 100, 103, 101, 114]⟩ : ByteArray) [⟨#[98, 97, 100]⟩, ⟨#[98, 97, 100, 103, 101]⟩] = some ⟨#[42, 42, 42, 32, 42, 42, 42, 42, 42, 114]⟩) := Ev.of (fun k => chat_Clean.mono _ _ k) (K := 100) (by decide +kernel)
  have c2 : Ev (fun k => chat_Cut.f k (⟨#[97, 98, 32, 99, 100, 32, 101, 102]⟩ : ByteArray) 5 = some [⟨#[97, 98, 32]⟩, ⟨#[99, 100, 32, 101, 102]⟩]) := Ev.of (fun k => chat_Cut.mono _ _ k) (K := 100) (by decide +kernel)
  have c3 : Ev (fun k => chat_Words.f k (⟨#[65, 98, 45, 99, 44, 32, 68]⟩ : ByteArray) = some [⟨#[97, 98]⟩, ⟨#[99]⟩, ⟨#[100]⟩]) := Ev.of (fun k => chat_Words.mono _ k) (K := 100) (by decide +kernel)
  have c4 : Ev (fun k => barrowref37_SameTexts.f k [⟨#[97, 98, 32]⟩, ⟨#[99, 100, 32, 101, 102]⟩] [⟨#[97, 98, 32]⟩, ⟨#[99, 100, 32, 101, 102]⟩] = some true) := Ev.of (fun k => barrowref37_SameTexts.mono _ _ k) (K := 100) (by decide +kernel)
  have c5 : Ev (fun k => barrowref37_SameTexts.f k [⟨#[97, 98]⟩, ⟨#[99]⟩, ⟨#[100]⟩] [⟨#[97, 98]⟩, ⟨#[99]⟩, ⟨#[100]⟩] = some true) := Ev.of (fun k => barrowref37_SameTexts.mono _ _ k) (K := 100) (by decide +kernel)
  have c6 : Ev (fun k => chat_Right.f k (⟨#[97, 126]⟩ : ByteArray) = some true) := Ev.of (fun k => chat_Right.mono _ k) (K := 100) (by decide +kernel)
  have c7 : Ev (fun k => chat_Right.f k (⟨#[10]⟩ : ByteArray) = some false) := Ev.of (fun k => chat_Right.mono _ k) (K := 100) (by decide +kernel)
  refine ((((((((Ev.ge 1000).and c1).and c2).and c3).and c4).and c5).and c6).and c7).imp ?_
  rintro k ⟨⟨⟨⟨⟨⟨⟨hk, e1⟩, e2⟩, e3⟩, e4⟩, e5⟩, e6⟩, e7⟩
  have h1 := hear_eq at3 [] [⟨3, 2⟩] 1 1 0 4 (by decide) (by decide) (by decide) (by constructor <;> decide) hin (k := k) (by omega)
  have h2 := hear_eq at3 [] [⟨3, 1⟩] 4 1 3 0 (by decide) (by decide) (by decide) (by constructor <;> decide) hin (k := k) (by omega)
  have v1 : hearv at3 [] [⟨3, 2⟩] 1 1 0 4 = [1, 3] := by decide +kernel
  have v2 : hearv at3 [] [⟨3, 1⟩] 4 1 3 0 = [1] := by decide +kernel
  rw [v1] at h1
  rw [v2] at h2
  unfold at3 at h1 h2
  have l1 : (⟨#[42, 42, 42, 32, 42, 42, 42, 42, 42, 114]⟩ : ByteArray).toList = ([42, 42, 42, 32, 42, 42, 42, 42, 42, 114] : List UInt8) := by rw [ByteArray.toList_eq]
  unfold barrowlaw38_small.f
  simp only [Option.bind_some, e1, l1, if_true, e2, e3, e4, e5, h1, h2, same_eq [1, 3] [1, 3] (by decide) (k := k) (by simp; omega), same_eq [1] [1] (by decide) (k := k) (by simp; omega), decide_true, e6, e7]
  simp
end Go.Proofs.Ytdpeflbdoaccbaa.Pure
