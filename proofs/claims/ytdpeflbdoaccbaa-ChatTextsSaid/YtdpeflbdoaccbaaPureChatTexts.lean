/- ChatTexts, in plain Lean. -/
import Derived.Test.YtdpeflbdoaccbaaChF
import Derived.Test.YtdpeflbdoaccbaaXCHx18
set_option linter.unusedSimpArgs false
set_option linter.unusedVariables false
namespace Go.Proofs.Ytdpeflbdoaccbaa.Pure
open Go.RowKit Go.Proofs.Ytdpeflbdoaccbaa.XCH Go.Proofs.YtdpeflbdoaccbaaW.PrintWords Go.Proofs.YtdpeflbdoaccbaaW.PrintLast Go.Proofs.YtdpeflbdoaccbaaS
theorem ChatTexts : barrowlaw38_ChatTexts.Pure := by
  intro s l most h1 h2 h3
  obtain ⟨k, hk, hs⟩ := ((Ev.ge (8000000 + 2 * l.length)).and small_ev).get
  refine ⟨k, ?_⟩
  have hlen : l.length ≤ 140737488351232 := by have := h2.2.1; omega
  obtain ⟨f, hf, hfew⟩ := few_eq l s (by omega) (k := k) (by omega)
  unfold barrowlaw38_ChatTexts.f
  rw [hs, hf, Option.bind_some, Option.bind_some]
  cases f with
  | false => simp
  | true =>
    obtain ⟨q1, q2, q3⟩ := hfew rfl
    obtain ⟨v1, r1, r2⟩ := right_eq s (by omega) (k := k) (by omega)
    obtain ⟨v2, c1, c2⟩ := clean_eq s (by omega) l (by omega) (fun w hw => by have := q3 w hw; omega) (k := k) (by omega)
    obtain ⟨v3, hv3, w1, w2⟩ := words_eq s (by omega) (k := k) (by omega)
    obtain ⟨v4, hv4, t1, t2⟩ := cut_eq s most (by omega) (k := k) (by omega)
    rw [if_pos rfl, if_pos rfl, r1, r2, Option.bind_some, Option.bind_some, if_pos (by simp), c1, c2, Option.bind_some, Option.bind_some, if_pos rfl, w1, w2, Option.bind_some, Option.bind_some, texts_eq v3 (by omega) (by omega), Option.bind_some, if_pos rfl, t1, t2, Option.bind_some, Option.bind_some, texts_eq v4 (by omega) (by omega), Option.bind_some]
end Go.Proofs.Ytdpeflbdoaccbaa.Pure
