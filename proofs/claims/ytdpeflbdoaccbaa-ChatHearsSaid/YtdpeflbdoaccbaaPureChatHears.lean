/- ChatHears, in plain Lean. -/
import Derived.Test.YtdpeflbdoaccbaaChC
import Derived.Test.YtdpeflbdoaccbaaXCHx16
set_option linter.unusedSimpArgs false
set_option linter.unusedVariables false
namespace Go.Proofs.Ytdpeflbdoaccbaa.Pure
open Go.RowKit Go.Proofs.Ytdpeflbdoaccbaa.XCH Go.Proofs.YtdpeflbdoaccbaaW.PrintWords Go.Proofs.YtdpeflbdoaccbaaW.PrintLast Go.Proofs.YtdpeflbdoaccbaaS
theorem hearv_len (l : List S44) (m : List S71) (t : List S46) (kind a b r : Int) : (hearv l m t kind a b r).length ≤ l.length := by
  unfold hearv
  split
  · exact Nat.le_trans (canonv_len _) (Nat.le_trans (List.length_filter_le _ _) (by simp))
  · simp
theorem ChatHears : barrowlaw38_ChatHears.Pure := by
  intro l m t kind a b r h1 h2 h3 h4 h5 h6 h7
  obtain ⟨k, hk, hs⟩ := ((Ev.ge 40000).and small_ev).get
  refine ⟨k, ?_⟩
  have hin : ∀ p ∈ l, In42 p.f1 := fun p hp => by
    obtain ⟨_, w1, w2⟩ := h1.2.2 p hp
    exact ⟨i64_of w1, i64_of w2⟩
  have hr : In64 r := i64_of h7
  unfold barrowlaw38_ChatHears.f
  rw [hs, Option.bind_some]
  split
  · rfl
  · split
    · rfl
    · split
      · rfl
      · rename_i q1 q2 q3
        have hl : l.length ≤ 100 := by omega
        have hm : m.length ≤ 100 := by omega
        have ht : t.length ≤ 100 := by omega
        have hv := hearv_len l m t kind a b r
        rw [hear_eq l m t kind a b r hl hm ht hr hin (by omega), rhear_eq l m t kind a b r hl hm ht hr hin (by omega), Option.bind_some, Option.bind_some, same_eq _ _ (by omega) (by omega), mutes_eq t a b ht (by omega), rmutes_eq t a b ht (by omega)]
        simp
end Go.Proofs.Ytdpeflbdoaccbaa.Pure
