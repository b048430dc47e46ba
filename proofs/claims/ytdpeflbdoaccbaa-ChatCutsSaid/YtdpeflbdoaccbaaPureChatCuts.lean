/- ChatCuts, in plain Lean. -/
import Derived.Test.YtdpeflbdoaccbaaChG
import Derived.Test.YtdpeflbdoaccbaaXCXx10
set_option linter.unusedSimpArgs false
set_option linter.unusedVariables false
namespace Go.Proofs.Ytdpeflbdoaccbaa.Pure
open Go.RowKit Go.Proofs.Ytdpeflbdoaccbaa.XCX Go.Proofs.YtdpeflbdoaccbaaW.PrintWords Go.Proofs.YtdpeflbdoaccbaaW.PrintLast Go.Proofs.YtdpeflbdoaccbaaS
theorem ChatCuts : barrowlaw38_ChatCuts.Pure := by
  intro s most l kind a h1 h2 h3 h4 h5
  obtain ⟨k, hk, hs⟩ := ((Ev.ge 8000000).and small_ev).get
  refine ⟨k, ?_⟩
  unfold barrowlaw38_ChatCuts.f
  rw [hs, Option.bind_some]
  split
  · rfl
  split
  · rfl
  rename_i q1 q2
  have hin : ∀ p ∈ l, In42 p.f1 := fun p hp => by
    obtain ⟨_, w1, w2⟩ := h3.2.2 p hp
    exact ⟨i64_of w1, i64_of w2⟩
  have fin : ∀ k, 10000 < k → barrowlaw38_ChatCuts.l199 k l kind a true false = some true := by
    intro k hk
    obtain ⟨k, rfl⟩ : ∃ q, k = q + 1 := ⟨k - 1, by omega⟩
    rw [barrowlaw38_ChatCuts.l199, if_neg (by decide), hear_eq l [] [] kind a 0 3 (by omega) (by simp) (by simp) (by constructor <;> decide) hin (k := k) (by omega), Option.bind_some]
    have hlen : (hearv l [] [] kind a 0 3).length ≤ 60 := by
      refine Nat.le_trans ?_ (show l.length ≤ 60 by omega)
      unfold hearv
      split
      · exact Nat.le_trans (canonv_len _) (Nat.le_trans (List.length_filter_le _ _) (by simp))
      · simp
    have hup : (hearv l [] [] kind a 0 3).Pairwise (· < ·) := by
      unfold hearv
      split
      · exact canonv_up _
      · exact List.Pairwise.nil
    have key := fun b => cuts_l1 a (hearv l [] [] kind a 0 3) (by omega) hup _ 0 k b (Nat.zero_add _) (by omega)
    rw [List.drop_zero] at key
    rcases hearv_self l kind a with h | h
    · rw [if_pos (by rw [h]; rfl)]
      exact (key true).trans (by simp)
    · have hne : ¬ ((hearv l [] [] kind a 0 3).length : Int) = 0 := by
        intro e
        have : hearv l [] [] kind a 0 3 = [] := List.eq_nil_of_length_eq_zero (by omega)
        rw [this] at h; simp at h
      rw [if_neg hne]
      exact (key false).trans (by simp [h])
  unfold chat_Cut.f
  by_cases c : most ≥ 1
  · obtain ⟨m, rfl⟩ : ∃ m : Nat, most = m := ⟨most.toNat, by omega⟩
    obtain ⟨v, hv, hj, hb, h⟩ := cut_val m (by omega) s.size s [] (Nat.le_refl _) (by omega) (by simp; omega)
    rw [h k (by omega), Option.bind_some, List.nil_append]
    obtain ⟨k', g1, g2⟩ := cuts_l0 s m l kind a v (by omega) (by omega) (fun y hy => by have := hb y hy; omega) v.length 0 k ⟨#[]⟩ (by omega) (by omega) (by
      rw [List.drop_zero, hj]; exact ByteArray.empty_append)
    rw [if_pos c] at g2
    exact g2.trans (fin k' (by omega))
  · obtain ⟨k0, rfl⟩ : ∃ q, k = q + 2 := ⟨k - 2, by omega⟩
    have h0 : chat_Cut.l0 (k0 + 2) s most [] = some [] := by
      rw [chat_Cut.l0, if_neg c]
      simp
    rw [h0, Option.bind_some, barrowlaw38_ChatCuts.l0, if_neg (by simp), if_neg c, if_pos (by omega)]
    exact fin _ (by omega)
end Go.Proofs.Ytdpeflbdoaccbaa.Pure
