/- DrawFair: the program's draw out of words is the document's, for any words and any number. -/
import Derived.Test.YtkffeglkbpfndaaDrawA
namespace Go.Proofs.Ytkffeglkbpfndaa.Pure
open Go.RowKit Go.Proofs.Ytkffeglkbpfndaa.XDR Go.Proofs.YtkffeglkbpfndaaW.PrintWords Go.Proofs.YtkffeglkbpfndaaW.PrintLast
theorem ref_l0 (l : List Int) (n : Int) (hn : 1 ≤ n) (hn2 : n ≤ 4294967296) (hl : l.length ≤ 140737488355328) : ∀ (r : List Int) (i k : Nat), l.drop i = r → 2 * r.length < k → i ≤ l.length → barrowref02_Fair.l0 k l n (i : Int) = some (fairS (4294967296 - 4294967296 % n) n r i) := by
  intro r
  induction r with
  | nil =>
    intro i k h hk hi
    obtain ⟨k, rfl⟩ : ∃ m, k = m + 1 := ⟨k - 1, by simp at hk; omega⟩
    have := drop_nil h
    simp only [barrowref02_Fair.l0, fairS]
    rw [if_neg (by omega)]
  | cons x xs ih =>
    intro i k h hk hi
    simp only [List.length_cons] at hk
    obtain ⟨k, rfl⟩ : ∃ m, k = m + 1 + 1 := ⟨k - 2, by omega⟩
    obtain ⟨h1, h2, h3⟩ := rd_drop h
    simp only [barrowref02_Fair.l0, fairS, barrowref02_Fair.j2]
    rw [if_pos (by omega), if_pos (by omega), h2, wrap_end hn hn2, wrap_i (by omega), ih (i + 1) k h3 (by omega) (by omega)]
    unfold okw
    by_cases c : x < 0
    · rw [if_pos c]
      simp [show ¬ 0 ≤ x by omega]
    · rw [if_neg c]
      by_cases c2 : x ≥ 4294967296
      · simp [c2, show ¬ x < 4294967296 by omega]
      · simp only [decide_eq_true_eq, show 0 ≤ x by omega, show x < 4294967296 by omega, decide_true, Bool.and_self, if_true]
        rw [if_neg c2, if_pos (by omega), if_pos (by omega), if_neg (by omega)]
        by_cases c3 : x ≥ 4294967296 - 4294967296 % n
        · rw [if_neg (by omega), if_pos c3]; simp
        · rw [if_pos (by omega), if_neg c3]; simp
theorem ref_is (l : List Int) (n : Int) (hl : l.length ≤ 140737488355328) (k : Nat) (hk : 2 * l.length + 1 < k) : barrowref02_Fair.f k l n = some (fair l n) := by
  obtain ⟨k, rfl⟩ : ∃ m, k = m + 1 := ⟨k - 1, by omega⟩
  unfold barrowref02_Fair.f fair
  split
  · simp [barrowref02_Fair.j0]
  · simp only [barrowref02_Fair.j0, decide_eq_true_eq]
    split
    · rfl
    · exact ref_l0 l n (by omega) (by omega) hl l 0 k (by simp) (by omega) (by omega)
theorem DrawFair : barrowlaw02_DrawFair.Pure := by
  intro l n _ hl _ _
  refine ⟨2 * l.length + 20, ?_⟩
  unfold barrowlaw02_DrawFair.f
  rw [small_is _ (by omega), Option.bind_some]
  split
  · rfl
  · rw [fair_is l n (by omega) _ (by omega), Option.bind_some, ref_is l n (by omega) _ (by omega), Option.bind_some, if_pos rfl, if_pos rfl, if_pos rfl]
    simp
end Go.Proofs.Ytkffeglkbpfndaa.Pure
