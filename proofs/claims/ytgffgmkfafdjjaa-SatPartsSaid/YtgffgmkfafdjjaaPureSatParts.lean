/- Clamped numbers, parts and roots are those of the document's own answer: for all numbers of 64 bits. -/
import Derived.Test.YtgffgmkfafdjjaaSatA
namespace Go.Proofs.Ytgffgmkfafdjjaa.Pure
open Go.RowKit Go.Proofs.Ytgffgmkfafdjjaa.XSat Go.Proofs.YtgffgmkfafdjjaaW.PrintWords Go.Proofs.YtgffgmkfafdjjaaW.PrintLast Go.Proofs.YtgffgmkfafdjjaaW.PrintMore

theorem refclamp_eq (k : Nat) (a lo hi : Int) : barrowref01_Clamp.f (k + 1) a lo hi = some (clampv a lo hi) := by
  unfold barrowref01_Clamp.f clampv
  simp only [barrowref01_Clamp.j0]
  by_cases h1 : lo > hi
  · rw [if_pos h1, if_true, if_pos (Or.inl h1)]
  · rw [if_neg h1]
    by_cases h2 : a < lo
    · rw [if_pos (decide_eq_true h2), if_pos (Or.inr h2)]
    · rw [if_neg (by simpa using h2), if_neg (show ¬ (lo > hi ∨ a < lo) by omega)]
      by_cases h3 : a > hi
      · rw [if_pos h3, if_pos h3]
      · rw [if_neg h3, if_neg h3]
theorem refpart_eq (k : Nat) (a num den : Int) : barrowref01_Part.f (k + 1) a num den = some (partv a num den) := by
  unfold barrowref01_Part.f partv
  simp only [refclamp_eq, Option.bind_some]
  split
  · rfl
  · rw [if_neg (by omega)]
theorem refroot_loop (n : Int) (hn : -9223372036854775808 ≤ n ∧ n ≤ 9223372036854775807) (d : Nat) : ∀ (k : Nat) (lo hi : Int), 2 * d + 1 < k → 0 ≤ lo → lo < hi → hi ≤ 3037000500 → hi - lo ≤ 2 ^ d → (n ≤ 0 → lo = 0) → (0 < n → lo * lo ≤ n ∧ n < hi * hi) →
    ∃ r, barrowref01_Root.l0 k n lo hi = some r ∧ IsRoot n r := by
  induction d with
  | zero =>
    intro k lo hi hk h0 h1 h2 hd hz hs
    obtain ⟨k, rfl⟩ : ∃ m, k = m + 2 := ⟨k - 2, by omega⟩
    have : hi = lo + 1 := by simp at hd; omega
    subst this
    refine ⟨lo, ?_, h0, hz, hs⟩
    simp only [barrowref01_Root.l0, barrowref01_Root.j1]
    rw [if_neg (by unfold wrap64; omega), if_neg (by decide)]
  | succ d ih =>
    intro k lo hi hk h0 h1 h2 hd hz hs
    obtain ⟨k, rfl⟩ : ∃ m, k = m + 2 := ⟨k - 2, by omega⟩
    have hw : wrap64 (lo + 1) = lo + 1 := by unfold wrap64; omega
    have hp2 : (2 : Int) ^ (d + 1) = 2 * 2 ^ d := by rw [Int.pow_succ]; omega
    have hp : (0 : Int) < 2 ^ d := Int.pow_pos (by decide)
    simp only [barrowref01_Root.l0, barrowref01_Root.j1]
    rw [hw]
    by_cases hlt : lo + 1 < hi
    · rw [if_pos hlt]
      by_cases hn0 : n > 0
      · rw [if_pos (decide_eq_true hn0)]
        have hm : wrap64 (Int.tdiv (wrap64 (lo + hi)) 2) = (lo + hi) / 2 := by
          rw [show wrap64 (lo + hi) = lo + hi by unfold wrap64; omega, Int.tdiv_eq_ediv_of_nonneg (by omega)]
          unfold wrap64; omega
        rw [hm]
        obtain ⟨m, hmm⟩ : ∃ q, (lo + hi) / 2 = q := ⟨_, rfl⟩
        rw [hmm]
        have hsq : m * m ≤ 3037000499 * 3037000499 := Int.mul_le_mul (by omega) (by omega) (by omega) (by omega)
        have hsq0 : 0 ≤ m * m := Int.mul_nonneg (by omega) (by omega)
        have hw2 : wrap64 (m * m) = m * m := by unfold wrap64; omega
        rw [hw2]
        by_cases hc : m * m ≤ n
        · rw [if_pos hc]
          exact ih k m hi (by omega) (by omega) (by omega) h2 (by omega) (fun h => by omega) (fun h => ⟨hc, (hs h).2⟩)
        · rw [if_neg hc]
          exact ih k lo m (by omega) h0 (by omega) (by omega) (by omega) hz (fun h => ⟨(hs h).1, by omega⟩)
      · rw [if_neg (by simpa using hn0)]
        have := hz (by omega)
        exact ⟨lo, rfl, h0, hz, fun h => by omega⟩
    · rw [if_neg hlt, if_neg (by decide)]
      have : hi = lo + 1 := by omega
      subst this
      exact ⟨lo, rfl, h0, hz, hs⟩
theorem SatParts : barrowlaw01_SatParts.Pure := by
  intro a b c wa wb wc
  have ha := i64_of wa
  refine ⟨100, ?_⟩
  unfold barrowlaw01_SatParts.f
  obtain ⟨r, hr, r1⟩ := root_eq a ha 100 (by decide)
  obtain ⟨s, hs, s1⟩ := refroot_loop a ha 32 100 0 3037000500 (by decide) (by decide) (by decide) (by decide) (by decide) (fun _ => rfl) (fun h => ⟨by omega, by omega⟩)
  have hs' : barrowref01_Root.f 100 a = some s := hs
  rw [small_eq, clamp_eq, refclamp_eq, part_eq, refpart_eq, hr, hs', root_unique r1 s1]
  simp
end Go.Proofs.Ytgffgmkfafdjjaa.Pure
