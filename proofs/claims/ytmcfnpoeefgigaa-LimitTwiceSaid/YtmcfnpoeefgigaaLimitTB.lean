/- When some could be taken: plain numbers. -/
import Derived.Test.YtmcfnpoeefgigaaLimitTA
set_option linter.unusedVariables false
set_option linter.unusedSimpArgs false
namespace Go.Proofs.Ytmcfnpoeefgigaa.PureT
open Go.RowKit Go.Proofs.Ytmcfnpoeefgigaa.XLimitT Go.Proofs.YtmcfnpoeefgigaaW.PrintWords Go.Proofs.YtmcfnpoeefgigaaW.PrintLast Go.Proofs.YtmcfnpoeefgigaaW.PrintMore

theorem take_true {l t s rate most n : Int} (h : (takev l t s rate most n).2.2 = true) : Rightv l most ∧ 0 ≤ n ∧ n ≤ most := by
  unfold takev at h
  by_cases hc : Rightv (fillv l t s rate most).1 most ∧ 0 ≤ n ∧ n ≤ (fillv l t s rate most).1
  · have h1 := hc.1.2
    refine ⟨?_, hc.2.1, by omega⟩
    refine Classical.byContradiction fun hr => ?_
    have hf : fillv l t s rate most = (l, t) := by unfold fillv; rw [if_neg (fun h => hr h.1)]
    rw [hf] at hc
    exact hr hc.1
  · rw [if_neg hc] at h; simp at h
theorem take_iff (l t s rate most n : Int) (h : Rightv l most) (hn : 0 ≤ n ∧ n ≤ most) (ht : 0 ≤ t ∧ t ≤ s ∧ s ≤ 9223372036854775807) : (takev l t s rate most n).2.2 = true ↔ n ≤ l + ratev rate * (s - t) := by
  have hr := ratev_in rate
  have hd : satv (s - t) = s - t := satv_in (by omega)
  have hp : 0 ≤ ratev rate * (s - t) := Int.mul_nonneg hr.1 (by omega)
  have hf : fillv l t s rate most = (min (satv (l + satv (ratev rate * (s - t)))) most, s) := by
    unfold fillv
    rw [if_pos ⟨h, by omega⟩, hd]
  obtain ⟨p, hpe⟩ : ∃ p, ratev rate * (s - t) = p := ⟨_, rfl⟩
  rw [hpe] at hp hf ⊢
  have hl := h.2
  have hm := h.1
  have h1 : satv p = if p > 9223372036854775807 then 9223372036854775807 else p := by unfold satv; (repeat' split) <;> omega
  have h2 : n ≤ min (satv (l + satv p)) most ↔ n ≤ l + p := by
    rw [h1]
    unfold satv
    (repeat' split) <;> omega
  have h3 : Rightv (min (satv (l + satv p)) most) most := by
    have : 0 ≤ satv (l + satv p) := by
      rw [h1]
      unfold satv
      (repeat' split) <;> omega
    exact ⟨hm, by omega, by omega⟩
  unfold takev
  rw [hf]
  by_cases hc : n ≤ min (satv (l + satv p)) most
  · rw [if_pos ⟨h3, hn.1, hc⟩]
    simp only [true_iff]
    exact h2.1 hc
  · rw [if_neg (fun h => hc h.2.2)]
    constructor
    · intro h; simp at h
    · intro h; exact absurd (h2.2 h) hc
theorem take_before (l t s rate most n : Int) (h : Rightv l most) (hn : 0 ≤ n ∧ n ≤ most) (ht : s < t) : (takev l t s rate most n).2.2 = true ↔ n ≤ l := by
  have hf : fillv l t s rate most = (l, t) := by
    unfold fillv
    rw [if_neg (fun h => h.2 ht)]
  unfold takev
  rw [hf]
  by_cases hc : n ≤ l
  · rw [if_pos ⟨h, hn.1, hc⟩]
    simp [hc]
  · rw [if_neg (fun h => hc h.2.2)]
    simp [hc]
/-- The first time at which enough is there. -/
theorem first_time (l n r t T : Int) (hr : 1 ≤ r) (h1 : n ≤ l + r * (T - t)) (h2 : ¬ n ≤ l + r * (T - 1 - t)) : T = t + (n - l + r - 1) / r := by
  have e : r * (T - 1 - t) = r * (T - t) - r := by rw [show T - 1 - t = (T - t) - 1 by omega, Int.mul_sub, Int.mul_one]
  rw [e] at h2
  have a : T - t ≤ (n - l + r - 1) / r := (Int.le_ediv_iff_mul_le (by omega)).2 (by rw [Int.mul_comm]; omega)
  have b : (n - l + r - 1) / r < T - t + 1 := (Int.ediv_lt_iff_lt_mul (by omega)).2 (by rw [Int.add_mul, Int.mul_comm (T - t) r]; omega)
  omega
theorem wait_eq (k : Nat) (l t now rate most n : Int) (hl : In64 l) (ht : 0 ≤ t ∧ t ≤ 2305843009213693952) (hnow : 0 ≤ now ∧ now ≤ 9223372036854775807) (hn : In64 n) : limit_Wait.f (k + 2) l t now rate most n = some (waitv l t now rate most n) := by
  unfold limit_Wait.f waitv
  rw [take_eq k l t now rate most n hl ⟨by omega, by omega⟩ ⟨by omega, by omega⟩]
  simp only [Option.bind_some]
  by_cases h0 : (takev l t now rate most n).2.2 = true
  · rw [if_pos h0, if_pos h0]
  · rw [if_neg h0, if_neg h0, rate_eq, right_eq]
    simp only [Option.bind_some]
    have hr := ratev_in rate
    by_cases h1 : Rightv l most
    · rw [if_pos (decide_eq_true h1)]
      by_cases h2 : n < 0
      · rw [if_pos h2, if_pos (by omega)]
      · rw [if_neg h2]
        by_cases h3 : n > most
        · rw [if_pos h3, if_pos (by omega)]
        · rw [if_neg h3]
          by_cases h4 : ratev rate = 0
          · rw [if_pos h4, if_pos (by omega)]
          · rw [if_neg h4, if_neg (by intro h; rcases h with h | h | h | h; exact h h1; omega; omega; exact h4 h)]
            have hnl : l < n := by
              refine Int.not_le.1 fun hle => h0 ?_
              rcases Int.lt_or_le now t with hlt | hge
              · exact (take_before l t now rate most n h1 ⟨by omega, by omega⟩ hlt).2 hle
              · refine (take_iff l t now rate most n h1 ⟨by omega, by omega⟩ ⟨by omega, by omega, by omega⟩).2 ?_
                have : 0 ≤ ratev rate * (now - t) := Int.mul_nonneg hr.1 (by omega)
                omega
            have hl1 := h1.2
            have hm1 := h1.1
            obtain ⟨r, hre⟩ : ∃ r, ratev rate = r := ⟨_, rfl⟩
            rw [hre] at hr h4 ⊢
            have w1 : wrap64 (n - l) = n - l := by unfold wrap64; omega
            have w2 : wrap64 (n - l + r) = n - l + r := by unfold wrap64; omega
            have w3 : wrap64 (n - l + r - 1) = n - l + r - 1 := by unfold wrap64; omega
            have hq0 : 0 ≤ (n - l + r - 1) / r := Int.ediv_nonneg (by omega) (by omega)
            have hq1 : (n - l + r - 1) / r ≤ n - l + r - 1 := Int.ediv_le_self _ (by omega)
            have w4 : wrap64 ((n - l + r - 1) / r) = (n - l + r - 1) / r := by unfold wrap64; omega
            rw [w1, w2, w3, Int.tdiv_eq_ediv_of_nonneg (by omega), w4, show k + 2 = (k + 1) + 1 by omega, add_eq (k + 1) t _ (by omega) (by omega)]
            simp only [Option.bind_some, mx_max]
    · rw [if_neg (by simpa using h1), if_pos (Or.inl h1)]
end Go.Proofs.Ytmcfnpoeefgigaa.PureT
